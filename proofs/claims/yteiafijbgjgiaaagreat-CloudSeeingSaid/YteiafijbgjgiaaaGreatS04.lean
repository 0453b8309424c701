/- Walks of the program's functions (printed, made shorter), each with what it computes. -/
import Derived.Test.YteiafijbgjgiaaaGreatS03
namespace Go.Proofs.YteiafijbgjgiaaaGreat.A
set_option maxHeartbeats 8000000
set_option maxRecDepth 100000
open Go.RowKit Go.Proofs.YteiafijbgjgiaaaGreatW.PrintWords Go.Proofs.YteiafijbgjgiaaaGreatW.PrintLast Go.Proofs.YteiafijbgjgiaaaGreatW.PrintMore
attribute [local go_sem] max2_int min2_int max_two min_two max_three min_three max_four min_four
set_option linter.unusedVariables false
set_option linter.unusedSimpArgs false
section
def Rf_IsBlind.f (k : Nat) (l0 : List Int) (a1_0 : Int) (a1_1 : Int) (a1_2 : Int) (a1_3 : Int) (a2 : Int) : Option (Bool) := (Rf_Rest.f k l0 0 (l0.length : Int)).bind fun t567 => (if a2 < a1_0 then (some true) else (if 0 ≤ a2 then (if a2 < (l0.length : Int) then (if (rd l0 a2) ≥ a1_1 then (some true) else ((Rf_Rest.f k l0 (wrap64 (-t567)) a2).bind fun t569 => (some (decide ((wrap64 (t569 * a1_3)) < (wrap64 (a1_2 * (wrap64 (-t567))))))))) else (none)) else (none)))
theorem Rf_IsBlind.mono : ∀ a0 a1 a2 a3 a4 a5 k, LeO (Rf_IsBlind.f k a0 a1 a2 a3 a4 a5) (Rf_IsBlind.f (k + 1) a0 a1 a2 a3 a4 a5) := by
 intro a0 a1 a2 a3 a4 a5 k; unfold Rf_IsBlind.f
 repeat' with_reducible first
  | exact Rf_Rest.mono ..
  | exact LeO.refl ..
  | exact LeO.none ..
  | refine LeO.ite ?_ ?_
  | refine LeO.bind ?_ (fun _ => ?_)
def Rf_IsBlind.T2 : Bool × List (List Nat × List Nat) := (true, [([], []), ([], []), ([1], [1]), ([0, 2], [0, 2]), ([3], [3]), ([4], [4]), ([4], [4]), ([5, 6, 4], [4, 5, 6]), ([7, 4], [4, 7]), ([4], [4]), ([9, 4], [4, 9]), ([8, 10, 4], [4, 8, 10]), ([4, 11], [4, 11]), ([12, 4], [12]), ([13], [13]), ([13], [13]), ([13], [13]), ([14, 15, 16, 13, 13], [13, 14, 15, 16]), ([13], [13]), ([18, 13], [13, 18]), ([19, 13], [13, 19]), ([17, 20, 13], [13, 17, 20]), ([13], [13]), ([22, 13], [13, 22]), ([23, 13], [13, 23]), ([13], [13]), ([24, 25, 13], [13, 24, 25]), ([21, 26, 13], [13, 21, 26]), ([13, 27], [13, 27]), ([28, 17, 0, 1, 2, 3, 4, 5, 6, 7, 8, 9, 10, 11, 12, 13, 14, 15, 16, 17, 18, 19, 20, 21, 22, 23, 24, 25, 26, 27, 28], [28])])
def Rf_IsBlind.B2 : List Nat := [0, 0, 2, 7, 15, 31, 31, 127, 255, 31, 543, 2047, 4095, 8191, 16383, 16383, 16383, 131071, 16383, 278527, 802815, 2097151, 16383, 4210687, 12599295, 16383, 62930943, 134217727, 268435455, 536870911]
theorem Rf_IsBlind.tab2 : rtab .any (opsOf Tryz.f59 2) = Rf_IsBlind.T2 := by kernel_rfl
theorem Rf_IsBlind.bits2 : waitsOk Rf_IsBlind.T2.2 Rf_IsBlind.B2 = true := by kernel_rfl
theorem Rf_IsBlind.calls (k : Nat) (A0 : Option Addr) (c0 : Nat) (l0 : List Int) (a1_0 : Int) (a1_1 : Int) (a1_2 : Int) (a1_3 : Int) (a2 : Int) (r : Bool) (w : World) (hr0 : Kd.C (Kd.int .i64) w A0 l0.length l0) (hc0 : l0.length ≤ c0) (H : Rf_IsBlind.f k l0 a1_0 a1_1 a1_2 a1_3 a2 = some r) :
  Calls Tryz.prog 59 #[.slice A0 l0.length c0, .agg #[.int .i64 a1_0, .int .i64 a1_1, .int .i64 a1_2, .int .i64 a1_3], .int .i64 a2] w fun e w' => e = .returned (.bool r) ∧ Below w.heap.size w w' := by
 have hu48 := Tryz.underlying48; have HR0 := m0 hr0; have HC0 := m0 hc0; clear hr0 hc0; have HB := m0 (Below.refl w.heap.size w); unfold Rf_IsBlind.f at H; replace H := oa H; obtain ⟨t567, A4, H⟩ := H; (try dsimp only at H)
 by_cases c5 : a2 < a1_0
 ·rw [if_pos c5] at H; have c5b0 := decide_eq_true c5; clear c5; obtain rfl := Option.some.inj H; go_enter Tryz.func59, Tryz.ntmps59
  try go_wp2_with (first | ((with_reducible refine ga 4 rfl ?_); refine be 4 48 #[.int .i64 a1_0, .int .i64 a1_1, .int .i64 a1_2, .int .i64 a1_3] ?_; intro gb566 hg w6 hbox hb; have BK566 := m0 hbox; have GE566 := gw w hg; replace HB := sb HB hb; clear hb hbox hg) | ((with_reducible refine gc 16 rfl ?_); refine gl (some 11) Tryz.func16 #[.slice A0 l0.length c0, .int .i64 0, .int .i64 (l0.length : Int)] ?_; (with_reducible refine (Rf_Rest.calls k _ _ l0 0 (l0.length : Int) t567 _ ?side1 ?side2 A4.out).mono ?_); (case side1 => exact cb HR0 HB); (case side2 => exact HC0.out); rintro e w' ⟨rfl, ⟨nd, rfl⟩⟩; refine ⟨_, rfl, ?_⟩))
  (try (rw [drewN_self w6]; generalize hq_ : World.drewN w6 _ = w6; replace BK566 := gd BK566 hq_; replace HB := gs HB hq_; clear hq_))
  replace BK566 := bd BK566; replace HB := sd HB; refine start_ (n := 30) (S := fun w' => w'.cell? ⟨gb566, 0, none⟩ = some (.int .i64 a1_0) ∧ w'.cell? ⟨gb566, 1, none⟩ = some (.int .i64 a1_1) ∧ w'.cell? ⟨gb566, 2, none⟩ = some (.int .i64 a1_2) ∧ w'.cell? ⟨gb566, 3, none⟩ = some (.int .i64 a1_3)) (ds := []) _ (by kernel_rfl) rfl rfl cz (fun hH => ?_); refine with_tabW Rf_IsBlind.tab2 Rf_IsBlind.bits2 (fun HT_ HW_ => ?_); generalize w6.drew = w7 at BK566 HB hH ⊢; refine pZ 0 (some 13) (bs 30 1) HT_ ?_; refine pZ 1 (some 14) (bs 30 3) HT_ ?_; refine takeZ 2 (some 15) (bs 30 7) (tw HT_ HW_) hH ?_; refine pZ 3 (some 16) (bs 30 15) HT_ ?_; refine pZ 4 (some 17) (bs 30 31) HT_ ?_; refine pure_ (i := 5) (N := some 18) (v := undef) (a' := ?_) (bs 30 63) rfl rfl (any_of HT_.out (by kernel_rfl)) (fun _ _ _ h => h) (Or.inr ⟨by rfl, rfl⟩) ?_ ?_; rotate_left
  ·exact pz
  refine pure_ (i := 6) (N := some 19) (v := undef) (a' := ?_) (bs 30 127) rfl rfl (any_of HT_.out (by kernel_rfl)) (fun _ _ _ h => h) (Or.inr ⟨by rfl, rfl⟩) ?_ ?_; rotate_left
  ·exact pz
  refine pure_ (i := 7) (N := some 20) (v := undef) (a' := ?_) (bs 30 255) rfl rfl (any_of HT_.out (by kernel_rfl)) (fun _ _ _ h => h) (Or.inr ⟨by rfl, rfl⟩) ?_ ?_; rotate_left
  ·exact pz
  refine pure_ (i := 8) (N := some 21) (v := undef) (a' := ?_) (bs 30 511) rfl rfl (any_of HT_.out (by kernel_rfl)) (fun _ _ _ h => h) (Or.inr ⟨by rfl, rfl⟩) ?_ ?_; rotate_left
  ·exact pz
  refine pure_ (i := 9) (N := some 22) (v := undef) (a' := ?_) (bs 30 1023) rfl rfl (any_of HT_.out (by kernel_rfl)) (fun _ _ _ h => h) (Or.inr ⟨by rfl, rfl⟩) ?_ ?_; rotate_left
  ·exact pz
  refine pure_ (i := 10) (N := some 23) (v := undef) (a' := ?_) (bs 30 2047) rfl rfl (any_of HT_.out (by kernel_rfl)) (fun _ _ _ h => h) (Or.inr ⟨by rfl, rfl⟩) ?_ ?_; rotate_left
  ·exact pz
  refine pure_ (i := 11) (N := some 24) (v := undef) (a' := ?_) (bs 30 4095) rfl rfl (any_of HT_.out (by kernel_rfl)) (fun _ _ _ h => h) (Or.inr ⟨by rfl, rfl⟩) ?_ ?_; rotate_left
  ·exact pz
  refine pZ 12 (some 25) (bs 30 8191) HT_ ?_; refine pZ 13 (some 26) (bs 30 16383) HT_ ?_; refine pure_ (i := 14) (N := some 27) (v := undef) (a' := ?_) (bs 30 32767) rfl rfl (any_of HT_.out (by kernel_rfl)) (fun _ _ _ h => h) (Or.inr ⟨by rfl, rfl⟩) ?_ ?_; rotate_left
  ·exact pz
  refine pure_ (i := 15) (N := some 28) (v := undef) (a' := ?_) (bs 30 65535) rfl rfl (any_of HT_.out (by kernel_rfl)) (fun _ _ _ h => h) (Or.inr ⟨by rfl, rfl⟩) ?_ ?_; rotate_left
  ·exact pz
  refine pure_ (i := 16) (N := some 29) (v := undef) (a' := ?_) (bs 30 131071) rfl rfl (any_of HT_.out (by kernel_rfl)) (fun _ _ _ h => h) (Or.inr ⟨by rfl, rfl⟩) ?_ ?_; rotate_left
  ·exact pz
  refine pure_ (i := 17) (N := some 30) (v := undef) (a' := ?_) (bs 30 262143) rfl rfl (any_of HT_.out (by kernel_rfl)) (fun _ _ _ h => h) (Or.inr ⟨by rfl, rfl⟩) ?_ ?_; rotate_left
  ·exact pz
  refine pure_ (i := 18) (N := some 31) (v := undef) (a' := ?_) (bs 30 524287) rfl rfl (any_of HT_.out (by kernel_rfl)) (fun _ _ _ h => h) (Or.inr ⟨by rfl, rfl⟩) ?_ ?_; rotate_left
  ·exact pz
  refine pure_ (i := 19) (N := some 32) (v := undef) (a' := ?_) (bs 30 1048575) rfl rfl (any_of HT_.out (by kernel_rfl)) (fun _ _ _ h => h) (Or.inr ⟨by rfl, rfl⟩) ?_ ?_; rotate_left
  ·exact pz
  refine pure_ (i := 20) (N := some 33) (v := undef) (a' := ?_) (bs 30 2097151) rfl rfl (any_of HT_.out (by kernel_rfl)) (fun _ _ _ h => h) (Or.inr ⟨by rfl, rfl⟩) ?_ ?_; rotate_left
  ·exact pz
  refine pure_ (i := 21) (N := some 34) (v := undef) (a' := ?_) (bs 30 4194303) rfl rfl (any_of HT_.out (by kernel_rfl)) (fun _ _ _ h => h) (Or.inr ⟨by rfl, rfl⟩) ?_ ?_; rotate_left
  ·exact pz
  refine pure_ (i := 22) (N := some 35) (v := undef) (a' := ?_) (bs 30 8388607) rfl rfl (any_of HT_.out (by kernel_rfl)) (fun _ _ _ h => h) (Or.inr ⟨by rfl, rfl⟩) ?_ ?_; rotate_left
  ·exact pz
  refine pure_ (i := 23) (N := some 36) (v := undef) (a' := ?_) (bs 30 16777215) rfl rfl (any_of HT_.out (by kernel_rfl)) (fun _ _ _ h => h) (Or.inr ⟨by rfl, rfl⟩) ?_ ?_; rotate_left
  ·exact pz
  refine pure_ (i := 24) (N := some 37) (v := undef) (a' := ?_) (bs 30 33554431) rfl rfl (any_of HT_.out (by kernel_rfl)) (fun _ _ _ h => h) (Or.inr ⟨by rfl, rfl⟩) ?_ ?_; rotate_left
  ·exact pz
  refine pure_ (i := 25) (N := some 38) (v := undef) (a' := ?_) (bs 30 67108863) rfl rfl (any_of HT_.out (by kernel_rfl)) (fun _ _ _ h => h) (Or.inr ⟨by rfl, rfl⟩) ?_ ?_; rotate_left
  ·exact pz
  refine pure_ (i := 26) (N := some 39) (v := undef) (a' := ?_) (bs 30 134217727) rfl rfl (any_of HT_.out (by kernel_rfl)) (fun _ _ _ h => h) (Or.inr ⟨by rfl, rfl⟩) ?_ ?_; rotate_left
  ·exact pz
  refine pure_ (i := 27) (N := some 40) (v := undef) (a' := ?_) (bs 30 268435455) rfl rfl (any_of HT_.out (by kernel_rfl)) (fun _ _ _ h => h) (Or.inr ⟨by rfl, rfl⟩) ?_ ?_; rotate_left
  ·exact pz
  refine pZ 28 (some 41) (bs 30 536870911) HT_ ?_; refine pZ 29 (some 6) (bs 30 1073741823) HT_ ?_; refine done_ (done_of HT_.out (by kernel_rfl)) ?_
  try go_wp2
  go_ret
  exact ez
 ·rw [if_neg c5] at H; have c5b0 := decide_eq_false c5; clear c5
  by_cases c8 : 0 ≤ a2
  ·rw [if_pos c8] at H; have c8b0 := decide_eq_true c8; clear c8
   by_cases c9 : a2 < (l0.length : Int)
   ·rw [if_pos c9] at H; have c9b0 := decide_eq_true c9; clear c9
    by_cases c10 : (rd l0 a2) ≥ a1_1
    ·rw [if_pos c10] at H; have c10b0 := decide_eq_true c10; clear c10; obtain rfl := Option.some.inj H; go_enter Tryz.func59, Tryz.ntmps59
     try go_wp2_with (first | ((with_reducible refine ga 4 rfl ?_); refine be 4 48 #[.int .i64 a1_0, .int .i64 a1_1, .int .i64 a1_2, .int .i64 a1_3] ?_; intro gb566 hg w11 hbox hb; have BK566 := m0 hbox; have GE566 := gw w hg; replace HB := sb HB hb; clear hb hbox hg) | ((with_reducible refine gc 16 rfl ?_); refine gl (some 11) Tryz.func16 #[.slice A0 l0.length c0, .int .i64 0, .int .i64 (l0.length : Int)] ?_; (with_reducible refine (Rf_Rest.calls k _ _ l0 0 (l0.length : Int) t567 _ ?side1 ?side2 A4.out).mono ?_); (case side1 => exact cb HR0 HB); (case side2 => exact HC0.out); rintro e w' ⟨rfl, ⟨nd, rfl⟩⟩; refine ⟨_, rfl, ?_⟩))
     (try (rw [drewN_self w11]; generalize hq_ : World.drewN w11 _ = w11; replace BK566 := gd BK566 hq_; replace HB := gs HB hq_; clear hq_))
     replace BK566 := bd BK566; replace HB := sd HB; have p568 : 0 ≤ (a2 : Int) := od; have q568 : a2 < (l0.length : Int) := od; obtain ⟨ad568, e568, hx568_0⟩ := Kd.at_int HR0.out a2 p568 q568; have hw568_0 := hx568_0
     cases e568
     replace hx568_0 := hc HB hx568_0; replace p568 := eq_true p568; replace q568 := eq_true q568; refine start_ (n := 30) (S := fun w' => w'.cell? ⟨gb566, 0, none⟩ = some (.int .i64 a1_0) ∧ w'.cell? ⟨gb566, 1, none⟩ = some (.int .i64 a1_1) ∧ w'.cell? ⟨gb566, 2, none⟩ = some (.int .i64 a1_2) ∧ w'.cell? ⟨gb566, 3, none⟩ = some (.int .i64 a1_3) ∧ w'.cell? (ad568.add (a2).toNat) = some (.int .i64 (rd l0 a2))) (ds := []) _ (by kernel_rfl) rfl rfl ⟨(blk_cell BK566.out 0).trans rfl, (blk_cell BK566.out 1).trans rfl, (blk_cell BK566.out 2).trans rfl, (blk_cell BK566.out 3).trans rfl, ((HB.out.cell (World.block_lt_of_cell? w _ hw568_0)).trans hw568_0)⟩ (fun hH => ?_); refine with_tabW Rf_IsBlind.tab2 Rf_IsBlind.bits2 (fun HT_ HW_ => ?_); generalize w11.drew = w12 at BK566 HB hx568_0 hH ⊢; refine pZ 0 (some 13) (bs 30 1) HT_ ?_; refine pZ 1 (some 14) (bs 30 3) HT_ ?_; refine takeZ 2 (some 15) (bs 30 7) (tw HT_ HW_) hH ?_; refine pZ 3 (some 16) (bs 30 15) HT_ ?_; refine pZ 4 (some 17) (bs 30 31) HT_ ?_; refine pZ 5 (some 18) (bs 30 63) HT_ ?_; refine pZ 6 (some 19) (bs 30 127) HT_ ?_; refine pZ 7 (some 20) (bs 30 255) HT_ ?_; refine pZ 9 (some 22) (bs 30 767) HT_ ?_; refine takeZ 8 (some 21) (bs 30 1023) (tw HT_ HW_) hH ?_; refine takeZ 10 (some 23) (bs 30 2047) (tw HT_ HW_) hH ?_; refine pZ 11 (some 24) (bs 30 4095) HT_ ?_; refine pZ 12 (some 25) (bs 30 8191) HT_ ?_; refine pZ 13 (some 26) (bs 30 16383) HT_ ?_; refine pure_ (i := 14) (N := some 27) (v := undef) (a' := ?_) (bs 30 32767) rfl rfl (any_of HT_.out (by kernel_rfl)) (fun _ _ _ h => h) (Or.inr ⟨by rfl, rfl⟩) ?_ ?_; rotate_left
     ·exact pz
     refine pure_ (i := 15) (N := some 28) (v := undef) (a' := ?_) (bs 30 65535) rfl rfl (any_of HT_.out (by kernel_rfl)) (fun _ _ _ h => h) (Or.inr ⟨by rfl, rfl⟩) ?_ ?_; rotate_left
     ·exact pz
     refine pure_ (i := 16) (N := some 29) (v := undef) (a' := ?_) (bs 30 131071) rfl rfl (any_of HT_.out (by kernel_rfl)) (fun _ _ _ h => h) (Or.inr ⟨by rfl, rfl⟩) ?_ ?_; rotate_left
     ·exact pz
     refine pure_ (i := 17) (N := some 30) (v := undef) (a' := ?_) (bs 30 262143) rfl rfl (any_of HT_.out (by kernel_rfl)) (fun _ _ _ h => h) (Or.inr ⟨by rfl, rfl⟩) ?_ ?_; rotate_left
     ·exact pz
     refine pure_ (i := 18) (N := some 31) (v := undef) (a' := ?_) (bs 30 524287) rfl rfl (any_of HT_.out (by kernel_rfl)) (fun _ _ _ h => h) (Or.inr ⟨by rfl, rfl⟩) ?_ ?_; rotate_left
     ·exact pz
     refine pure_ (i := 19) (N := some 32) (v := undef) (a' := ?_) (bs 30 1048575) rfl rfl (any_of HT_.out (by kernel_rfl)) (fun _ _ _ h => h) (Or.inr ⟨by rfl, rfl⟩) ?_ ?_; rotate_left
     ·exact pz
     refine pure_ (i := 20) (N := some 33) (v := undef) (a' := ?_) (bs 30 2097151) rfl rfl (any_of HT_.out (by kernel_rfl)) (fun _ _ _ h => h) (Or.inr ⟨by rfl, rfl⟩) ?_ ?_; rotate_left
     ·exact pz
     refine pure_ (i := 21) (N := some 34) (v := undef) (a' := ?_) (bs 30 4194303) rfl rfl (any_of HT_.out (by kernel_rfl)) (fun _ _ _ h => h) (Or.inr ⟨by rfl, rfl⟩) ?_ ?_; rotate_left
     ·exact pz
     refine pure_ (i := 22) (N := some 35) (v := undef) (a' := ?_) (bs 30 8388607) rfl rfl (any_of HT_.out (by kernel_rfl)) (fun _ _ _ h => h) (Or.inr ⟨by rfl, rfl⟩) ?_ ?_; rotate_left
     ·exact pz
     refine pure_ (i := 23) (N := some 36) (v := undef) (a' := ?_) (bs 30 16777215) rfl rfl (any_of HT_.out (by kernel_rfl)) (fun _ _ _ h => h) (Or.inr ⟨by rfl, rfl⟩) ?_ ?_; rotate_left
     ·exact pz
     refine pure_ (i := 24) (N := some 37) (v := undef) (a' := ?_) (bs 30 33554431) rfl rfl (any_of HT_.out (by kernel_rfl)) (fun _ _ _ h => h) (Or.inr ⟨by rfl, rfl⟩) ?_ ?_; rotate_left
     ·exact pz
     refine pure_ (i := 25) (N := some 38) (v := undef) (a' := ?_) (bs 30 67108863) rfl rfl (any_of HT_.out (by kernel_rfl)) (fun _ _ _ h => h) (Or.inr ⟨by rfl, rfl⟩) ?_ ?_; rotate_left
     ·exact pz
     refine pure_ (i := 26) (N := some 39) (v := undef) (a' := ?_) (bs 30 134217727) rfl rfl (any_of HT_.out (by kernel_rfl)) (fun _ _ _ h => h) (Or.inr ⟨by rfl, rfl⟩) ?_ ?_; rotate_left
     ·exact pz
     refine pure_ (i := 27) (N := some 40) (v := undef) (a' := ?_) (bs 30 268435455) rfl rfl (any_of HT_.out (by kernel_rfl)) (fun _ _ _ h => h) (Or.inr ⟨by rfl, rfl⟩) ?_ ?_; rotate_left
     ·exact pz
     refine pZ 28 (some 41) (bs 30 536870911) HT_ ?_; refine pZ 29 (some 6) (bs 30 1073741823) HT_ ?_; refine done_ (done_of HT_.out (by kernel_rfl)) ?_
     try go_wp2
     go_ret
     exact ez
    ·rw [if_neg c10] at H; have c10b0 := decide_eq_false c10; clear c10; replace H := oa H; obtain ⟨t569, A13, H⟩ := H; (try dsimp only at H); obtain rfl := Option.some.inj H; go_enter Tryz.func59, Tryz.ntmps59
     try go_wp2_with (first | ((with_reducible refine ga 4 rfl ?_); refine be 4 48 #[.int .i64 a1_0, .int .i64 a1_1, .int .i64 a1_2, .int .i64 a1_3] ?_; intro gb566 hg w14 hbox hb; have BK566 := m0 hbox; have GE566 := gw w hg; replace HB := sb HB hb; clear hb hbox hg) | ((with_reducible refine gc 16 rfl ?_); refine gl (some 11) Tryz.func16 #[.slice A0 l0.length c0, .int .i64 0, .int .i64 (l0.length : Int)] ?_; (with_reducible refine (Rf_Rest.calls k _ _ l0 0 (l0.length : Int) t567 _ ?side1 ?side2 A4.out).mono ?_); (case side1 => exact cb HR0 HB); (case side2 => exact HC0.out); rintro e w' ⟨rfl, ⟨nd, rfl⟩⟩; refine ⟨_, rfl, ?_⟩))
     (try (rw [drewN_self w14]; generalize hq_ : World.drewN w14 _ = w14; replace BK566 := gd BK566 hq_; replace HB := gs HB hq_; clear hq_))
     replace BK566 := bd BK566; replace HB := sd HB; have p568 : 0 ≤ (a2 : Int) := od; have q568 : a2 < (l0.length : Int) := od; obtain ⟨ad568, e568, hx568_0⟩ := Kd.at_int HR0.out a2 p568 q568; have hw568_0 := hx568_0
     cases e568
     replace hx568_0 := hc HB hx568_0; replace p568 := eq_true p568; replace q568 := eq_true q568; refine start_ (n := 30) (S := fun w' => w'.cell? ⟨gb566, 0, none⟩ = some (.int .i64 a1_0) ∧ w'.cell? ⟨gb566, 1, none⟩ = some (.int .i64 a1_1) ∧ w'.cell? ⟨gb566, 2, none⟩ = some (.int .i64 a1_2) ∧ w'.cell? ⟨gb566, 3, none⟩ = some (.int .i64 a1_3) ∧ w'.cell? (ad568.add (a2).toNat) = some (.int .i64 (rd l0 a2))) (ds := []) _ (by kernel_rfl) rfl rfl ⟨(blk_cell BK566.out 0).trans rfl, (blk_cell BK566.out 1).trans rfl, (blk_cell BK566.out 2).trans rfl, (blk_cell BK566.out 3).trans rfl, ((HB.out.cell (World.block_lt_of_cell? w _ hw568_0)).trans hw568_0)⟩ (fun hH => ?_); refine with_tabW Rf_IsBlind.tab2 Rf_IsBlind.bits2 (fun HT_ HW_ => ?_); generalize w14.drew = w15 at BK566 HB hx568_0 hH ⊢; refine pZ 0 (some 13) (bs 30 1) HT_ ?_; refine pZ 1 (some 14) (bs 30 3) HT_ ?_; refine takeZ 2 (some 15) (bs 30 7) (tw HT_ HW_) hH ?_; refine pZ 3 (some 16) (bs 30 15) HT_ ?_; refine pZ 4 (some 17) (bs 30 31) HT_ ?_; refine pZ 5 (some 18) (bs 30 63) HT_ ?_; refine pZ 6 (some 19) (bs 30 127) HT_ ?_; refine pZ 7 (some 20) (bs 30 255) HT_ ?_; refine pZ 9 (some 22) (bs 30 767) HT_ ?_; refine takeZ 8 (some 21) (bs 30 1023) (tw HT_ HW_) hH ?_; refine takeZ 10 (some 23) (bs 30 2047) (tw HT_ HW_) hH ?_; refine pZ 11 (some 24) (bs 30 4095) HT_ ?_; refine pZ 12 (some 25) (bs 30 8191) HT_ ?_; refine pZ 13 (some 26) (bs 30 16383) HT_ ?_; refine pZ 14 (some 27) (bs 30 32767) HT_ ?_; refine pZ 15 (some 28) (bs 30 65535) HT_ ?_; refine pZ 16 (some 29) (bs 30 131071) HT_ ?_; refine pZ 18 (some 31) (bs 30 393215) HT_ ?_; refine pZ 19 (some 32) (bs 30 917503) HT_ ?_; refine pZ 22 (some 35) (bs 30 5111807) HT_ ?_; refine pZ 23 (some 36) (bs 30 13500415) HT_ ?_; refine pZ 25 (some 38) (bs 30 47054847) HT_ ?_; refine takeZ 20 (some 33) (bs 30 48103423) (tw HT_ HW_) hH ?_; refine takeZ 24 (some 37) (bs 30 64880639) (tw HT_ HW_) hH ?_; refine pZ 26 (some 39) (bs 30 131989503) HT_ ?_; refine oneZ 17 (some 30) (bs 30 132120575) (o1 HT_) fun K hK => ?_; refine gz Tryz.func16 #[.slice (some ad568) l0.length c0, .int .i64 (wrap64 (-t567)), .int .i64 a2] ?_
     with_reducible refine (Rf_Rest.calls k _ _ l0 (wrap64 (-t567)) a2 t569 _ ?side1 ?side2 A13.out).mono ?_
     (case side1 => exact cb HR0 HB)
     (case side2 => exact HC0.out)
     rintro e w' ⟨rfl, ⟨nd, rfl⟩⟩; refine ⟨_, rfl, ?_⟩; refine hK.out _ _ ⟨(blk_cell BK566.out 0).trans rfl, (blk_cell BK566.out 1).trans rfl, (blk_cell BK566.out 2).trans rfl, (blk_cell BK566.out 3).trans rfl, ((HB.out.cell (World.block_lt_of_cell? w _ hw568_0)).trans hw568_0)⟩ (fun hH => ?_); clear hK K; refine nz 30 ?_; refine pZ 21 (some 34) (bs 30 134217727) HT_ ?_; refine pZ 27 (some 40) (bs 30 268435455) HT_ ?_; refine pZ 28 (some 41) (bs 30 536870911) HT_ ?_; refine pZ 29 (some 6) (bs 30 1073741823) HT_ ?_; refine done_ (done_of HT_.out (by kernel_rfl)) ?_
     try go_wp2
     go_ret
     exact ez
   ·rw [if_neg c9] at H; exact absurd H (by simp)
  ·rw [if_neg c8] at H; exact absurd H (by simp)
end
section
def Rf_Blind.l0 : Nat → List Int → List (S40) → Int → Int → Int → Int → Int → Option ((List (S40)))
 | 0, _, _, _, _, _, _, _ => none
 | k + 1, x0, x5, x6, x571000, x571001, x571002, x571003 => if x6 < (x0.length : Int) then ((Rf_IsBlind.f k x0 x571000 x571001 x571002 x571003 x6).bind fun t571 => (if t571 = true then (if x6 > 0 then ((Rf_IsBlind.f k x0 x571000 x571001 x571002 x571003 (wrap64 (x6 - 1))).bind fun t572 => (if t572 = true then (if 0 ≤ (wrap64 ((x5.length : Int) - 1)) then (if (wrap64 ((x5.length : Int) - 1)) < (x5.length : Int) then (Rf_Blind.l0 k x0 (x5.set ((wrap64 ((x5.length : Int) - 1)) : Int).toNat (⟨(rd_T40 x5 (wrap64 ((x5.length : Int) - 1))).f0, x6⟩ : S40)) (wrap64 (x6 + 1)) x571000 x571001 x571002 x571003) else (none)) else (none)) else (if x5.length < 8796093022208 then (Rf_Blind.l0 k x0 (x5 ++ [(⟨x6, x6⟩ : S40)]) (wrap64 (x6 + 1)) x571000 x571001 x571002 x571003) else (none)))) else (if x5.length < 8796093022208 then (Rf_Blind.l0 k x0 (x5 ++ [(⟨x6, x6⟩ : S40)]) (wrap64 (x6 + 1)) x571000 x571001 x571002 x571003) else (none))) else (Rf_Blind.l0 k x0 x5 (wrap64 (x6 + 1)) x571000 x571001 x571002 x571003))) else (some x5)
def Rf_Blind.f (k : Nat) (l0 : List Int) (a1_0 : Int) (a1_1 : Int) (a1_2 : Int) (a1_3 : Int) : Option ((List (S40))) := Rf_Blind.l0 k l0 ([] : List (S40)) 0 a1_0 a1_1 a1_2 a1_3
theorem Rf_Blind.mono_l : ∀ k, (∀ y0 y1 y2 y3 y4 y5 y6, LeO (Rf_Blind.l0 k y0 y1 y2 y3 y4 y5 y6) (Rf_Blind.l0 (k + 1) y0 y1 y2 y3 y4 y5 y6))
 | 0 => fun _ _ _ _ _ _ _ r h => by simp [Rf_Blind.l0] at h
 | k + 1 => by
  have ih0 := Rf_Blind.mono_l k
  ·intro y0 y1 y2 y3 y4 y5 y6; unfold Rf_Blind.l0
   repeat' with_reducible first
    | exact ih0 ..
    | exact Rf_IsBlind.mono ..
    | exact LeO.refl ..
    | exact LeO.none ..
    | refine LeO.ite ?_ ?_
    | refine LeO.bind ?_ (fun _ => ?_)
theorem Rf_Blind.mono : ∀ a0 a1 a2 a3 a4 k, LeO (Rf_Blind.f k a0 a1 a2 a3 a4) (Rf_Blind.f (k + 1) a0 a1 a2 a3 a4) := by
 intro a0 a1 a2 a3 a4 k; have ih0 := Rf_Blind.mono_l k; unfold Rf_Blind.f
 repeat' with_reducible first
  | exact ih0 ..
  | exact Rf_IsBlind.mono ..
  | exact LeO.refl ..
  | exact LeO.none ..
  | refine LeO.ite ?_ ?_
  | refine LeO.bind ?_ (fun _ => ?_)
theorem Rf_Blind.calls (k : Nat) (A0 : Option Addr) (c0 : Nat) (l0 : List Int) (a1_0 : Int) (a1_1 : Int) (a1_2 : Int) (a1_3 : Int) (r : List (S40)) (w : World) (hr0 : Kd.C (Kd.int .i64) w A0 l0.length l0) (hc0 : l0.length ≤ c0) (H : Rf_Blind.f k l0 a1_0 a1_1 a1_2 a1_3 = some r) :
  Calls Tryz.prog 23 #[.slice A0 l0.length c0, .agg #[.int .i64 a1_0, .int .i64 a1_1, .int .i64 a1_2, .int .i64 a1_3]] w fun e w' => ∃ v0_ : Value, e = .returned (v0_) ∧ Kd.R k40 40 w' w.heap.size (fun _ => True) v0_ r ∧ Below w.heap.size w w' := by
 have hu48 := Tryz.underlying48; have hu40 := Tryz.underlying40; have HR0 := m0 hr0; have HC0 := m0 hc0; clear hr0 hc0; have HB := m0 (Below.refl w.heap.size w); unfold Rf_Blind.f at H; have H' := m0 H; clear H; go_enter Tryz.func23, Tryz.ntmps23
 go_wp2_with (first | ((with_reducible refine ga 3 rfl ?_); refine be 3 48 #[.int .i64 a1_0, .int .i64 a1_1, .int .i64 a1_2, .int .i64 a1_3] ?_; intro gb570 hg w3 hbox hb; have BK570 := m0 hbox; have GE570 := gw w hg; replace HB := sb HB hb; clear hb hbox hg))
 go_loopg [5, 6] k (fun kq v5 v6 w' => ∃ (x5_1 : List (S40)) (x6_1 : Int), v6 = .int .i64 x6_1 ∧ Aside0 (Rf_Blind.l0 kq l0 x5_1 x6_1 a1_0 a1_1 a1_2 a1_3 = some r) ∧ Aside0 (kq ≤ k) ∧ Aside0 (Kd.R k40 40 w' w.heap.size (fun _ => True) v5 x5_1) ∧ Aside0 (w'.heap[gb570]? = some (.cells #[.int .i64 a1_0, .int .i64 a1_1, .int .i64 a1_2, .int .i64 a1_3] 48 (0, 0))) ∧ Aside0 (Below w.heap.size w w'))
 case atStart => exact ⟨(([] : List (S40))), (0), rz, H', ⟨Nat.le_refl _⟩, ⟨by first | exact Kd.R_nil _ _ _ _ _ | exact Kd.N_nil _ _ _ _ _ | exact Kd.V_nil _ _ _ _ _ | exact Kd.Q_nil _ _ _ _ _ | exact Kd.S_nil _ _ _ _ _⟩, ⟨bk BK570.out⟩, ⟨bz⟩⟩
 case round =>
  clear H'; obtain ⟨x5_1, x6_1, rfl, HA, HK1, HO_5, BK570, HB⟩ := hrel
  cases gk with
  | zero => exact absurd HA.out (by simp [Rf_Blind.l0])
  | succ k1 =>
   have H := HA.out; clear HA; simp only [Rf_Blind.l0] at H
   by_cases c4 : x6_1 < (l0.length : Int)
   ·rw [if_pos c4] at H; have c4b0 := decide_eq_true c4; clear c4; replace H := oa H; obtain ⟨t571, A5, H⟩ := H; (try dsimp only at H)
    by_cases c6 : t571 = true
    ·subst c6; rw [if_pos rfl] at H
     by_cases c7 : x6_1 > 0
     ·rw [if_pos c7] at H; have c7b0 := decide_eq_true c7; clear c7; replace H := oa H; obtain ⟨t572, A8, H⟩ := H; (try dsimp only at H)
      by_cases c9 : t572 = true
      ·subst c9; rw [if_pos rfl] at H; obtain ⟨ji10, hji10⟩ : ∃ j_ : Int, (wrap64 ((x5_1.length : Int) - 1)) = j_ := ⟨_, rfl⟩; replace H : (if 0 ≤ (ji10) then (if (ji10) < (x5_1.length : Int) then (Rf_Blind.l0 k1 l0 (x5_1.set ((ji10) : Int).toNat (⟨(rd_T40 x5_1 (ji10)).f0, x6_1⟩ : S40)) (wrap64 (x6_1 + 1)) a1_0 a1_1 a1_2 a1_3) else (none)) else (none)) = some r := by first | (rw [hji10] at H; exact H) | (simp only [hji10] at H ⊢; exact H)
       (try rw [hji10] at A5); (try rw [hji10] at A8); have hji10w : (IntKind.i64.wrap ((x5_1.length : Int) - 1)) = ji10 := (i64_w _).trans hji10
       by_cases c11 : 0 ≤ (ji10)
       ·rw [if_pos c11] at H; have c11b0 := decide_eq_true c11; clear c11
        by_cases c12 : (ji10) < (x5_1.length : Int)
        ·rw [if_pos c12] at H; have c12b0 := decide_eq_true c12; clear c12; obtain ⟨y573, hy573⟩ : ∃ y_ : List (S40), y_ = (x5_1.set ((ji10) : Int).toNat (⟨(rd_T40 x5_1 (ji10)).f0, x6_1⟩ : S40)) := ⟨_, rfl⟩; replace H : (Rf_Blind.l0 k1 l0 y573 (wrap64 (x6_1 + 1)) a1_0 a1_1 a1_2 a1_3) = some r := by first | (rw [hy573]; with_reducible exact H) | (have H2_ := (Option.bind_some _ _).symm.trans H; rw [hy573]; with_reducible exact H2_) | (have H2_ := (Option.bind_some _ _).symm.trans H; with_reducible exact H2_) | with_reducible exact H | (rw [hy573]; exact H) | exact H
         have Ny573 := m0 hy573; clear hy573; have H' := m0 H; clear H; obtain ⟨_, _, _, _, _, _, _, _⟩ := b4 BK570
         go_wp2_with (first | ((with_reducible refine gc 59 rfl ?_); refine gl (some 16) Tryz.func59 #[.slice A0 l0.length c0, .agg #[.int .i64 a1_0, .int .i64 a1_1, .int .i64 a1_2, .int .i64 a1_3], .int .i64 x6_1] ?_; (with_reducible refine (Rf_IsBlind.calls k1 _ _ l0 a1_0 a1_1 a1_2 a1_3 x6_1 true _ ?side1 ?side2 A5.out).mono ?_); (case side1 => exact cb HR0 HB); (case side2 => exact HC0.out); rintro e w15 ⟨rfl, hb⟩; refine ⟨_, rfl, ?_⟩; replace HO_5 := rb HO_5 hb; replace BK570 := bb BK570 hb; replace HB := sb HB hb; (try clear hb); obtain ⟨_, _, _, _, _, _, _, _⟩ := b4 BK570) | (go_at_call 59; (with_reducible refine (Rf_IsBlind.calls k1 _ _ l0 a1_0 a1_1 a1_2 a1_3 (wrap64 (x6_1 - 1)) true _ ?side1 ?side2 A8.out).mono ?_); (case side1 => exact cb HR0 HB); (case side2 => exact HC0.out); rintro e w17 ⟨rfl, hb⟩; replace HO_5 := rb HO_5 hb; replace BK570 := bb BK570 hb; replace HB := sb HB hb; (try clear hb); obtain ⟨Ao18, co18, eo18⟩ := Kd.R_slice HO_5.out; subst eo18; have p13 : 0 ≤ ((ji10) : Int) := od; have q13 : ((ji10) : Int) < ((x5_1.length : Int) : Int) := od; obtain ⟨go13, co13, eo13, gb13, gl13, cl13, HG13⟩ := Kd.R_form HO_5.out (by omega); (first | cases eo13 | (injection eo13 with ea_ en_ ec_; (first | subst ea_ | (injection ea_ with ea_; subst ea_)); subst ec_; clear en_)); have GB13 := m0 gb13; have GG13 := m0 HG13; clear gb13 gl13 HG13; obtain ⟨ce13, hcl13, hM13, hcc13, hfr13⟩ := Kd.R_elem HO_5.out z40 ((ji10) : Int) p13 q13; obtain rfl := k40_openM hM13; have hx13_0 : w17.cell? ⟨go13, ((ji10) : Int).toNat * 2, none⟩ = some (.int .i64 ((rd_T40 x5_1 (ji10)).f0)) := hcc13 0 _ rfl; have hx13_1 : w17.cell? ⟨go13, ((ji10) : Int).toNat * 2 + 1, none⟩ = some (.int .i64 ((rd_T40 x5_1 (ji10)).f1)) := hcc13 1 _ rfl; have hf13_0 : w17.frozen? ⟨go13, ((ji10) : Int).toNat * 2, none⟩ = false := hfr13 0; have hf13_1 : w17.frozen? ⟨go13, ((ji10) : Int).toNat * 2 + 1, none⟩ = false := hfr13 1; clear hcl13 hcc13 hfr13 hM13; replace p13 := eq_true p13; replace q13 := eq_true q13; have HX19 := m0 (show Kd.R k40 40 w17 w.heap.size (fun _ => True) (.slice (some ⟨go13, 0, none⟩) x5_1.length co18) x5_1 from (br HO_5.out)); obtain ⟨ce19, hcl19, hM19, hcc19, hfr19⟩ := Kd.R_elem HX19.out z40 ((ji10) : Int) (od) (by have h_ : ((ji10) : Int) < ((x5_1.length : Int) : Int) := od; first | exact h_ | (have e_ := (Kd.R_reads' HO_5.out).1; omega) | simpa using h_); obtain rfl := k40_openM hM19; have HP19 := Kd.R_seg HX19.out ((ji10) : Int) (od) (by have h_ : ((ji10) : Int) < ((x5_1.length : Int) : Int) := od; first | exact h_ | (have e_ := (Kd.R_reads' HO_5.out).1; omega) | simpa using h_) (seg := [.int .i64 x6_1]) (j := 1) hcl19 hcc19 (show 2 ≤ 2 from by decide) (x' := (⟨(rd_T40 x5_1 (ji10)).f0, x6_1⟩ : S40)) (k40_mkM _ _ _ (⟨(rd_T40 x5_1 (ji10)).f0, x6_1⟩ : S40) ) (fun _ hk => hk); have hx19_1 := hcc19 1 _ rfl; (try simp only [show (k40).sz = 2 from rfl, Nat.mul_one, Nat.add_zero] at hx19_1); have hf19_1 := hfr19 1; (try simp only [show (k40).sz = 2 from rfl, Nat.mul_one, Nat.add_zero] at hf19_1); clear hcl19 hcc19 hfr19 hM19) | ((with_reducible refine gate_store (t := 3) (p := 33) rfl ?_); refine store_event (t := 3) (p := 33) (v := ?vo_w20) (w1 := (w17.setCell ⟨go13, ((ji10) : Int).toNat * 2 + 1, none⟩ (.int .i64 x6_1))) ?hg ?ho ?hn ?hr ?_; (case ho => rfl); (case hg => rfl); (case hn => rfl); (case hr => first | (go_simp; done) | (go_simp; rfl)); intro w20 hw; have hg : w17.grownBy w20 (some go13) := (by rw [hw]; exact HP19.2); have hp_ : Kd.R k40 40 w20 w.heap.size (fun _ => True) (.slice (some ⟨go13, 0, none⟩) x5_1.length co18) y573 := (by rw [hw, Ny573.out]; exact HP19.1); clear HP19; replace BK570 := m0 (blk_grown (g := gb570) (o := .cells #[.int .i64 a1_0, .int .i64 a1_1, .int .i64 a1_2, .int .i64 a1_3] 48 (0, 0)) (bk BK570.out) hg (Kd.R_ne HO_5.out BK570.out (by decide))); replace HO_5 := m0 (hp_); replace HB := m0 ((by rw [hw]; exact below_set (HB.out) GB13.out : Below w.heap.size w w20)); clear hg hw hp_))
         go_roundg k1
         case measure => have := HK1.out; omega
         case rel => exact ⟨(y573), (wrap64 (x6_1 + 1)), rz, H', ⟨by have := HK1.out; omega⟩, ⟨br HO_5.out⟩, ⟨bk BK570.out⟩, ⟨bz⟩⟩
        ·rw [if_neg c12] at H; exact absurd H (by simp)
       ·rw [if_neg c11] at H; exact absurd H (by simp)
      ·replace c9 := Bool.eq_false_iff.mpr c9; subst c9; rw [if_neg (show ¬ (false = true) by decide)] at H
       by_cases c21 : x5_1.length < 8796093022208
       ·rw [if_pos c21] at H; have LMc21 := m0 c21; clear c21; obtain ⟨y574, hy574⟩ : ∃ y_ : List (S40), y_ = (x5_1 ++ [(⟨x6_1, x6_1⟩ : S40)]) := ⟨_, rfl⟩; replace H : (Rf_Blind.l0 k1 l0 y574 (wrap64 (x6_1 + 1)) a1_0 a1_1 a1_2 a1_3) = some r := by first | (rw [hy574]; with_reducible exact H) | (have H2_ := (Option.bind_some _ _).symm.trans H; rw [hy574]; with_reducible exact H2_) | (have H2_ := (Option.bind_some _ _).symm.trans H; with_reducible exact H2_) | with_reducible exact H | (rw [hy574]; exact H) | exact H
        have Ny574 := m0 hy574; clear hy574; have H' := m0 H; clear H; obtain ⟨_, _, _, _, _, _, _, _⟩ := b4 BK570
        go_wp2_with (first | ((with_reducible refine gc 59 rfl ?_); refine gl (some 16) Tryz.func59 #[.slice A0 l0.length c0, .agg #[.int .i64 a1_0, .int .i64 a1_1, .int .i64 a1_2, .int .i64 a1_3], .int .i64 x6_1] ?_; (with_reducible refine (Rf_IsBlind.calls k1 _ _ l0 a1_0 a1_1 a1_2 a1_3 x6_1 true _ ?side1 ?side2 A5.out).mono ?_); (case side1 => exact cb HR0 HB); (case side2 => exact HC0.out); rintro e w23 ⟨rfl, hb⟩; refine ⟨_, rfl, ?_⟩; replace HO_5 := rb HO_5 hb; replace BK570 := bb BK570 hb; replace HB := sb HB hb; (try clear hb); obtain ⟨_, _, _, _, _, _, _, _⟩ := b4 BK570) | (go_at_call 59; (with_reducible refine (Rf_IsBlind.calls k1 _ _ l0 a1_0 a1_1 a1_2 a1_3 (wrap64 (x6_1 - 1)) false _ ?side1 ?side2 A8.out).mono ?_); (case side1 => exact cb HR0 HB); (case side2 => exact HC0.out); rintro e w25 ⟨rfl, hb⟩; replace HO_5 := rb HO_5 hb; replace BK570 := bb BK570 hb; replace HB := sb HB hb; (try clear hb)) | ((with_reducible refine gate_builtin (b := .append) (xs := #[.tmp 34, .tmp 38]) rfl ?_); at_builtin; refine Kd.R_append k40 (w0 := w) w.heap.size rfl (.tmp 34) (.tmp 38) 34 40 (.agg #[(.int .i64 0), (.int .i64 0)]) 16 rfl Tryz.underlying34 info40 rfl (by decide) (by omega) u5 x5_1 (⟨x6_1, x6_1⟩ : S40) [.int .i64 x6_1, .int .i64 x6_1] (fun _ => True) (fun _ => False) rfl rfl ?aP (fun _ hk => hk.elim) ?aF ?aO ?aB ?aS ?aL ?_; (case aP => exact k40_mkM _ _ _ (⟨x6_1, x6_1⟩ : S40)); (case aB => exact bz); (case aF => exact (fun _ _ => trivial)); (case aO => exact (br HO_5.out)); (case aS => exact (below_size bz)); (case aL => have := LMc21.out; omega); intro v575 w26 ho hb hg hat; rw [← Ny574.out] at ho; have n0_ := m0 (blk_grown (g := gb570) (o := .cells #[.int .i64 a1_0, .int .i64 a1_1, .int .i64 a1_2, .int .i64 a1_3] 48 (0, 0)) (bk BK570.out) hg (Kd.R_ne HO_5.out BK570.out (by decide))); have n1_ := m0 (hb); have n2_ := m0 (ho); clear BK570; clear HB; clear HO_5; have BK570 := n0_; have HB := n1_; have HO576 := n2_; clear n0_ n1_ n2_; clear ho hb hg hat))
        go_roundg k1
        case measure => have := HK1.out; omega
        case rel => exact ⟨(y574), (wrap64 (x6_1 + 1)), rz, H', ⟨by have := HK1.out; omega⟩, ⟨br HO576.out⟩, ⟨bk BK570.out⟩, ⟨bz⟩⟩
       ·rw [if_neg c21] at H; exact absurd H (by simp)
     ·rw [if_neg c7] at H; have c7b0 := decide_eq_false c7; clear c7
      by_cases c27 : x5_1.length < 8796093022208
      ·rw [if_pos c27] at H; have LMc27 := m0 c27; clear c27; obtain ⟨y577, hy577⟩ : ∃ y_ : List (S40), y_ = (x5_1 ++ [(⟨x6_1, x6_1⟩ : S40)]) := ⟨_, rfl⟩; replace H : (Rf_Blind.l0 k1 l0 y577 (wrap64 (x6_1 + 1)) a1_0 a1_1 a1_2 a1_3) = some r := by first | (rw [hy577]; with_reducible exact H) | (have H2_ := (Option.bind_some _ _).symm.trans H; rw [hy577]; with_reducible exact H2_) | (have H2_ := (Option.bind_some _ _).symm.trans H; with_reducible exact H2_) | with_reducible exact H | (rw [hy577]; exact H) | exact H
       have Ny577 := m0 hy577; clear hy577; have H' := m0 H; clear H; obtain ⟨_, _, _, _, _, _, _, _⟩ := b4 BK570
       go_wp2_with (first | ((with_reducible refine gc 59 rfl ?_); refine gl (some 16) Tryz.func59 #[.slice A0 l0.length c0, .agg #[.int .i64 a1_0, .int .i64 a1_1, .int .i64 a1_2, .int .i64 a1_3], .int .i64 x6_1] ?_; (with_reducible refine (Rf_IsBlind.calls k1 _ _ l0 a1_0 a1_1 a1_2 a1_3 x6_1 true _ ?side1 ?side2 A5.out).mono ?_); (case side1 => exact cb HR0 HB); (case side2 => exact HC0.out); rintro e w29 ⟨rfl, hb⟩; refine ⟨_, rfl, ?_⟩; replace HO_5 := rb HO_5 hb; replace BK570 := bb BK570 hb; replace HB := sb HB hb; (try clear hb)) | ((with_reducible refine gate_builtin (b := .append) (xs := #[.tmp 34, .tmp 38]) rfl ?_); at_builtin; refine Kd.R_append k40 (w0 := w) w.heap.size rfl (.tmp 34) (.tmp 38) 34 40 (.agg #[(.int .i64 0), (.int .i64 0)]) 16 rfl Tryz.underlying34 info40 rfl (by decide) (by omega) u5 x5_1 (⟨x6_1, x6_1⟩ : S40) [.int .i64 x6_1, .int .i64 x6_1] (fun _ => True) (fun _ => False) rfl rfl ?aP (fun _ hk => hk.elim) ?aF ?aO ?aB ?aS ?aL ?_; (case aP => exact k40_mkM _ _ _ (⟨x6_1, x6_1⟩ : S40)); (case aB => exact bz); (case aF => exact (fun _ _ => trivial)); (case aO => exact (br HO_5.out)); (case aS => exact (below_size bz)); (case aL => have := LMc27.out; omega); intro v578 w30 ho hb hg hat; rw [← Ny577.out] at ho; have n0_ := m0 (blk_grown (g := gb570) (o := .cells #[.int .i64 a1_0, .int .i64 a1_1, .int .i64 a1_2, .int .i64 a1_3] 48 (0, 0)) (bk BK570.out) hg (Kd.R_ne HO_5.out BK570.out (by decide))); have n1_ := m0 (hb); have n2_ := m0 (ho); clear BK570; clear HB; clear HO_5; have BK570 := n0_; have HB := n1_; have HO579 := n2_; clear n0_ n1_ n2_; clear ho hb hg hat))
       go_roundg k1
       case measure => have := HK1.out; omega
       case rel => exact ⟨(y577), (wrap64 (x6_1 + 1)), rz, H', ⟨by have := HK1.out; omega⟩, ⟨br HO579.out⟩, ⟨bk BK570.out⟩, ⟨bz⟩⟩
      ·rw [if_neg c27] at H; exact absurd H (by simp)
    ·replace c6 := Bool.eq_false_iff.mpr c6; subst c6; rw [if_neg (show ¬ (false = true) by decide)] at H; have H' := m0 H; clear H; obtain ⟨_, _, _, _, _, _, _, _⟩ := b4 BK570
     go_wp2_with (first | ((with_reducible refine gc 59 rfl ?_); refine gl (some 16) Tryz.func59 #[.slice A0 l0.length c0, .agg #[.int .i64 a1_0, .int .i64 a1_1, .int .i64 a1_2, .int .i64 a1_3], .int .i64 x6_1] ?_; (with_reducible refine (Rf_IsBlind.calls k1 _ _ l0 a1_0 a1_1 a1_2 a1_3 x6_1 false _ ?side1 ?side2 A5.out).mono ?_); (case side1 => exact cb HR0 HB); (case side2 => exact HC0.out); rintro e w32 ⟨rfl, hb⟩; refine ⟨_, rfl, ?_⟩; replace HO_5 := rb HO_5 hb; replace BK570 := bb BK570 hb; replace HB := sb HB hb; (try clear hb)))
     go_roundg k1
     case measure => have := HK1.out; omega
     case rel => exact ⟨(x5_1), (wrap64 (x6_1 + 1)), rz, H', ⟨by have := HK1.out; omega⟩, ⟨br HO_5.out⟩, ⟨bk BK570.out⟩, ⟨bz⟩⟩
   ·rw [if_neg c4] at H; have c4b0 := decide_eq_false c4; clear c4; obtain rfl := Option.some.inj H
    go_wp2
    go_ret
    exact ⟨_, by first | rfl | (simp [errW_none, errW_some] <;> rfl) | (simp [*, errW_none, errW_some] <;> rfl), by (with_reducible repeat (first | apply Kd.R_alloc | apply Kd.R_drewN | apply Kd.R_drew)); exact HO_5.out, by repeat (first | (with_reducible first | exact HB.out | apply below_alloc | apply pw_below_drewN | apply below_drew1 | refine below_set ?_ GE570.out) | exact HB.out)⟩
end
section
mutual
def Rf_Layers.l0 : Nat → List Int → List (S40) → Int → Int → Int → Int → Option ((List (S40)))
  | 0, _, _, _, _, _, _ => none
  | k + 1, x0, x5, x7, x581000, x581001, x581002 => if x7 < (x0.length : Int) then (if 0 ≤ x7 then (if (rd x0 x7) < x581000 then (Rf_Layers.l0 k x0 x5 (wrap64 (x7 + 1)) x581000 x581001 x581002) else (if (x5.length : Int) > 0 then (if 0 ≤ (wrap64 ((x5.length : Int) - 1)) then (if (wrap64 ((x5.length : Int) - 1)) < (x5.length : Int) then (if (wrap64 ((wrap64 (x7 - ((rd_T40 x5 (wrap64 ((x5.length : Int) - 1))).f1))) - 1)) ≤ x581001 then (Rf_Layers.l0 k x0 (x5.set ((wrap64 ((x5.length : Int) - 1)) : Int).toNat (⟨(rd_T40 x5 (wrap64 ((x5.length : Int) - 1))).f0, x7⟩ : S40)) (wrap64 (x7 + 1)) x581000 x581001 x581002) else (if x5.length < 8796093022208 then (Rf_Layers.l0 k x0 (x5 ++ [(⟨x7, x7⟩ : S40)]) (wrap64 (x7 + 1)) x581000 x581001 x581002) else (none))) else (none)) else (none)) else (if x5.length < 8796093022208 then (Rf_Layers.l0 k x0 (x5 ++ [(⟨x7, x7⟩ : S40)]) (wrap64 (x7 + 1)) x581000 x581001 x581002) else (none)))) else (none)) else (Rf_Layers.l1 k x5 ([] : List (S40)) 0 x581000 x581001 x581002)
def Rf_Layers.l1 : Nat → List (S40) → List (S40) → Int → Int → Int → Int → Option ((List (S40)))
  | 0, _, _, _, _, _, _ => none
  | k + 1, x5, x6, x9, x581000, x581001, x581002 => if x9 < (x5.length : Int) then (if 0 ≤ x9 then (if (wrap64 ((wrap64 (((rd_T40 x5 x9).f1) - ((rd_T40 x5 x9).f0))) + 1)) ≥ x581002 then (if x6.length < 8796093022208 then (Rf_Layers.l1 k x5 (x6 ++ [(⟨(rd_T40 x5 x9).f0, (rd_T40 x5 x9).f1⟩ : S40)]) (wrap64 (x9 + 1)) x581000 x581001 x581002) else (none)) else (Rf_Layers.l1 k x5 x6 (wrap64 (x9 + 1)) x581000 x581001 x581002)) else (none)) else (some x6)
end
def Rf_Layers.f (k : Nat) (l0 : List Int) (a1_0 : Int) (a1_1 : Int) (a1_2 : Int) : Option ((List (S40))) := Rf_Layers.l0 k l0 ([] : List (S40)) 0 a1_0 a1_1 a1_2
theorem Rf_Layers.mono_l : ∀ k, (∀ y0 y1 y2 y3 y4 y5, LeO (Rf_Layers.l0 k y0 y1 y2 y3 y4 y5) (Rf_Layers.l0 (k + 1) y0 y1 y2 y3 y4 y5)) ∧ (∀ y0 y1 y2 y3 y4 y5, LeO (Rf_Layers.l1 k y0 y1 y2 y3 y4 y5) (Rf_Layers.l1 (k + 1) y0 y1 y2 y3 y4 y5))
  | 0 => ⟨fun _ _ _ _ _ _ r h => by simp [Rf_Layers.l0] at h, fun _ _ _ _ _ _ r h => by simp [Rf_Layers.l1] at h⟩
  | k + 1 => by
    obtain ⟨ih0, ih1⟩ := Rf_Layers.mono_l k; refine ⟨?_, ?_⟩
    · intro y0 y1 y2 y3 y4 y5; unfold Rf_Layers.l0
      repeat' with_reducible first
        | exact ih0 ..
        | exact ih1 ..
        | exact LeO.refl ..
        | exact LeO.none ..
        | refine LeO.ite ?_ ?_
        | refine LeO.bind ?_ (fun _ => ?_)
    · intro y0 y1 y2 y3 y4 y5; unfold Rf_Layers.l1
      repeat' with_reducible first
        | exact ih0 ..
        | exact ih1 ..
        | exact LeO.refl ..
        | exact LeO.none ..
        | refine LeO.ite ?_ ?_
        | refine LeO.bind ?_ (fun _ => ?_)
theorem Rf_Layers.mono : ∀ a0 a1 a2 a3 k, LeO (Rf_Layers.f k a0 a1 a2 a3) (Rf_Layers.f (k + 1) a0 a1 a2 a3) := by
  intro a0 a1 a2 a3 k; obtain ⟨ih0, ih1⟩ := Rf_Layers.mono_l k; unfold Rf_Layers.f
  repeat' with_reducible first
    | exact ih0 ..
    | exact ih1 ..
    | exact LeO.refl ..
    | exact LeO.none ..
    | refine LeO.ite ?_ ?_
    | refine LeO.bind ?_ (fun _ => ?_)
theorem Rf_Layers.calls (k : Nat) (A0 : Option Addr) (c0 : Nat) (l0 : List Int) (a1_0 : Int) (a1_1 : Int) (a1_2 : Int) (r : List (S40)) (w : World) (hr0 : Kd.C (Kd.int .i64) w A0 l0.length l0) (hc0 : l0.length ≤ c0) (H : Rf_Layers.f k l0 a1_0 a1_1 a1_2 = some r) :
    Calls Tryz.prog 24 #[.slice A0 l0.length c0, .agg #[.int .i64 a1_0, .int .i64 a1_1, .int .i64 a1_2]] w fun e w' => ∃ v0_ : Value, e = .returned (v0_) ∧ Kd.R k40 40 w' w.heap.size (fun _ => True) v0_ r ∧ Below w.heap.size w w' := by
  have hu26 := Tryz.underlying26; have hu40 := Tryz.underlying40; have HR0 := m0 hr0; have HC0 := m0 hc0; clear hr0 hc0; have HB := m0 (Below.refl w.heap.size w); unfold Rf_Layers.f at H; have H' := m0 H; clear H; go_enter Tryz.func24, Tryz.ntmps24
  go_wp2_with (first | ((with_reducible refine ga 3 rfl ?_); refine be 3 26 #[.int .i64 a1_0, .int .i64 a1_1, .int .i64 a1_2] ?_; intro gb580 hg w3 hbox hb; have BK580 := m0 hbox; have GE580 := gw w hg; replace HB := sb HB hb; clear hb hbox hg))
  repeat (go_quiet (first | ((with_reducible refine ga 3 rfl ?_); refine be 3 26 #[.int .i64 a1_0, .int .i64 a1_1, .int .i64 a1_2] ?_; intro gb580 hg w3 hbox hb; have BK580 := m0 hbox; have GE580 := gw w hg; replace HB := sb HB hb; clear hb hbox hg)); try go_wp2_with (first | ((with_reducible refine ga 3 rfl ?_); refine be 3 26 #[.int .i64 a1_0, .int .i64 a1_1, .int .i64 a1_2] ?_; intro gb580 hg w3 hbox hb; have BK580 := m0 hbox; have GE580 := gw w hg; replace HB := sb HB hb; clear hb hbox hg)))
  go_loopg [5, 7] k (fun kq v5 v7 w' => ∃ (x5_1 : List (S40)) (x7_1 : Int), v7 = .int .i64 x7_1 ∧ Aside0 (Rf_Layers.l0 kq l0 x5_1 x7_1 a1_0 a1_1 a1_2 = some r) ∧ Aside0 (kq ≤ k) ∧ Aside0 (Kd.R k40 40 w' w.heap.size (fun _ => True) v5 x5_1) ∧ Aside0 (w'.heap[gb580]? = some (.cells #[.int .i64 a1_0, .int .i64 a1_1, .int .i64 a1_2] 26 (0, 0))) ∧ Aside0 (Below w.heap.size w w'))
  case atStart => exact ⟨(([] : List (S40))), (0), rz, H', ⟨Nat.le_refl _⟩, ⟨by first | exact Kd.R_nil _ _ _ _ _ | exact Kd.N_nil _ _ _ _ _ | exact Kd.V_nil _ _ _ _ _ | exact Kd.Q_nil _ _ _ _ _ | exact Kd.S_nil _ _ _ _ _⟩, ⟨bk BK580.out⟩, ⟨bz⟩⟩
  case round =>
    clear H'; obtain ⟨x5_1, x7_1, rfl, HA, HK1, HO_5, BK580, HB⟩ := hrel
    cases gk with
    | zero => exact absurd HA.out (by simp [Rf_Layers.l0])
    | succ k1 =>
      have H := HA.out; clear HA; simp only [Rf_Layers.l0] at H
      by_cases c4 : x7_1 < (l0.length : Int)
      · rw [if_pos c4] at H; have c4b0 := decide_eq_true c4; clear c4
        by_cases c5 : 0 ≤ x7_1
        · rw [if_pos c5] at H; have c5b0 := decide_eq_true c5; clear c5
          by_cases c6 : (rd l0 x7_1) < a1_0
          · rw [if_pos c6] at H; have c6b0 := decide_eq_true c6; clear c6; have H' := m0 H; clear H; have p581 : 0 ≤ (x7_1 : Int) := od; have q581 : x7_1 < (l0.length : Int) := od; obtain ⟨ad581, e581, hx581_0⟩ := Kd.at_int HR0.out x7_1 p581 q581
            cases e581
            replace hx581_0 := hc HB hx581_0; replace p581 := eq_true p581; replace q581 := eq_true q581; obtain ⟨hcz7_0, hcz7_1, hcz7_2, hfz7_0, hfz7_1, hfz7_2⟩ := b3 BK580
            go_wp2
            repeat (go_quiet (fail); try go_wp2)
            go_roundg k1
            case measure => have := HK1.out; omega
            case rel => exact ⟨(x5_1), (wrap64 (x7_1 + 1)), rz, H', ⟨by have := HK1.out; omega⟩, ⟨br HO_5.out⟩, ⟨bk BK580.out⟩, ⟨bz⟩⟩
          · rw [if_neg c6] at H; have c6b0 := decide_eq_false c6; clear c6
            by_cases c8 : (x5_1.length : Int) > 0
            · rw [if_pos c8] at H; have c8b0 := decide_eq_true c8; have c8b1 : decide (0 < x5_1.length) = true := decide_eq_true (by omega); clear c8; obtain ⟨ji9, hji9⟩ : ∃ j_ : Int, (wrap64 ((x5_1.length : Int) - 1)) = j_ := ⟨_, rfl⟩; replace H : (if 0 ≤ (ji9) then (if (ji9) < (x5_1.length : Int) then (if (wrap64 ((wrap64 (x7_1 - ((rd_T40 x5_1 (ji9)).f1))) - 1)) ≤ a1_1 then (Rf_Layers.l0 k1 l0 (x5_1.set ((ji9) : Int).toNat (⟨(rd_T40 x5_1 (ji9)).f0, x7_1⟩ : S40)) (wrap64 (x7_1 + 1)) a1_0 a1_1 a1_2) else (if x5_1.length < 8796093022208 then (Rf_Layers.l0 k1 l0 (x5_1 ++ [(⟨x7_1, x7_1⟩ : S40)]) (wrap64 (x7_1 + 1)) a1_0 a1_1 a1_2) else (none))) else (none)) else (none)) = some r := by first | (rw [hji9] at H; exact H) | (simp only [hji9] at H ⊢; exact H)
              have hji9w : (IntKind.i64.wrap ((x5_1.length : Int) - 1)) = ji9 := (i64_w _).trans hji9
              by_cases c10 : 0 ≤ (ji9)
              · rw [if_pos c10] at H; have c10b0 := decide_eq_true c10; clear c10
                by_cases c11 : (ji9) < (x5_1.length : Int)
                · rw [if_pos c11] at H; have c11b0 := decide_eq_true c11; clear c11
                  by_cases c12 : (wrap64 ((wrap64 (x7_1 - ((rd_T40 x5_1 (ji9)).f1))) - 1)) ≤ a1_1
                  · rw [if_pos c12] at H; have c12b0 := decide_eq_true c12; clear c12; obtain ⟨y583, hy583⟩ : ∃ y_ : List (S40), y_ = (x5_1.set ((ji9) : Int).toNat (⟨(rd_T40 x5_1 (ji9)).f0, x7_1⟩ : S40)) := ⟨_, rfl⟩; replace H : (Rf_Layers.l0 k1 l0 y583 (wrap64 (x7_1 + 1)) a1_0 a1_1 a1_2) = some r := by first | (rw [hy583]; with_reducible exact H) | (have H2_ := (Option.bind_some _ _).symm.trans H; rw [hy583]; with_reducible exact H2_) | (have H2_ := (Option.bind_some _ _).symm.trans H; with_reducible exact H2_) | with_reducible exact H | (rw [hy583]; exact H) | exact H
                    have Ny583 := m0 hy583; clear hy583; have H' := m0 H; clear H; have p581 : 0 ≤ (x7_1 : Int) := od; have q581 : x7_1 < (l0.length : Int) := od; obtain ⟨ad581, e581, hx581_0⟩ := Kd.at_int HR0.out x7_1 p581 q581
                    cases e581
                    replace hx581_0 := hc HB hx581_0; replace p581 := eq_true p581; replace q581 := eq_true q581; obtain ⟨hcz14_0, hcz14_1, hcz14_2, hfz14_0, hfz14_1, hfz14_2⟩ := b3 BK580; obtain ⟨Ao15, co15, eo15⟩ := Kd.R_slice HO_5.out; subst eo15; have p582 : 0 ≤ ((ji9) : Int) := od; have q582 : (ji9) < (x5_1.length : Int) := od; obtain ⟨ad582, e582, hx582_0, hx582_1⟩ := at_T40 (Kd.R_reads' HO_5.out).2.2 (ji9) p582 q582
                    cases e582
                    replace p582 := eq_true p582; replace q582 := eq_true q582; have p13 : 0 ≤ ((ji9) : Int) := od; have q13 : ((ji9) : Int) < ((x5_1.length : Int) : Int) := od; obtain ⟨go13, co13, eo13, gb13, gl13, cl13, HG13⟩ := Kd.R_form HO_5.out (by omega)
                    (first | cases eo13 | (injection eo13 with ea_ en_ ec_; (first | subst ea_ | (injection ea_ with ea_; subst ea_)); subst ec_; clear en_))
                    have GB13 := m0 gb13; have GG13 := m0 HG13; clear gb13 gl13 HG13
                    (first | simp only [add_plain] at hx582_0 | skip)
                    (first | simp only [add_plain] at hx582_1 | skip)
                    obtain ⟨ce13, hcl13, hM13, hcc13, hfr13⟩ := Kd.R_elem HO_5.out z40 ((ji9) : Int) p13 q13; obtain rfl := k40_openM hM13; have hx13_0 : wr.cell? ⟨go13, ((ji9) : Int).toNat * 2, none⟩ = some (.int .i64 ((rd_T40 x5_1 (ji9)).f0)) := hcc13 0 _ rfl; have hx13_1 : wr.cell? ⟨go13, ((ji9) : Int).toNat * 2 + 1, none⟩ = some (.int .i64 ((rd_T40 x5_1 (ji9)).f1)) := hcc13 1 _ rfl; have hf13_0 : wr.frozen? ⟨go13, ((ji9) : Int).toNat * 2, none⟩ = false := hfr13 0; have hf13_1 : wr.frozen? ⟨go13, ((ji9) : Int).toNat * 2 + 1, none⟩ = false := hfr13 1; clear hcl13 hcc13 hfr13 hM13; replace p13 := eq_true p13; replace q13 := eq_true q13; have HX16 := m0 (show Kd.R k40 40 wr w.heap.size (fun _ => True) (.slice (some ⟨go13, 0, none⟩) x5_1.length co15) x5_1 from (br HO_5.out)); obtain ⟨ce16, hcl16, hM16, hcc16, hfr16⟩ := Kd.R_elem HX16.out z40 ((ji9) : Int) (od) (by have h_ : ((ji9) : Int) < ((x5_1.length : Int) : Int) := od; first | exact h_ | (have e_ := (Kd.R_reads' HO_5.out).1; omega) | simpa using h_)
                    obtain rfl := k40_openM hM16; have HP16 := Kd.R_seg HX16.out ((ji9) : Int) (od) (by have h_ : ((ji9) : Int) < ((x5_1.length : Int) : Int) := od; first | exact h_ | (have e_ := (Kd.R_reads' HO_5.out).1; omega) | simpa using h_) (seg := [.int .i64 x7_1]) (j := 1) hcl16 hcc16 (show 2 ≤ 2 from by decide) (x' := (⟨(rd_T40 x5_1 (ji9)).f0, x7_1⟩ : S40)) (k40_mkM _ _ _ (⟨(rd_T40 x5_1 (ji9)).f0, x7_1⟩ : S40) ) (fun _ hk => hk)
                    have hx16_1 := hcc16 1 _ rfl; (try simp only [show (k40).sz = 2 from rfl, Nat.mul_one, Nat.add_zero] at hx16_1); have hf16_1 := hfr16 1; (try simp only [show (k40).sz = 2 from rfl, Nat.mul_one, Nat.add_zero] at hf16_1); clear hcl16 hcc16 hfr16 hM16
                    go_wp2_with (first | ((with_reducible refine gate_store (t := 3) (p := 46) rfl ?_); (try (rw [drewN_self wr]; generalize hq_ : World.drewN wr _ = wr; have n0_ := m0 (Kd.R_at hq_ HO_5.out); have n1_ := m0 (blk_at hq_ BK580.out); have n2_ := m0 (below_at hq_ HB.out); clear hq_ HO_5 BK580 HB; have HO_5 := n0_; have BK580 := n1_; have HB := n2_; clear n0_ n1_ n2_; (try (have HX16 := m0 (show Kd.R k40 40 wr w.heap.size (fun _ => True) (.slice (some ⟨go13, 0, none⟩) x5_1.length co15) x5_1 from (br HO_5.out)))); (try (obtain ⟨ce16, hcl16, hM16, hcc16, hfr16⟩ := Kd.R_elem HX16.out z40 ((ji9) : Int) (od) (by have h_ : ((ji9) : Int) < ((x5_1.length : Int) : Int) := od; first | exact h_ | (have e_ := (Kd.R_reads' HO_5.out).1; omega) | simpa using h_))); (try (obtain rfl := k40_openM hM16)); (try (have HP16 := Kd.R_seg HX16.out ((ji9) : Int) (od) (by have h_ : ((ji9) : Int) < ((x5_1.length : Int) : Int) := od; first | exact h_ | (have e_ := (Kd.R_reads' HO_5.out).1; omega) | simpa using h_) (seg := [.int .i64 x7_1]) (j := 1) hcl16 hcc16 (show 2 ≤ 2 from by decide) (x' := (⟨(rd_T40 x5_1 (ji9)).f0, x7_1⟩ : S40)) (k40_mkM _ _ _ (⟨(rd_T40 x5_1 (ji9)).f0, x7_1⟩ : S40) ) (fun _ hk => hk))); (try (have hx16_1 := hcc16 1 _ rfl)); (try (try simp only [show (k40).sz = 2 from rfl, Nat.mul_one, Nat.add_zero] at hx16_1)); (try (have hf16_1 := hfr16 1)); (try (try simp only [show (k40).sz = 2 from rfl, Nat.mul_one, Nat.add_zero] at hf16_1)); (try (clear hcl16 hcc16 hfr16 hM16)))); refine store_event (t := 3) (p := 46) (v := ?vo_w17) (w1 := (wr.setCell ⟨go13, ((ji9) : Int).toNat * 2 + 1, none⟩ (.int .i64 x7_1))) ?hg ?ho ?hn ?hr ?_; (case ho => rfl); (case hg => rfl); (case hn => rfl); (case hr => first | (go_simp; done) | (go_simp; rfl)); intro w17 hw; have hg : wr.grownBy w17 (some go13) := (by rw [hw]; exact HP16.2); have hp_ : Kd.R k40 40 w17 w.heap.size (fun _ => True) (.slice (some ⟨go13, 0, none⟩) x5_1.length co15) y583 := (by rw [hw, Ny583.out]; exact HP16.1); clear HP16; replace BK580 := m0 (blk_grown (g := gb580) (o := .cells #[.int .i64 a1_0, .int .i64 a1_1, .int .i64 a1_2] 26 (0, 0)) (bk BK580.out) hg (Kd.R_ne HO_5.out BK580.out (by decide))); replace HO_5 := m0 (hp_); replace HB := m0 ((by rw [hw]; exact below_set (HB.out) GB13.out : Below w.heap.size w w17)); clear hg hw hp_))
                    repeat (go_quiet (first | ((with_reducible refine gate_store (t := 3) (p := 46) rfl ?_); (try (rw [drewN_self wr]; generalize hq_ : World.drewN wr _ = wr; have n0_ := m0 (Kd.R_at hq_ HO_5.out); have n1_ := m0 (blk_at hq_ BK580.out); have n2_ := m0 (below_at hq_ HB.out); clear hq_ HO_5 BK580 HB; have HO_5 := n0_; have BK580 := n1_; have HB := n2_; clear n0_ n1_ n2_; (try (have HX16 := m0 (show Kd.R k40 40 wr w.heap.size (fun _ => True) (.slice (some ⟨go13, 0, none⟩) x5_1.length co15) x5_1 from (br HO_5.out)))); (try (obtain ⟨ce16, hcl16, hM16, hcc16, hfr16⟩ := Kd.R_elem HX16.out z40 ((ji9) : Int) (od) (by have h_ : ((ji9) : Int) < ((x5_1.length : Int) : Int) := od; first | exact h_ | (have e_ := (Kd.R_reads' HO_5.out).1; omega) | simpa using h_))); (try (obtain rfl := k40_openM hM16)); (try (have HP16 := Kd.R_seg HX16.out ((ji9) : Int) (od) (by have h_ : ((ji9) : Int) < ((x5_1.length : Int) : Int) := od; first | exact h_ | (have e_ := (Kd.R_reads' HO_5.out).1; omega) | simpa using h_) (seg := [.int .i64 x7_1]) (j := 1) hcl16 hcc16 (show 2 ≤ 2 from by decide) (x' := (⟨(rd_T40 x5_1 (ji9)).f0, x7_1⟩ : S40)) (k40_mkM _ _ _ (⟨(rd_T40 x5_1 (ji9)).f0, x7_1⟩ : S40) ) (fun _ hk => hk))); (try (have hx16_1 := hcc16 1 _ rfl)); (try (try simp only [show (k40).sz = 2 from rfl, Nat.mul_one, Nat.add_zero] at hx16_1)); (try (have hf16_1 := hfr16 1)); (try (try simp only [show (k40).sz = 2 from rfl, Nat.mul_one, Nat.add_zero] at hf16_1)); (try (clear hcl16 hcc16 hfr16 hM16)))); refine store_event (t := 3) (p := 46) (v := ?vo_w17) (w1 := (wr.setCell ⟨go13, ((ji9) : Int).toNat * 2 + 1, none⟩ (.int .i64 x7_1))) ?hg ?ho ?hn ?hr ?_; (case ho => rfl); (case hg => rfl); (case hn => rfl); (case hr => first | (go_simp; done) | (go_simp; rfl)); intro w17 hw; have hg : wr.grownBy w17 (some go13) := (by rw [hw]; exact HP16.2); have hp_ : Kd.R k40 40 w17 w.heap.size (fun _ => True) (.slice (some ⟨go13, 0, none⟩) x5_1.length co15) y583 := (by rw [hw, Ny583.out]; exact HP16.1); clear HP16; replace BK580 := m0 (blk_grown (g := gb580) (o := .cells #[.int .i64 a1_0, .int .i64 a1_1, .int .i64 a1_2] 26 (0, 0)) (bk BK580.out) hg (Kd.R_ne HO_5.out BK580.out (by decide))); replace HO_5 := m0 (hp_); replace HB := m0 ((by rw [hw]; exact below_set (HB.out) GB13.out : Below w.heap.size w w17)); clear hg hw hp_)); try go_wp2_with (first | ((with_reducible refine gate_store (t := 3) (p := 46) rfl ?_); (try (rw [drewN_self wr]; generalize hq_ : World.drewN wr _ = wr; have n0_ := m0 (Kd.R_at hq_ HO_5.out); have n1_ := m0 (blk_at hq_ BK580.out); have n2_ := m0 (below_at hq_ HB.out); clear hq_ HO_5 BK580 HB; have HO_5 := n0_; have BK580 := n1_; have HB := n2_; clear n0_ n1_ n2_; (try (have HX16 := m0 (show Kd.R k40 40 wr w.heap.size (fun _ => True) (.slice (some ⟨go13, 0, none⟩) x5_1.length co15) x5_1 from (br HO_5.out)))); (try (obtain ⟨ce16, hcl16, hM16, hcc16, hfr16⟩ := Kd.R_elem HX16.out z40 ((ji9) : Int) (od) (by have h_ : ((ji9) : Int) < ((x5_1.length : Int) : Int) := od; first | exact h_ | (have e_ := (Kd.R_reads' HO_5.out).1; omega) | simpa using h_))); (try (obtain rfl := k40_openM hM16)); (try (have HP16 := Kd.R_seg HX16.out ((ji9) : Int) (od) (by have h_ : ((ji9) : Int) < ((x5_1.length : Int) : Int) := od; first | exact h_ | (have e_ := (Kd.R_reads' HO_5.out).1; omega) | simpa using h_) (seg := [.int .i64 x7_1]) (j := 1) hcl16 hcc16 (show 2 ≤ 2 from by decide) (x' := (⟨(rd_T40 x5_1 (ji9)).f0, x7_1⟩ : S40)) (k40_mkM _ _ _ (⟨(rd_T40 x5_1 (ji9)).f0, x7_1⟩ : S40) ) (fun _ hk => hk))); (try (have hx16_1 := hcc16 1 _ rfl)); (try (try simp only [show (k40).sz = 2 from rfl, Nat.mul_one, Nat.add_zero] at hx16_1)); (try (have hf16_1 := hfr16 1)); (try (try simp only [show (k40).sz = 2 from rfl, Nat.mul_one, Nat.add_zero] at hf16_1)); (try (clear hcl16 hcc16 hfr16 hM16)))); refine store_event (t := 3) (p := 46) (v := ?vo_w17) (w1 := (wr.setCell ⟨go13, ((ji9) : Int).toNat * 2 + 1, none⟩ (.int .i64 x7_1))) ?hg ?ho ?hn ?hr ?_; (case ho => rfl); (case hg => rfl); (case hn => rfl); (case hr => first | (go_simp; done) | (go_simp; rfl)); intro w17 hw; have hg : wr.grownBy w17 (some go13) := (by rw [hw]; exact HP16.2); have hp_ : Kd.R k40 40 w17 w.heap.size (fun _ => True) (.slice (some ⟨go13, 0, none⟩) x5_1.length co15) y583 := (by rw [hw, Ny583.out]; exact HP16.1); clear HP16; replace BK580 := m0 (blk_grown (g := gb580) (o := .cells #[.int .i64 a1_0, .int .i64 a1_1, .int .i64 a1_2] 26 (0, 0)) (bk BK580.out) hg (Kd.R_ne HO_5.out BK580.out (by decide))); replace HO_5 := m0 (hp_); replace HB := m0 ((by rw [hw]; exact below_set (HB.out) GB13.out : Below w.heap.size w w17)); clear hg hw hp_)))
                    go_roundg k1
                    case measure => have := HK1.out; omega
                    case rel => exact ⟨(y583), (wrap64 (x7_1 + 1)), rz, H', ⟨by have := HK1.out; omega⟩, ⟨br HO_5.out⟩, ⟨bk BK580.out⟩, ⟨bz⟩⟩
                  · rw [if_neg c12] at H; have c12b0 := decide_eq_false c12; clear c12
                    by_cases c18 : x5_1.length < 8796093022208
                    · rw [if_pos c18] at H; have LMc18 := m0 c18; clear c18; obtain ⟨y584, hy584⟩ : ∃ y_ : List (S40), y_ = (x5_1 ++ [(⟨x7_1, x7_1⟩ : S40)]) := ⟨_, rfl⟩; replace H : (Rf_Layers.l0 k1 l0 y584 (wrap64 (x7_1 + 1)) a1_0 a1_1 a1_2) = some r := by first | (rw [hy584]; with_reducible exact H) | (have H2_ := (Option.bind_some _ _).symm.trans H; rw [hy584]; with_reducible exact H2_) | (have H2_ := (Option.bind_some _ _).symm.trans H; with_reducible exact H2_) | with_reducible exact H | (rw [hy584]; exact H) | exact H
                      have Ny584 := m0 hy584; clear hy584; have H' := m0 H; clear H; have p581 : 0 ≤ (x7_1 : Int) := od; have q581 : x7_1 < (l0.length : Int) := od; obtain ⟨ad581, e581, hx581_0⟩ := Kd.at_int HR0.out x7_1 p581 q581
                      cases e581
                      replace hx581_0 := hc HB hx581_0; replace p581 := eq_true p581; replace q581 := eq_true q581; obtain ⟨hcz19_0, hcz19_1, hcz19_2, hfz19_0, hfz19_1, hfz19_2⟩ := b3 BK580; obtain ⟨Ao20, co20, eo20⟩ := Kd.R_slice HO_5.out; subst eo20; have p582 : 0 ≤ ((ji9) : Int) := od; have q582 : (ji9) < (x5_1.length : Int) := od; obtain ⟨ad582, e582, hx582_0, hx582_1⟩ := at_T40 (Kd.R_reads' HO_5.out).2.2 (ji9) p582 q582
                      cases e582
                      replace p582 := eq_true p582; replace q582 := eq_true q582
                      go_wp2_with (first | ((with_reducible refine gate_builtin (b := .append) (xs := #[.tmp 47, .tmp 51]) rfl ?_); at_builtin; refine Kd.R_append k40 (w0 := w) w.heap.size rfl (.tmp 47) (.tmp 51) 34 40 (.agg #[(.int .i64 0), (.int .i64 0)]) 16 rfl Tryz.underlying34 info40 rfl (by decide) (by omega) (.slice (some ad582) x5_1.length co20) x5_1 (⟨x7_1, x7_1⟩ : S40) [.int .i64 x7_1, .int .i64 x7_1] (fun _ => True) (fun _ => False) rfl rfl ?aP (fun _ hk => hk.elim) ?aF ?aO ?aB ?aS ?aL ?_; (case aP => exact k40_mkM _ _ _ (⟨x7_1, x7_1⟩ : S40)); (case aB => exact bz); (case aF => exact (fun _ _ => trivial)); (case aO => exact (br HO_5.out)); (case aS => exact (below_size bz)); (case aL => have := LMc18.out; omega); intro v585 w21 ho hb hg hat; rw [← Ny584.out] at ho; have n0_ := m0 (blk_grown (g := gb580) (o := .cells #[.int .i64 a1_0, .int .i64 a1_1, .int .i64 a1_2] 26 (0, 0)) (bk BK580.out) hg (Kd.R_ne HO_5.out BK580.out (by decide))); have n1_ := m0 (hb); have n2_ := m0 (ho); clear BK580; clear HB; clear HO_5; have BK580 := n0_; have HB := n1_; have HO586 := n2_; clear n0_ n1_ n2_; clear ho hb hg hat))
                      repeat (go_quiet (first | ((with_reducible refine gate_builtin (b := .append) (xs := #[.tmp 47, .tmp 51]) rfl ?_); at_builtin; refine Kd.R_append k40 (w0 := w) w.heap.size rfl (.tmp 47) (.tmp 51) 34 40 (.agg #[(.int .i64 0), (.int .i64 0)]) 16 rfl Tryz.underlying34 info40 rfl (by decide) (by omega) (.slice (some ad582) x5_1.length co20) x5_1 (⟨x7_1, x7_1⟩ : S40) [.int .i64 x7_1, .int .i64 x7_1] (fun _ => True) (fun _ => False) rfl rfl ?aP (fun _ hk => hk.elim) ?aF ?aO ?aB ?aS ?aL ?_; (case aP => exact k40_mkM _ _ _ (⟨x7_1, x7_1⟩ : S40)); (case aB => exact bz); (case aF => exact (fun _ _ => trivial)); (case aO => exact (br HO_5.out)); (case aS => exact (below_size bz)); (case aL => have := LMc18.out; omega); intro v585 w21 ho hb hg hat; rw [← Ny584.out] at ho; have n0_ := m0 (blk_grown (g := gb580) (o := .cells #[.int .i64 a1_0, .int .i64 a1_1, .int .i64 a1_2] 26 (0, 0)) (bk BK580.out) hg (Kd.R_ne HO_5.out BK580.out (by decide))); have n1_ := m0 (hb); have n2_ := m0 (ho); clear BK580; clear HB; clear HO_5; have BK580 := n0_; have HB := n1_; have HO586 := n2_; clear n0_ n1_ n2_; clear ho hb hg hat)); try go_wp2_with (first | ((with_reducible refine gate_builtin (b := .append) (xs := #[.tmp 47, .tmp 51]) rfl ?_); at_builtin; refine Kd.R_append k40 (w0 := w) w.heap.size rfl (.tmp 47) (.tmp 51) 34 40 (.agg #[(.int .i64 0), (.int .i64 0)]) 16 rfl Tryz.underlying34 info40 rfl (by decide) (by omega) (.slice (some ad582) x5_1.length co20) x5_1 (⟨x7_1, x7_1⟩ : S40) [.int .i64 x7_1, .int .i64 x7_1] (fun _ => True) (fun _ => False) rfl rfl ?aP (fun _ hk => hk.elim) ?aF ?aO ?aB ?aS ?aL ?_; (case aP => exact k40_mkM _ _ _ (⟨x7_1, x7_1⟩ : S40)); (case aB => exact bz); (case aF => exact (fun _ _ => trivial)); (case aO => exact (br HO_5.out)); (case aS => exact (below_size bz)); (case aL => have := LMc18.out; omega); intro v585 w21 ho hb hg hat; rw [← Ny584.out] at ho; have n0_ := m0 (blk_grown (g := gb580) (o := .cells #[.int .i64 a1_0, .int .i64 a1_1, .int .i64 a1_2] 26 (0, 0)) (bk BK580.out) hg (Kd.R_ne HO_5.out BK580.out (by decide))); have n1_ := m0 (hb); have n2_ := m0 (ho); clear BK580; clear HB; clear HO_5; have BK580 := n0_; have HB := n1_; have HO586 := n2_; clear n0_ n1_ n2_; clear ho hb hg hat)))
                      go_roundg k1
                      case measure => have := HK1.out; omega
                      case rel => exact ⟨(y584), (wrap64 (x7_1 + 1)), rz, H', ⟨by have := HK1.out; omega⟩, ⟨br HO586.out⟩, ⟨bk BK580.out⟩, ⟨bz⟩⟩
                    · rw [if_neg c18] at H; exact absurd H (by simp)
                · rw [if_neg c11] at H; exact absurd H (by simp)
              · rw [if_neg c10] at H; exact absurd H (by simp)
            · rw [if_neg c8] at H; have c8b0 := decide_eq_false c8; have c8b1 : decide (0 < x5_1.length) = false := decide_eq_false (by omega); clear c8
              by_cases c22 : x5_1.length < 8796093022208
              · rw [if_pos c22] at H; have LMc22 := m0 c22; clear c22; obtain ⟨y587, hy587⟩ : ∃ y_ : List (S40), y_ = (x5_1 ++ [(⟨x7_1, x7_1⟩ : S40)]) := ⟨_, rfl⟩; replace H : (Rf_Layers.l0 k1 l0 y587 (wrap64 (x7_1 + 1)) a1_0 a1_1 a1_2) = some r := by first | (rw [hy587]; with_reducible exact H) | (have H2_ := (Option.bind_some _ _).symm.trans H; rw [hy587]; with_reducible exact H2_) | (have H2_ := (Option.bind_some _ _).symm.trans H; with_reducible exact H2_) | with_reducible exact H | (rw [hy587]; exact H) | exact H
                have Ny587 := m0 hy587; clear hy587; have H' := m0 H; clear H; have p581 : 0 ≤ (x7_1 : Int) := od; have q581 : x7_1 < (l0.length : Int) := od; obtain ⟨ad581, e581, hx581_0⟩ := Kd.at_int HR0.out x7_1 p581 q581
                cases e581
                replace hx581_0 := hc HB hx581_0; replace p581 := eq_true p581; replace q581 := eq_true q581; obtain ⟨hcz23_0, hcz23_1, hcz23_2, hfz23_0, hfz23_1, hfz23_2⟩ := b3 BK580; obtain ⟨Ao24, co24, eo24⟩ := Kd.R_slice HO_5.out; subst eo24
                go_wp2_with (first | ((with_reducible refine gate_builtin (b := .append) (xs := #[.tmp 47, .tmp 51]) rfl ?_); at_builtin; refine Kd.R_append k40 (w0 := w) w.heap.size rfl (.tmp 47) (.tmp 51) 34 40 (.agg #[(.int .i64 0), (.int .i64 0)]) 16 rfl Tryz.underlying34 info40 rfl (by decide) (by omega) (.slice Ao24 x5_1.length co24) x5_1 (⟨x7_1, x7_1⟩ : S40) [.int .i64 x7_1, .int .i64 x7_1] (fun _ => True) (fun _ => False) rfl rfl ?aP (fun _ hk => hk.elim) ?aF ?aO ?aB ?aS ?aL ?_; (case aP => exact k40_mkM _ _ _ (⟨x7_1, x7_1⟩ : S40)); (case aB => exact bz); (case aF => exact (fun _ _ => trivial)); (case aO => exact (br HO_5.out)); (case aS => exact (below_size bz)); (case aL => have := LMc22.out; omega); intro v588 w25 ho hb hg hat; rw [← Ny587.out] at ho; have n0_ := m0 (blk_grown (g := gb580) (o := .cells #[.int .i64 a1_0, .int .i64 a1_1, .int .i64 a1_2] 26 (0, 0)) (bk BK580.out) hg (Kd.R_ne HO_5.out BK580.out (by decide))); have n1_ := m0 (hb); have n2_ := m0 (ho); clear BK580; clear HB; clear HO_5; have BK580 := n0_; have HB := n1_; have HO589 := n2_; clear n0_ n1_ n2_; clear ho hb hg hat))
                repeat (go_quiet (first | ((with_reducible refine gate_builtin (b := .append) (xs := #[.tmp 47, .tmp 51]) rfl ?_); at_builtin; refine Kd.R_append k40 (w0 := w) w.heap.size rfl (.tmp 47) (.tmp 51) 34 40 (.agg #[(.int .i64 0), (.int .i64 0)]) 16 rfl Tryz.underlying34 info40 rfl (by decide) (by omega) (.slice Ao24 x5_1.length co24) x5_1 (⟨x7_1, x7_1⟩ : S40) [.int .i64 x7_1, .int .i64 x7_1] (fun _ => True) (fun _ => False) rfl rfl ?aP (fun _ hk => hk.elim) ?aF ?aO ?aB ?aS ?aL ?_; (case aP => exact k40_mkM _ _ _ (⟨x7_1, x7_1⟩ : S40)); (case aB => exact bz); (case aF => exact (fun _ _ => trivial)); (case aO => exact (br HO_5.out)); (case aS => exact (below_size bz)); (case aL => have := LMc22.out; omega); intro v588 w25 ho hb hg hat; rw [← Ny587.out] at ho; have n0_ := m0 (blk_grown (g := gb580) (o := .cells #[.int .i64 a1_0, .int .i64 a1_1, .int .i64 a1_2] 26 (0, 0)) (bk BK580.out) hg (Kd.R_ne HO_5.out BK580.out (by decide))); have n1_ := m0 (hb); have n2_ := m0 (ho); clear BK580; clear HB; clear HO_5; have BK580 := n0_; have HB := n1_; have HO589 := n2_; clear n0_ n1_ n2_; clear ho hb hg hat)); try go_wp2_with (first | ((with_reducible refine gate_builtin (b := .append) (xs := #[.tmp 47, .tmp 51]) rfl ?_); at_builtin; refine Kd.R_append k40 (w0 := w) w.heap.size rfl (.tmp 47) (.tmp 51) 34 40 (.agg #[(.int .i64 0), (.int .i64 0)]) 16 rfl Tryz.underlying34 info40 rfl (by decide) (by omega) (.slice Ao24 x5_1.length co24) x5_1 (⟨x7_1, x7_1⟩ : S40) [.int .i64 x7_1, .int .i64 x7_1] (fun _ => True) (fun _ => False) rfl rfl ?aP (fun _ hk => hk.elim) ?aF ?aO ?aB ?aS ?aL ?_; (case aP => exact k40_mkM _ _ _ (⟨x7_1, x7_1⟩ : S40)); (case aB => exact bz); (case aF => exact (fun _ _ => trivial)); (case aO => exact (br HO_5.out)); (case aS => exact (below_size bz)); (case aL => have := LMc22.out; omega); intro v588 w25 ho hb hg hat; rw [← Ny587.out] at ho; have n0_ := m0 (blk_grown (g := gb580) (o := .cells #[.int .i64 a1_0, .int .i64 a1_1, .int .i64 a1_2] 26 (0, 0)) (bk BK580.out) hg (Kd.R_ne HO_5.out BK580.out (by decide))); have n1_ := m0 (hb); have n2_ := m0 (ho); clear BK580; clear HB; clear HO_5; have BK580 := n0_; have HB := n1_; have HO589 := n2_; clear n0_ n1_ n2_; clear ho hb hg hat)))
                go_roundg k1
                case measure => have := HK1.out; omega
                case rel => exact ⟨(y587), (wrap64 (x7_1 + 1)), rz, H', ⟨by have := HK1.out; omega⟩, ⟨br HO589.out⟩, ⟨bk BK580.out⟩, ⟨bz⟩⟩
              · rw [if_neg c22] at H; exact absurd H (by simp)
        · rw [if_neg c5] at H; exact absurd H (by simp)
      · rw [if_neg c4] at H; have c4b0 := decide_eq_false c4; clear c4; have H' := m0 H; clear H
        go_wp2
        repeat (go_quiet (fail); try go_wp2)
        go_loopg [6, 9] k1 (fun kq v6 v9 w' => ∃ (x6_2 : List (S40)) (x9_2 : Int), v9 = .int .i64 x9_2 ∧ Aside0 (Rf_Layers.l1 kq x5_1 x6_2 x9_2 a1_0 a1_1 a1_2 = some r) ∧ Aside0 (kq ≤ k1) ∧ Aside0 (Kd.R k40 40 w' w.heap.size (fun k_ => some k_ ≠ (v6 : Value).ownBlock) u5 x5_1) ∧ Aside0 (Kd.R k40 40 w' w.heap.size (fun k_ => some k_ ≠ (u5 : Value).ownBlock) v6 x6_2) ∧ Aside0 (w'.heap[gb580]? = some (.cells #[.int .i64 a1_0, .int .i64 a1_1, .int .i64 a1_2] 26 (0, 0))) ∧ Aside0 (Below w.heap.size w w'))
        case atStart => exact ⟨(([] : List (S40))), (0), rz, H', ⟨Nat.le_refl _⟩, ⟨by (with_reducible repeat (first | apply Kd.R_alloc | apply Kd.R_drewN | apply Kd.R_drew)); exact Kd.R_mono HO_5.out (fun _ hk => (by simp [Value.ownBlock]))⟩, ⟨by first | exact Kd.R_nil _ _ _ _ _ | exact Kd.N_nil _ _ _ _ _ | exact Kd.V_nil _ _ _ _ _ | exact Kd.Q_nil _ _ _ _ _ | exact Kd.S_nil _ _ _ _ _⟩, ⟨bk BK580.out⟩, ⟨bz⟩⟩
        case round =>
          clear H'
          try clear hx1
          try clear hx5
          try clear hx13
          try clear hf13
          try clear hx16
          try clear hf16
          try clear hcz14_0
          try clear hcz14_1
          try clear hcz14_2
          try clear hcz19_0
          try clear hcz19_1
          try clear hcz19_2
          try clear hcz23_0
          try clear hcz23_1
          try clear hcz23_2
          try clear hcz7_0
          try clear hcz7_1
          try clear hcz7_2
          try clear hfz14_0
          try clear hfz14_1
          try clear hfz14_2
          try clear hfz19_0
          try clear hfz19_1
          try clear hfz19_2
          try clear hfz23_0
          try clear hfz23_1
          try clear hfz23_2
          try clear hfz7_0
          try clear hfz7_1
          try clear hfz7_2
          try clear hx13_0
          try clear hx13_1
          try clear hx16_1
          try clear hx581_0
          try clear hx582_0
          try clear hx582_1
          obtain ⟨x6_2, x9_2, rfl, HA, HK2, HO_5, HO_6, BK580, HB⟩ := hrel
          cases gk with
          | zero => exact absurd HA.out (by simp [Rf_Layers.l1])
          | succ k2 =>
            have H := HA.out; clear HA; simp only [Rf_Layers.l1] at H
            by_cases c26 : x9_2 < (x5_1.length : Int)
            · rw [if_pos c26] at H; have c26b0 := decide_eq_true c26; clear c26
              by_cases c27 : 0 ≤ x9_2
              · rw [if_pos c27] at H; have c27b0 := decide_eq_true c27; clear c27
                by_cases c28 : (wrap64 ((wrap64 (((rd_T40 x5_1 x9_2).f1) - ((rd_T40 x5_1 x9_2).f0))) + 1)) ≥ a1_2
                · rw [if_pos c28] at H; have c28b0 := decide_eq_true c28; clear c28
                  by_cases c29 : x6_2.length < 8796093022208
                  · rw [if_pos c29] at H; have LMc29 := m0 c29; clear c29; obtain ⟨y593, hy593⟩ : ∃ y_ : List (S40), y_ = (x6_2 ++ [(⟨(rd_T40 x5_1 x9_2).f0, (rd_T40 x5_1 x9_2).f1⟩ : S40)]) := ⟨_, rfl⟩; replace H : (Rf_Layers.l1 k2 x5_1 y593 (wrap64 (x9_2 + 1)) a1_0 a1_1 a1_2) = some r := by first | (rw [hy593]; with_reducible exact H) | (have H2_ := (Option.bind_some _ _).symm.trans H; rw [hy593]; with_reducible exact H2_) | (have H2_ := (Option.bind_some _ _).symm.trans H; with_reducible exact H2_) | with_reducible exact H | (rw [hy593]; exact H) | exact H
                    have Ny593 := m0 hy593; clear hy593; have H' := m0 H; clear H; obtain ⟨Ao30, co30, eo30⟩ := Kd.R_slice HO_5.out; subst eo30; have p590 : 0 ≤ (x9_2 : Int) := od; have q590 : x9_2 < (x5_1.length : Int) := od; obtain ⟨ad590, e590, hx590_0, hx590_1⟩ := at_T40 (Kd.R_reads' HO_5.out).2.2 x9_2 p590 q590
                    cases e590
                    replace p590 := eq_true p590; replace q590 := eq_true q590; have p591 : 0 ≤ (x9_2 : Int) := od; have q591 : x9_2 < (x5_1.length : Int) := od; obtain ⟨ad591, e591, hx591_0, hx591_1⟩ := at_T40 (Kd.R_reads' HO_5.out).2.2 x9_2 p591 q591; obtain rfl : ad590 = ad591 := (by injection e591); replace p591 := eq_true p591; replace q591 := eq_true q591; obtain ⟨_, _, _, _, _, _⟩ := b3 BK580; have p592 : 0 ≤ (x9_2 : Int) := od; have q592 : x9_2 < (x5_1.length : Int) := od; obtain ⟨ad592, e592, hx592_0, hx592_1⟩ := at_T40 (Kd.R_reads' HO_5.out).2.2 x9_2 p592 q592; obtain rfl : ad590 = ad592 := (by injection e592); replace p592 := eq_true p592; replace q592 := eq_true q592
                    go_wp2_with (first | ((with_reducible refine gate_builtin (b := .append) (xs := #[.tmp 74, .tmp 79]) rfl ?_); at_builtin; refine Kd.R_append k40 (w0 := w) w.heap.size rfl (.tmp 74) (.tmp 79) 34 40 (.agg #[(.int .i64 0), (.int .i64 0)]) 16 rfl Tryz.underlying34 info40 rfl (by decide) (by omega) u6 x6_2 (⟨(rd_T40 x5_1 x9_2).f0, (rd_T40 x5_1 x9_2).f1⟩ : S40) [.int .i64 ((rd_T40 x5_1 x9_2).f0), .int .i64 ((rd_T40 x5_1 x9_2).f1)] (fun k_ => some k_ ≠ (.slice (some ad590) x5_1.length co30 : Value).ownBlock) (fun _ => False) rfl rfl ?aP (fun _ hk => hk.elim) ?aF ?aO ?aB ?aS ?aL ?_; (case aP => exact k40_mkM _ _ _ (⟨(rd_T40 x5_1 x9_2).f0, (rd_T40 x5_1 x9_2).f1⟩ : S40)); (case aB => exact bz); (case aF => exact (fun k_ hk => Kd.fresh' (Kd.R_lt (br HO_5.out)) k_ hk)); (case aO => exact (br HO_6.out)); (case aS => exact (below_size bz)); (case aL => have := LMc29.out; omega); intro v594 w32 ho hb hg hat; rw [← Ny593.out] at ho; have n0_ := m0 (Kd.R_after (ok := (fun _ => True)) (by (with_reducible repeat (first | apply Kd.R_alloc | apply Kd.R_drewN | apply Kd.R_drew)); exact Kd.R_mono HO_5.out (fun _ hk => ⟨trivial, hk⟩)) hg hat); have n1_ := m0 (blk_grown (g := gb580) (o := .cells #[.int .i64 a1_0, .int .i64 a1_1, .int .i64 a1_2] 26 (0, 0)) (bk BK580.out) hg (Kd.R_ne HO_6.out BK580.out (by decide))); have n2_ := m0 (hb); have n3_ := m0 (ho); clear HO_5; clear BK580; clear HB; clear HO_6; have HO_5 := n0_; have BK580 := n1_; have HB := n2_; have HO595 := n3_; clear n0_ n1_ n2_ n3_; clear ho hb hg hat))
                    repeat (go_quiet (first | ((with_reducible refine gate_builtin (b := .append) (xs := #[.tmp 74, .tmp 79]) rfl ?_); at_builtin; refine Kd.R_append k40 (w0 := w) w.heap.size rfl (.tmp 74) (.tmp 79) 34 40 (.agg #[(.int .i64 0), (.int .i64 0)]) 16 rfl Tryz.underlying34 info40 rfl (by decide) (by omega) u6 x6_2 (⟨(rd_T40 x5_1 x9_2).f0, (rd_T40 x5_1 x9_2).f1⟩ : S40) [.int .i64 ((rd_T40 x5_1 x9_2).f0), .int .i64 ((rd_T40 x5_1 x9_2).f1)] (fun k_ => some k_ ≠ (.slice (some ad590) x5_1.length co30 : Value).ownBlock) (fun _ => False) rfl rfl ?aP (fun _ hk => hk.elim) ?aF ?aO ?aB ?aS ?aL ?_; (case aP => exact k40_mkM _ _ _ (⟨(rd_T40 x5_1 x9_2).f0, (rd_T40 x5_1 x9_2).f1⟩ : S40)); (case aB => exact bz); (case aF => exact (fun k_ hk => Kd.fresh' (Kd.R_lt (br HO_5.out)) k_ hk)); (case aO => exact (br HO_6.out)); (case aS => exact (below_size bz)); (case aL => have := LMc29.out; omega); intro v594 w32 ho hb hg hat; rw [← Ny593.out] at ho; have n0_ := m0 (Kd.R_after (ok := (fun _ => True)) (by (with_reducible repeat (first | apply Kd.R_alloc | apply Kd.R_drewN | apply Kd.R_drew)); exact Kd.R_mono HO_5.out (fun _ hk => ⟨trivial, hk⟩)) hg hat); have n1_ := m0 (blk_grown (g := gb580) (o := .cells #[.int .i64 a1_0, .int .i64 a1_1, .int .i64 a1_2] 26 (0, 0)) (bk BK580.out) hg (Kd.R_ne HO_6.out BK580.out (by decide))); have n2_ := m0 (hb); have n3_ := m0 (ho); clear HO_5; clear BK580; clear HB; clear HO_6; have HO_5 := n0_; have BK580 := n1_; have HB := n2_; have HO595 := n3_; clear n0_ n1_ n2_ n3_; clear ho hb hg hat)); try go_wp2_with (first | ((with_reducible refine gate_builtin (b := .append) (xs := #[.tmp 74, .tmp 79]) rfl ?_); at_builtin; refine Kd.R_append k40 (w0 := w) w.heap.size rfl (.tmp 74) (.tmp 79) 34 40 (.agg #[(.int .i64 0), (.int .i64 0)]) 16 rfl Tryz.underlying34 info40 rfl (by decide) (by omega) u6 x6_2 (⟨(rd_T40 x5_1 x9_2).f0, (rd_T40 x5_1 x9_2).f1⟩ : S40) [.int .i64 ((rd_T40 x5_1 x9_2).f0), .int .i64 ((rd_T40 x5_1 x9_2).f1)] (fun k_ => some k_ ≠ (.slice (some ad590) x5_1.length co30 : Value).ownBlock) (fun _ => False) rfl rfl ?aP (fun _ hk => hk.elim) ?aF ?aO ?aB ?aS ?aL ?_; (case aP => exact k40_mkM _ _ _ (⟨(rd_T40 x5_1 x9_2).f0, (rd_T40 x5_1 x9_2).f1⟩ : S40)); (case aB => exact bz); (case aF => exact (fun k_ hk => Kd.fresh' (Kd.R_lt (br HO_5.out)) k_ hk)); (case aO => exact (br HO_6.out)); (case aS => exact (below_size bz)); (case aL => have := LMc29.out; omega); intro v594 w32 ho hb hg hat; rw [← Ny593.out] at ho; have n0_ := m0 (Kd.R_after (ok := (fun _ => True)) (by (with_reducible repeat (first | apply Kd.R_alloc | apply Kd.R_drewN | apply Kd.R_drew)); exact Kd.R_mono HO_5.out (fun _ hk => ⟨trivial, hk⟩)) hg hat); have n1_ := m0 (blk_grown (g := gb580) (o := .cells #[.int .i64 a1_0, .int .i64 a1_1, .int .i64 a1_2] 26 (0, 0)) (bk BK580.out) hg (Kd.R_ne HO_6.out BK580.out (by decide))); have n2_ := m0 (hb); have n3_ := m0 (ho); clear HO_5; clear BK580; clear HB; clear HO_6; have HO_5 := n0_; have BK580 := n1_; have HB := n2_; have HO595 := n3_; clear n0_ n1_ n2_ n3_; clear ho hb hg hat)))
                    go_roundg k2
                    case measure => have := HK1.out; have := HK2.out; omega
                    case rel => exact ⟨(y593), (wrap64 (x9_2 + 1)), rz, H', ⟨by have := HK1.out; have := HK2.out; omega⟩, ⟨by (with_reducible repeat (first | apply Kd.R_alloc | apply Kd.R_drewN | apply Kd.R_drew)); exact Kd.R_mono HO_5.out (fun _ hk => hk.2)⟩, ⟨br HO595.out⟩, ⟨bk BK580.out⟩, ⟨bz⟩⟩
                  · rw [if_neg c29] at H; exact absurd H (by simp)
                · rw [if_neg c28] at H; have c28b0 := decide_eq_false c28; clear c28; have H' := m0 H; clear H; obtain ⟨Ao33, co33, eo33⟩ := Kd.R_slice HO_5.out; subst eo33; have p590 : 0 ≤ (x9_2 : Int) := od; have q590 : x9_2 < (x5_1.length : Int) := od; obtain ⟨ad590, e590, hx590_0, hx590_1⟩ := at_T40 (Kd.R_reads' HO_5.out).2.2 x9_2 p590 q590
                  cases e590
                  replace p590 := eq_true p590; replace q590 := eq_true q590; have p591 : 0 ≤ (x9_2 : Int) := od; have q591 : x9_2 < (x5_1.length : Int) := od; obtain ⟨ad591, e591, hx591_0, hx591_1⟩ := at_T40 (Kd.R_reads' HO_5.out).2.2 x9_2 p591 q591; obtain rfl : ad590 = ad591 := (by injection e591); replace p591 := eq_true p591; replace q591 := eq_true q591; obtain ⟨_, _, _, _, _, _⟩ := b3 BK580
                  go_wp2
                  repeat (go_quiet (fail); try go_wp2)
                  go_roundg k2
                  case measure => have := HK1.out; have := HK2.out; omega
                  case rel => exact ⟨(x6_2), (wrap64 (x9_2 + 1)), rz, H', ⟨by have := HK1.out; have := HK2.out; omega⟩, ⟨br HO_5.out⟩, ⟨br HO_6.out⟩, ⟨bk BK580.out⟩, ⟨bz⟩⟩
              · rw [if_neg c27] at H; exact absurd H (by simp)
            · rw [if_neg c26] at H; have c26b0 := decide_eq_false c26; clear c26; obtain rfl := Option.some.inj H; obtain ⟨Ao35, co35, eo35⟩ := Kd.R_slice HO_5.out; subst eo35
              go_wp2
              repeat (go_quiet (fail); try go_wp2)
              go_ret
              exact ⟨_, by first | rfl | (simp [errW_none, errW_some] <;> rfl) | (simp [*, errW_none, errW_some] <;> rfl), by (with_reducible repeat (first | apply Kd.R_alloc | apply Kd.R_drewN | apply Kd.R_drew)); exact Kd.R_mono HO_6.out (fun _ hk => trivial), by repeat (first | (with_reducible first | exact HB.out | apply below_alloc | apply pw_below_drewN | apply below_drew1 | refine below_set ?_ GE580.out) | exact HB.out)⟩
end
end Go.Proofs.YteiafijbgjgiaaaGreat.A
