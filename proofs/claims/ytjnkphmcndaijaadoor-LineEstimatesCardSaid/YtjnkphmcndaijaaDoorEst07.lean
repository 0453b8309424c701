/- Walks of the program's functions (printed, made shorter), each with what it computes. -/
import Derived.Test.YtjnkphmcndaijaaDoorEst04
import Derived.Test.YtjnkphmcndaijaaDoorEst06
import Derived.Test.YtjnkphmcndaijaaDoorEst03
namespace Go.Proofs.YtjnkphmcndaijaaDoor.A
set_option maxHeartbeats 8000000
set_option maxRecDepth 100000
open Go.RowKit Go.Proofs.YtjnkphmcndaijaaDoorW.PrintWords Go.Proofs.YtjnkphmcndaijaaDoorW.PrintLast Go.Proofs.YtjnkphmcndaijaaDoorW.PrintMore
attribute [local go_sem] max2_int min2_int max_two min_two max_three min_three max_four min_four
set_option linter.unusedVariables false
set_option linter.unusedSimpArgs false
def line_CheckCase.f (k : Nat) (l0_0 : List Int) (l0_1 : List Int) (a0_2 : Int) (a0_3 : Int) : Option (Int) := (line_CheckSpectrum.f l0_0).bind fun bt116 => ((line_CheckNoise.f l0_1).bind fun bt118 => ((line_first.f k (([bt116.2, bt118.2] : List Int))).bind fun t123 => (if t123 = 0 then ((line_cases.f k l0_1 (l0_0.length : Int)).bind fun bt124 => ((slices_Max_int_int.f k l0_0).bind fun t126 => ((line_unless.f (decide (t126 ≤ 9000)) 2).bind fun t127 => ((line_unless.f bt124.2 8).bind fun t128 => ((line_lowestErr.f k a0_2 a0_3 100).bind fun t129 => ((line_first.f k (([t127, t128, t129] : List Int))).bind fun t133 => (some t133))))))) else (some t123))))
theorem line_CheckCase.mono : ∀ a0 a1 a2 a3 k, LeO (line_CheckCase.f k a0 a1 a2 a3) (line_CheckCase.f (k + 1) a0 a1 a2 a3) := by
 intro a0 a1 a2 a3 k
 unfold line_CheckCase.f
 repeat' first
   | (with_reducible exact line_cases.mono _ _ _)
   | (with_reducible exact line_first.mono _ _)
   | (with_reducible exact line_lowestErr.mono _ _ _ _)
   | (with_reducible exact slices_Max_int_int.mono _ _)
   | (with_reducible exact LeO.refl _)
   | (with_reducible exact LeO.none _)
   | (with_reducible refine LeO.ite ?_ ?_)
   | (with_reducible refine LeO.bind ?_ (fun _ => ?_))
   | exact line_cases.mono _ _ _
   | exact line_first.mono _ _
   | exact line_lowestErr.mono _ _ _ _
   | exact slices_Max_int_int.mono _ _
   | exact LeO.none _
   | refine LeO.ite ?_ ?_
   | refine LeO.bind ?_ (fun _ => ?_)
def line_CheckCase.T7 : Bool × List (List Nat × List Nat) := (true, [([], []), ([0], [0]), ([1], [1]), ([2], [2]), ([3, 2], [3]), ([], []), ([5, 4], [5]), ([], []), ([7], [7]), ([8, 6], [8]), ([4, 6, 9], [4, 6, 9]), ([10, 9], [10]), ([11, 11, 0, 1, 2, 3, 4, 5, 6, 7, 8, 9, 10, 11], [11])])
def line_CheckCase.B7 : List Nat := [0, 1, 3, 7, 15, 0, 63, 0, 128, 511, 1023, 2047, 4095]
theorem line_CheckCase.tab7 : rtab .any (opsOf Tryd.f53 7) = line_CheckCase.T7 := by kernel_rfl
theorem line_CheckCase.bits7 : waitsOk line_CheckCase.T7.2 line_CheckCase.B7 = true := by kernel_rfl
theorem line_CheckCase.calls (k : Nat) (A0_0 : Option Addr) (c0_0 : Nat) (l0_0 : List Int) (A0_1 : Option Addr) (c0_1 : Nat) (l0_1 : List Int) (a0_2 : Int) (a0_3 : Int) (r : Int) (w : World) (hr0_0 : Kd.C (Kd.int .i64) w A0_0 l0_0.length l0_0) (hc0_0 : l0_0.length ≤ c0_0) (hr0_1 : Kd.C (Kd.int .i64) w A0_1 l0_1.length l0_1) (hc0_1 : l0_1.length ≤ c0_1) (h : line_CheckCase.f k l0_0 l0_1 a0_2 a0_3 = some r) :
  Calls Tryd.prog 53 #[.agg #[.slice A0_0 l0_0.length c0_0, .slice A0_1 l0_1.length c0_1, .int .i64 a0_2, .int .i64 a0_3]] w fun e w' => e = .returned (.int .i64 r) ∧ Below w.heap.size w w' := by
 have hu28 := Tryd.underlying28
 have hu24 := Tryd.underlying24
 have hu26 := Tryd.underlying26
 have HR0_0 := m0 hr0_0
 have HC0_0 := m0 hc0_0
 clear hr0_0 hc0_0
 have HR0_1 := m0 hr0_1
 have HC0_1 := m0 hc0_1
 clear hr0_1 hc0_1
 have HB := m0 (Below.refl w.heap.size w)
 have H : ((line_CheckSpectrum.f l0_0).bind fun bt116 => ((line_CheckNoise.f l0_1).bind fun bt118 => ((line_first.f k (([bt116.2, bt118.2] : List Int))).bind fun t123 => (if t123 = 0 then ((line_cases.f k l0_1 (l0_0.length : Int)).bind fun bt124 => ((slices_Max_int_int.f k l0_0).bind fun t126 => ((line_unless.f (decide (t126 ≤ 9000)) 2).bind fun t127 => ((line_unless.f bt124.2 8).bind fun t128 => ((line_lowestErr.f k a0_2 a0_3 100).bind fun t129 => ((line_first.f k (([t127, t128, t129] : List Int))).bind fun t133 => (some t133))))))) else (some t123))))) = some r := h
 clear h
 replace H := ob H
 obtain ⟨⟨t116, t117⟩, A20, H⟩ := H
 (try dsimp only at H)
 have A2 := m0 A20
 clear A20
 replace H := ob H
 obtain ⟨⟨t118, t119⟩, A30, H⟩ := H
 (try dsimp only at H)
 have A3 := m0 A30
 clear A30
 obtain ⟨y120, hy120⟩ : ∃ y_ : List Int, y_ = (([t117, t119] : List Int)) := ⟨_, rfl⟩
 replace H : ((line_first.f k y120).bind fun t123 => (if t123 = 0 then ((line_cases.f k l0_1 (l0_0.length : Int)).bind fun bt124 => ((slices_Max_int_int.f k l0_0).bind fun t126 => ((line_unless.f (decide (t126 ≤ 9000)) 2).bind fun t127 => ((line_unless.f bt124.2 8).bind fun t128 => ((line_lowestErr.f k a0_2 a0_3 100).bind fun t129 => ((line_first.f k (([t127, t128, t129] : List Int))).bind fun t133 => (some t133))))))) else (some t123))) = some r := by first | (rw [hy120]; with_reducible exact H) | (have H2_ := (Option.bind_some _ _).symm.trans H; rw [hy120]; with_reducible exact H2_) | (have H2_ := (Option.bind_some _ _).symm.trans H; with_reducible exact H2_) | with_reducible exact H | (rw [hy120]; exact H) | exact H
 have Ny120 := m0 hy120
 clear hy120
 replace H := ob H
 obtain ⟨t123, A40, H⟩ := H
 (try dsimp only at H)
 have A4 := m0 A40
 clear A40
 by_cases c5 : t123 = 0
 ·rw [if_pos c5] at H
  have c5b0 := beq_iff_eq.mpr c5
  have c5b1 := bne_eq_false_iff_eq.mpr c5
  clear c5
  replace H := ob H
  obtain ⟨⟨t124, t125⟩, A60, H⟩ := H
  (try dsimp only at H)
  have A6 := m0 A60
  clear A60
  replace H := ob H
  obtain ⟨t126, A70, H⟩ := H
  (try dsimp only at H)
  have A7 := m0 A70
  clear A70
  replace H := ob H
  obtain ⟨t127, A80, H⟩ := H
  (try dsimp only at H)
  have A8 := m0 A80
  clear A80
  replace H := ob H
  obtain ⟨t128, A90, H⟩ := H
  (try dsimp only at H)
  have A9 := m0 A90
  clear A90
  replace H := ob H
  obtain ⟨t129, A100, H⟩ := H
  (try dsimp only at H)
  have A10 := m0 A100
  clear A100
  obtain ⟨y130, hy130⟩ : ∃ y_ : List Int, y_ = (([t127, t128, t129] : List Int)) := ⟨_, rfl⟩
  replace H : ((line_first.f k y130).bind fun t133 => (some t133)) = some r := by first | (rw [hy130]; with_reducible exact H) | (have H2_ := (Option.bind_some _ _).symm.trans H; rw [hy130]; with_reducible exact H2_) | (have H2_ := (Option.bind_some _ _).symm.trans H; with_reducible exact H2_) | with_reducible exact H | (rw [hy130]; exact H) | exact H
  have Ny130 := m0 hy130
  clear hy130
  replace H := ob H
  obtain ⟨t133, A110, H⟩ := H
  (try dsimp only at H)
  have A11 := m0 A110
  clear A110
  obtain rfl := Option.some.inj H
  go_enter Tryd.func53, Tryd.ntmps53
  try go_wp2_with (first | ((with_reducible refine gate_dst (N := 1) rfl ?_); refine be 1 28 #[.slice A0_0 l0_0.length c0_0, .slice A0_1 l0_1.length c0_1, .int .i64 a0_2, .int .i64 a0_3] ?_; intro gb115 hg w12 hbox hb; have BK115 := m0 hbox; have GW115 := m0 (bg (n := w.heap.size) hg); have GE115 := m0 (bg (n := w.heap.size) hg); replace HB := sb HB hb; clear hb hbox hg; obtain ⟨_, _, _, _, _, _, _, _⟩ := b4 BK115) | ((with_reducible refine gate_callee (f := 75) rfl ?_); refine gl (some 12) Tryd.func75 #[.slice A0_0 l0_0.length c0_0] ?_; (with_reducible refine (line_CheckSpectrum.calls _ _ l0_0 t116 t117 _ ?side1 ?side2 A2.out).mono ?_); (case side1 => exact cb HR0_0 HB); (case side2 => exact HC0_0.out); rintro e w14 ⟨rfl, hb⟩; refine ⟨_, rfl, ?_⟩; replace BK115 := bb BK115 hb; replace HB := sb HB hb; (try clear hb); obtain ⟨_, _, _, _, _, _, _, _⟩ := b4 BK115) | ((with_reducible refine gate_callee (f := 51) rfl ?_); refine gl (some 18) Tryd.func51 #[.agg #[.slice A0_1 l0_1.length c0_1]] ?_; (with_reducible refine (line_CheckNoise.calls _ _ l0_1 t118 t119 _ ?side1 ?side2 A3.out).mono ?_); (case side1 => exact cb HR0_1 HB); (case side2 => exact HC0_1.out); rintro e w16 ⟨rfl, hb⟩; refine ⟨_, rfl, ?_⟩; replace BK115 := bb BK115 hb; replace HB := sb HB hb; (try clear hb)) | ((with_reducible refine gate_dst (N := 23) rfl ?_); refine Kd.R_lit (Kd.int .i64) _ 31 ?hg (N := 23) ?hd (xs := ([t117, t119] : List Int)) (inner := [.int .i64 t117, .int .i64 t119]) (ok := fun _ => True) (okp := fun _ => True) ?hr ?hp (fun _ hk => hk) trivial (Below.refl _ _) (Nat.le_refl _) (by simp) ?_; (case hd => rfl); (case hg => rfl); (case hr => first | (go_simp; done) | (go_simp; rfl)); (case hp => exact (Reps.one (show Kd.M (Kd.int .i64) _ _ _ t117 [.int .i64 t117] from rfl) (Reps.one (show Kd.M (Kd.int .i64) _ _ _ t119 [.int .i64 t119] from rfl) (Reps.none _ _)))); intro v121 w17 ho18 hb hg_ hnew_; clear hg_ hnew_; (first | rw [← Ny120.out] at ho18 | (simp only [Int.reduceToNat] at ho18; rw [← Ny120.out] at ho18)); have HO122 := m0 (Kd.R_lower ho18 (below_size bz)); replace BK115 := bb BK115 hb; replace HB := sb HB hb; clear hb ho18; obtain ⟨Ao19, co19, eo19⟩ := Kd.R_slice HO122.out; subst eo19) | ((with_reducible refine gate_callee (f := 91) rfl ?_); refine gl (some 24) Tryd.func91 #[.slice Ao19 y120.length co19] ?_; (with_reducible refine (line_first.calls k _ _ y120 t123 _ ?side1 ?side2 A4.out).mono ?_); (case side1 => exact bc (Kd.R_reads' HO122.out).2.2); (case side2 => exact (Kd.R_reads' HO122.out).2.1); rintro e w' ⟨rfl, ⟨nd, rfl⟩⟩; refine ⟨_, rfl, ?_⟩; obtain ⟨_, _, _, _, _, _, _, _⟩ := b4 BK115) | ((with_reducible refine gate_callee (f := 121) rfl ?_); refine gl (some 34) Tryd.func121 #[.agg #[.slice A0_1 l0_1.length c0_1], .int .i64 (l0_0.length : Int)] ?_; (with_reducible refine (line_cases.calls k _ _ l0_1 (l0_0.length : Int) t124 t125 _ ?side1 ?side2 A6.out).mono ?_); (case side1 => repeat (first | exact (Kd.C_below HR0_1.out bz) | (with_reducible refine Kd.C_alloc ?_ _) | (with_reducible refine Kd.C_drewN ?_ _) | (with_reducible refine Kd.C_drew ?_))); (case side2 => exact HC0_1.out); rintro e w21 ⟨rfl, hb⟩; refine ⟨_, rfl, ?_⟩; replace HO122 := rb HO122 hb; replace BK115 := bb BK115 hb; replace HB := sb HB hb; (try clear hb)))
  replace HO122 := m0 (Kd.R_drew HO122.out); replace BK115 := bd BK115; replace HB := sd HB
  refine start_ (n := 13) (S := fun w' => w'.cell? ⟨gb115, 0, none⟩ = some (.slice A0_0 l0_0.length c0_0) ∧ w'.cell? ⟨gb115, 1, none⟩ = some (.slice A0_1 l0_1.length c0_1) ∧ w'.cell? ⟨gb115, 2, none⟩ = some (.int .i64 a0_2) ∧ w'.cell? ⟨gb115, 3, none⟩ = some (.int .i64 a0_3)) (ds := []) #[false, false, false, false, false, false, false, false, false, false, false, false, false] (by kernel_rfl) rfl rfl cz (fun hHeld => ?_); refine with_tabW line_CheckCase.tab7 line_CheckCase.bits7 (fun HT_ HW_ => ?_)
  generalize w21.drew = w22 at HO122 BK115 HB hHeld ⊢
  refine pureZ (i := 0) (N := some 37) (bs 13 1) HT_ ?_
  refine pureZ (i := 5) (N := some 42) (bs 13 33) HT_ ?_
  refine pureZ (i := 7) (N := some 44) (bs 13 161) HT_ ?_
  refine takeZ 1 (some 38) (bs 13 163) (take_ofW HT_.out HW_.out (by kernel_rfl)) hHeld ?_
  refine takeZ 8 (some 45) (bs 13 419) (take_ofW HT_.out HW_.out (by kernel_rfl)) hHeld ?_
  refine oneZ 2 (some 39) (bs 13 423) (one_of HT_.out (by kernel_rfl)) fun K hK => ?_
  refine goes_ Tryd.func122 (by kernel_rfl) rfl #[.slice A0_0 l0_0.length c0_0] (by rfl) rfl rfl mz ?_
  with_reducible refine (slices_Max_int_int.calls k _ _ l0_0 t126 _ ?side1 ?side2 A7.out).mono ?_
  (case side1 => exact cb HR0_0 HB)
  (case side2 => exact HC0_0.out)
  rintro e w23 ⟨rfl, hb⟩
  refine ⟨_, rfl, ?_⟩
  replace HO122 := rb HO122 hb; replace BK115 := bb BK115 hb; replace HB := sb HB hb
  (try clear hb)
  refine hK.out _ _ cz (fun hHeld => ?_)
  clear hK K
  refine norm_ (a' := ?_) ?_ ?_
  rotate_left
  ·show Act.put _ (some 39) _ = _
   exact pz
  refine pureZ (i := 3) (N := some 40) (bs 13 431) HT_ ?_
  refine oneZ 4 (some 41) (bs 13 447) (one_of HT_.out (by kernel_rfl)) fun K hK => ?_
  refine goes_ Tryd.func93 (by kernel_rfl) rfl #[.bool (decide (t126 ≤ 9000)), .int .i64 2] (by rfl) rfl rfl mz ?_
  with_reducible refine (line_unless.calls (decide (t126 ≤ 9000)) 2 t127 _ A8.out).mono ?_
  rintro e w' ⟨rfl, ⟨nd, rfl⟩⟩
  refine ⟨_, rfl, ?_⟩
  refine hK.out _ _ cz (fun hHeld => ?_)
  clear hK K
  refine norm_ (a' := ?_) ?_ ?_
  rotate_left
  ·show Act.put _ (some 41) _ = _
   exact pz
  refine oneZ 6 (some 43) (bs 13 511) (one_of HT_.out (by kernel_rfl)) fun K hK => ?_
  refine goes_ Tryd.func93 (by kernel_rfl) rfl #[.bool t125, .int .i64 8] (by rfl) rfl rfl mz ?_
  with_reducible refine (line_unless.calls t125 8 t128 _ A9.out).mono ?_
  rintro e w' ⟨rfl, ⟨nd, rfl⟩⟩
  refine ⟨_, rfl, ?_⟩
  refine hK.out _ _ cz (fun hHeld => ?_)
  clear hK K
  refine norm_ (a' := ?_) ?_ ?_
  rotate_left
  ·show Act.put _ (some 43) _ = _
   exact pz
  refine oneZ 9 (some 46) (bs 13 1023) (one_of HT_.out (by kernel_rfl)) fun K hK => ?_
  refine goes_ Tryd.func109 (by kernel_rfl) rfl #[.agg #[.int .i64 a0_2, .int .i64 a0_3], .int .i64 100] (by rfl) rfl rfl mz ?_
  with_reducible refine (line_lowestErr.calls k a0_2 a0_3 100 t129 _ A10.out).mono ?_
  rintro e w24 ⟨rfl, hb⟩
  refine ⟨_, rfl, ?_⟩
  replace HO122 := rb HO122 hb; replace BK115 := bb BK115 hb; replace HB := sb HB hb
  (try clear hb)
  refine hK.out _ _ cz (fun hHeld => ?_)
  clear hK K
  refine norm_ (a' := ?_) ?_ ?_
  rotate_left
  ·show Act.put _ (some 46) _ = _
   exact pz
  refine oneZ 10 (some 47) (bs 13 2047) (one_of HT_.out (by kernel_rfl)) fun K hK => ?_
  refine Kd.R_lit_step (Kd.int .i64) _ 31 ?hg (N := 47) ?hd (xs := ([t127, t128, t129] : List Int)) (inner := [.int .i64 t127, .int .i64 t128, .int .i64 t129]) (ok := fun _ => True) (okp := fun _ => True) ?hr ?hp (fun _ hk => hk) trivial (Below.refl _ _) (Nat.le_refl _) (by simp) ?_; (case hd => rfl); (case hg => rfl); (case hr => first | (go_simp; done) | (go_simp; rfl)); (case hp => exact (Reps.one (show Kd.M (Kd.int .i64) _ _ _ t127 [.int .i64 t127] from rfl) (Reps.one (show Kd.M (Kd.int .i64) _ _ _ t128 [.int .i64 t128] from rfl) (Reps.one (show Kd.M (Kd.int .i64) _ _ _ t129 [.int .i64 t129] from rfl) (Reps.none _ _)))))
  intro v131 w25 ho26 hb hg_ hnew_
  clear hg_ hnew_
  (first | rw [← Ny130.out] at ho26 | (simp only [Int.reduceToNat] at ho26; rw [← Ny130.out] at ho26))
  have HO132 := m0 (Kd.R_lower (Kd.R_new' ho26 (Kd.R_lt (br HO122.out))) (below_size bz)); replace HO122 := m0 (Kd.R_elder' (br HO122.out) (Kd.R_base ho26) hb); replace BK115 := bb BK115 hb; replace HB := sb HB hb
  clear hb ho26
  obtain ⟨Ao27, co27, eo27⟩ := Kd.R_slice HO132.out
  (first | subst eo27 | (injection eo27 with f1_ f2_ f3_; have f4_ := f1_.symm; have f5_ := f3_.symm; clear f1_ f2_ f3_; subst f4_; subst f5_))
  refine hK.out _ _ cz (fun hHeld => ?_)
  clear hK K
  refine norm_ (a' := ?_) ?_ ?_
  rotate_left
  ·show Act.put _ (some 47) _ = _
   exact pz
  refine oneZ 11 (some 48) (bs 13 4095) (one_of HT_.out (by kernel_rfl)) fun K hK => ?_
  refine goes_ Tryd.func91 (by kernel_rfl) rfl #[.slice Ao27 y130.length co27] (by rfl) rfl rfl mz ?_
  with_reducible refine (line_first.calls k _ _ y130 t133 _ ?side1 ?side2 A11.out).mono ?_
  (case side1 => exact bc (Kd.R_reads' HO132.out).2.2)
  (case side2 => exact (Kd.R_reads' HO132.out).2.1)
  rintro e w' ⟨rfl, ⟨nd, rfl⟩⟩
  refine ⟨_, rfl, ?_⟩
  refine hK.out _ _ cz (fun hHeld => ?_)
  clear hK K
  refine norm_ (a' := ?_) ?_ ?_
  rotate_left
  ·show Act.put _ (some 48) _ = _
   exact pz
  refine pureZ (i := 12) (N := some 2) (bs 13 8191) HT_ ?_
  refine done_ (done_of HT_.out (by kernel_rfl)) ?_
  try go_wp2
  go_ret
  exact ez
 ·rw [if_neg c5] at H
  have c5b0 := beq_eq_false_iff_ne.mpr c5
  have c5b1 := bne_iff_ne.mpr c5
  obtain rfl := Option.some.inj H
  go_enter Tryd.func53, Tryd.ntmps53
  go_wp2_with (first | ((with_reducible refine gate_dst (N := 1) rfl ?_); refine be 1 28 #[.slice A0_0 l0_0.length c0_0, .slice A0_1 l0_1.length c0_1, .int .i64 a0_2, .int .i64 a0_3] ?_; intro gb115 hg w28 hbox hb; have BK115 := m0 hbox; have GW115 := m0 (bg (n := w.heap.size) hg); have GE115 := m0 (bg (n := w.heap.size) hg); replace HB := sb HB hb; clear hb hbox hg; obtain ⟨_, _, _, _, _, _, _, _⟩ := b4 BK115) | ((with_reducible refine gate_callee (f := 75) rfl ?_); refine gl (some 12) Tryd.func75 #[.slice A0_0 l0_0.length c0_0] ?_; (with_reducible refine (line_CheckSpectrum.calls _ _ l0_0 t116 t117 _ ?side1 ?side2 A2.out).mono ?_); (case side1 => exact cb HR0_0 HB); (case side2 => exact HC0_0.out); rintro e w30 ⟨rfl, hb⟩; refine ⟨_, rfl, ?_⟩; replace BK115 := bb BK115 hb; replace HB := sb HB hb; (try clear hb); obtain ⟨_, _, _, _, _, _, _, _⟩ := b4 BK115) | ((with_reducible refine gate_callee (f := 51) rfl ?_); refine gl (some 18) Tryd.func51 #[.agg #[.slice A0_1 l0_1.length c0_1]] ?_; (with_reducible refine (line_CheckNoise.calls _ _ l0_1 t118 t119 _ ?side1 ?side2 A3.out).mono ?_); (case side1 => exact cb HR0_1 HB); (case side2 => exact HC0_1.out); rintro e w32 ⟨rfl, hb⟩; refine ⟨_, rfl, ?_⟩; replace BK115 := bb BK115 hb; replace HB := sb HB hb; (try clear hb)) | ((with_reducible refine gate_dst (N := 23) rfl ?_); refine Kd.R_lit (Kd.int .i64) _ 31 ?hg (N := 23) ?hd (xs := ([t117, t119] : List Int)) (inner := [.int .i64 t117, .int .i64 t119]) (ok := fun _ => True) (okp := fun _ => True) ?hr ?hp (fun _ hk => hk) trivial (Below.refl _ _) (Nat.le_refl _) (by simp) ?_; (case hd => rfl); (case hg => rfl); (case hr => first | (go_simp; done) | (go_simp; rfl)); (case hp => exact (Reps.one (show Kd.M (Kd.int .i64) _ _ _ t117 [.int .i64 t117] from rfl) (Reps.one (show Kd.M (Kd.int .i64) _ _ _ t119 [.int .i64 t119] from rfl) (Reps.none _ _)))); intro v121 w33 ho34 hb hg_ hnew_; clear hg_ hnew_; (first | rw [← Ny120.out] at ho34 | (simp only [Int.reduceToNat] at ho34; rw [← Ny120.out] at ho34)); have HO122 := m0 (Kd.R_lower ho34 (below_size bz)); replace BK115 := bb BK115 hb; replace HB := sb HB hb; clear hb ho34; obtain ⟨Ao35, co35, eo35⟩ := Kd.R_slice HO122.out; subst eo35) | ((with_reducible refine gate_callee (f := 91) rfl ?_); refine gl (some 24) Tryd.func91 #[.slice Ao35 y120.length co35] ?_; (with_reducible refine (line_first.calls k _ _ y120 t123 _ ?side1 ?side2 A4.out).mono ?_); (case side1 => exact bc (Kd.R_reads' HO122.out).2.2); (case side2 => exact (Kd.R_reads' HO122.out).2.1); rintro e w' ⟨rfl, ⟨nd, rfl⟩⟩; refine ⟨_, rfl, ?_⟩))
  go_ret
  exact ez
end Go.Proofs.YtjnkphmcndaijaaDoor.A
