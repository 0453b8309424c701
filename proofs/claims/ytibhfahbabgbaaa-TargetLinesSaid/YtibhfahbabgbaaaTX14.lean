/- Walks of the program's functions (printed, made shorter), each with what it computes. -/
import Derived.Test.YtibhfahbabgbaaaTX13
namespace Go.Proofs.Ytibhfahbabgbaaa.A
set_option maxHeartbeats 8000000
set_option maxRecDepth 100000
open Go.RowKit Go.Proofs.YtibhfahbabgbaaaW.PrintWords Go.Proofs.YtibhfahbabgbaaaW.PrintLast Go.Proofs.YtibhfahbabgbaaaW.PrintMore
attribute [local go_sem] max2_int min2_int max_two min_two max_three min_three max_four min_four
set_option linter.unusedVariables false
set_option linter.unusedSimpArgs false
section
def L_PointingOf.f (k : Nat) (l0 : List (S126)) : Option (Int × Int × Int) := (L_sightsErr.f k l0).bind fun t262 => (if t262 = 0 then ((L_scores.f k l0).bind fun t263 => ((slices_Max_int_int.f k t263).bind fun t266 => ((slices_Index_int_int.f k t263 t266).bind fun t267 => (some (t267, t266, 0))))) else (none))
theorem L_PointingOf.mono : ∀ a0 k, LeO (L_PointingOf.f k a0) (L_PointingOf.f (k + 1) a0) := by
 intro a0 k; unfold L_PointingOf.f
 repeat' with_reducible first
  | exact slices_Index_int_int.mono ..
  | exact slices_Max_int_int.mono ..
  | exact L_scores.mono ..
  | exact L_sightsErr.mono ..
  | exact LeO.refl ..
  | exact LeO.none ..
  | refine LeO.ite ?_ ?_
  | refine LeO.bind ?_ (fun _ => ?_)
theorem L_PointingOf.calls (k : Nat) (A0 : Option Addr) (c0 : Nat) (l0 : List (S126)) (r1 : Int) (r2 : Int) (r3 : Int) (w : World) (hr0 : Kd.C k126 w A0 l0.length l0) (hc0 : l0.length ≤ c0) (H : L_PointingOf.f k l0 = some (r1, r2, r3)) :
  Calls Try.prog 65 #[.slice A0 l0.length c0] w fun e w' => e = .returned (.tuple #[.int .i64 r1, .int .i64 r2, .int .i64 r3]) ∧ Below w.heap.size w w' := by
 have HR0 := m0 hr0; have HC0 := m0 hc0; clear hr0 hc0; have HB := m0 (Below.refl w.heap.size w); unfold L_PointingOf.f at H; replace H := oa H; obtain ⟨t262, A2, H⟩ := H; (try dsimp only at H)
 by_cases c3 : t262 = 0
 ·rw [if_pos c3] at H; have c3b0 := beq_iff_eq.mpr c3; have c3b1 := bne_eq_false_iff_eq.mpr c3; clear c3; replace H := oa H; obtain ⟨t263, A4, H⟩ := H; (try dsimp only at H); replace H := oa H; obtain ⟨t266, A5, H⟩ := H; (try dsimp only at H); replace H := oa H; obtain ⟨t267, A6, H⟩ := H; (try dsimp only at H); simp only [Option.some.injEq, Prod.mk.injEq] at H; obtain ⟨rfl, rfl, rfl⟩ := H; go_enter Try.func65, Try.ntmps65
  go_wp2_with (first | ((with_reducible refine gc 123 rfl ?_); refine gl (some 9) Try.func123 #[.slice A0 l0.length c0] ?_; (with_reducible refine (L_sightsErr.calls k _ _ l0 t262 _ ?side1 ?side2 A2.out).mono ?_); (case side1 => repeat (first | exact HR0.out | (with_reducible refine Kd.C_alloc ?_ _) | (with_reducible refine Kd.C_drewN ?_ _) | (with_reducible refine Kd.C_drew ?_))); (case side2 => exact HC0.out); rintro e w7 ⟨rfl, hb⟩; refine ⟨_, rfl, ?_⟩; replace HB := sb HB hb; (try clear hb)) | ((with_reducible refine gc 124 rfl ?_); refine gl (some 14) Try.func124 #[.slice A0 l0.length c0] ?_; (with_reducible refine (L_scores.calls k _ _ l0 t263 _ ?side1 ?side2 A4.out).mono ?_); (case side1 => exact cb HR0 HB); (case side2 => exact HC0.out); rintro e w8 ⟨v264, rfl, ho0, hb⟩; refine ⟨_, rfl, ?_⟩; have HO265 := m0 (Kd.R_lower ho0 (below_size bz)); replace HB := sb HB hb; (try clear hb); (try clear ho0); obtain ⟨Ao9, co9, eo9⟩ := Kd.R_slice HO265.out; subst eo9) | ((with_reducible refine gc 125 rfl ?_); refine gl (some 16) Try.func125 #[.slice Ao9 t263.length co9] ?_; (with_reducible refine (slices_Max_int_int.calls k _ _ t263 t266 _ ?side1 ?side2 A5.out).mono ?_); (case side1 => exact bc (Kd.R_reads' HO265.out).2.2); (case side2 => exact (Kd.R_reads' HO265.out).2.1); rintro e w10 ⟨rfl, hb⟩; refine ⟨_, rfl, ?_⟩; replace HO265 := rb HO265 hb; replace HB := sb HB hb; (try clear hb)) | ((with_reducible refine gc 126 rfl ?_); refine gl (some 19) Try.func126 #[.slice Ao9 t263.length co9, .int .i64 t266] ?_; (with_reducible refine (slices_Index_int_int.calls k _ _ t263 t266 t267 _ ?side1 ?side2 A6.out).mono ?_); (case side1 => exact bc (Kd.R_reads' HO265.out).2.2); (case side2 => exact (Kd.R_reads' HO265.out).2.1); rintro e w' ⟨rfl, ⟨nd, rfl⟩⟩; refine ⟨_, rfl, ?_⟩))
  go_ret3
  exact ez
 ·rw [if_neg c3] at H; exact absurd H (by simp)
end
section
def Lw_Readings.f  : Option ((List (S85))) := some (([(⟨100, 103, 2⟩ : S85), (⟨500, 504, 1⟩ : S85), (⟨900, 910, 3⟩ : S85)] : List (S85)))
theorem Lw_Readings.calls  (r : List (S85)) (w : World) (H : Lw_Readings.f  = some r) :
  Calls Try.prog 71 #[] w fun e w' => ∃ v0_ : Value, e = .returned (v0_) ∧ Kd.R k85 85 w' w.heap.size (fun _ => True) v0_ r ∧ Below w.heap.size w w' := by
 have hu85 := Try.underlying85; have HB := m0 (Below.refl w.heap.size w); unfold Lw_Readings.f at H; obtain ⟨y268, hy268⟩ : ∃ y_ : List (S85), y_ = (([(⟨100, 103, 2⟩ : S85), (⟨500, 504, 1⟩ : S85), (⟨900, 910, 3⟩ : S85)] : List (S85))) := ⟨_, rfl⟩; replace H : (some y268) = some r := by first | (rw [hy268]; with_reducible exact H) | (have H2_ := (Option.bind_some _ _).symm.trans H; rw [hy268]; with_reducible exact H2_) | (have H2_ := (Option.bind_some _ _).symm.trans H; with_reducible exact H2_) | with_reducible exact H | (rw [hy268]; exact H) | exact H
 have Ny268 := m0 hy268; clear hy268; obtain rfl := Option.some.inj H; go_enter Try.func71, Try.ntmps71
 go_wp2_with (first | ((with_reducible refine ga 4 rfl ?_); refine Kd.R_lit k85 _ 85 ?hg (N := 4) ?hd (xs := ([(⟨100, 103, 2⟩ : S85), (⟨500, 504, 1⟩ : S85), (⟨900, 910, 3⟩ : S85)] : List (S85))) (inner := [.int .i64 100, .int .i64 103, .int .i64 2, .int .i64 500, .int .i64 504, .int .i64 1, .int .i64 900, .int .i64 910, .int .i64 3]) (ok := fun _ => True) (okp := fun _ => True) ?hr ?hp (fun _ hk => hk) trivial (Below.refl _ _) (Nat.le_refl _) (by simp) ?_; (case hd => rfl); (case hg => rfl); (case hr => first | (go_simp; done) | (go_simp; rfl)); (case hp => exact (Reps.c3 (show Kd.M k85 _ _ _ (⟨100, 103, 2⟩ : S85) [.int .i64 100, .int .i64 103, .int .i64 2] from (k85_mkM _ _ _ (⟨100, 103, 2⟩ : S85) )) (Reps.c3 (show Kd.M k85 _ _ _ (⟨500, 504, 1⟩ : S85) [.int .i64 500, .int .i64 504, .int .i64 1] from (k85_mkM _ _ _ (⟨500, 504, 1⟩ : S85) )) (Reps.c3 (show Kd.M k85 _ _ _ (⟨900, 910, 3⟩ : S85) [.int .i64 900, .int .i64 910, .int .i64 3] from (k85_mkM _ _ _ (⟨900, 910, 3⟩ : S85) )) (Reps.none _ _))))); intro v269 w1 ho2 hb hg_ hnew_; clear hg_ hnew_; (first | rw [← Ny268.out] at ho2 | (simp only [Int.reduceToNat] at ho2; rw [← Ny268.out] at ho2)); have HO270 := m0 (Kd.R_lower ho2 (below_size bz)); replace HB := sb HB hb; clear hb ho2))
 go_ret
 exact ⟨_, by first | rfl | (simp [errW_none, errW_some] <;> rfl) | (simp [*, errW_none, errW_some] <;> rfl), by (with_reducible repeat (first | apply Kd.R_alloc | apply Kd.R_drewN | apply Kd.R_drew)); exact HO270.out, by repeat (first | (with_reducible first | exact HB.out | apply below_alloc | apply pw_below_drewN | apply below_drew1) | exact HB.out)⟩
end
section
def Lw_Steps.f  : Option ((List (S85))) := some (([(⟨0, 1, 0⟩ : S85), (⟨1, 3, 0⟩ : S85), (⟨2, 8, 0⟩ : S85)] : List (S85)))
theorem Lw_Steps.calls  (r : List (S85)) (w : World) (H : Lw_Steps.f  = some r) :
  Calls Try.prog 72 #[] w fun e w' => ∃ v0_ : Value, e = .returned (v0_) ∧ Kd.R k85 85 w' w.heap.size (fun _ => True) v0_ r ∧ Below w.heap.size w w' := by
 have hu85 := Try.underlying85; have HB := m0 (Below.refl w.heap.size w); unfold Lw_Steps.f at H; obtain ⟨y271, hy271⟩ : ∃ y_ : List (S85), y_ = (([(⟨0, 1, 0⟩ : S85), (⟨1, 3, 0⟩ : S85), (⟨2, 8, 0⟩ : S85)] : List (S85))) := ⟨_, rfl⟩; replace H : (some y271) = some r := by first | (rw [hy271]; with_reducible exact H) | (have H2_ := (Option.bind_some _ _).symm.trans H; rw [hy271]; with_reducible exact H2_) | (have H2_ := (Option.bind_some _ _).symm.trans H; with_reducible exact H2_) | with_reducible exact H | (rw [hy271]; exact H) | exact H
 have Ny271 := m0 hy271; clear hy271; obtain rfl := Option.some.inj H; go_enter Try.func72, Try.ntmps72
 go_wp2_with (first | ((with_reducible refine ga 4 rfl ?_); refine Kd.R_lit k85 _ 85 ?hg (N := 4) ?hd (xs := ([(⟨0, 1, 0⟩ : S85), (⟨1, 3, 0⟩ : S85), (⟨2, 8, 0⟩ : S85)] : List (S85))) (inner := [.int .i64 0, .int .i64 1, .int .i64 0, .int .i64 1, .int .i64 3, .int .i64 0, .int .i64 2, .int .i64 8, .int .i64 0]) (ok := fun _ => True) (okp := fun _ => True) ?hr ?hp (fun _ hk => hk) trivial (Below.refl _ _) (Nat.le_refl _) (by simp) ?_; (case hd => rfl); (case hg => rfl); (case hr => first | (go_simp; done) | (go_simp; rfl)); (case hp => exact (Reps.c3 (show Kd.M k85 _ _ _ (⟨0, 1, 0⟩ : S85) [.int .i64 0, .int .i64 1, .int .i64 0] from (k85_mkM _ _ _ (⟨0, 1, 0⟩ : S85) )) (Reps.c3 (show Kd.M k85 _ _ _ (⟨1, 3, 0⟩ : S85) [.int .i64 1, .int .i64 3, .int .i64 0] from (k85_mkM _ _ _ (⟨1, 3, 0⟩ : S85) )) (Reps.c3 (show Kd.M k85 _ _ _ (⟨2, 8, 0⟩ : S85) [.int .i64 2, .int .i64 8, .int .i64 0] from (k85_mkM _ _ _ (⟨2, 8, 0⟩ : S85) )) (Reps.none _ _))))); intro v272 w1 ho2 hb hg_ hnew_; clear hg_ hnew_; (first | rw [← Ny271.out] at ho2 | (simp only [Int.reduceToNat] at ho2; rw [← Ny271.out] at ho2)); have HO273 := m0 (Kd.R_lower ho2 (below_size bz)); replace HB := sb HB hb; clear hb ho2))
 go_ret
 exact ⟨_, by first | rfl | (simp [errW_none, errW_some] <;> rfl) | (simp [*, errW_none, errW_some] <;> rfl), by (with_reducible repeat (first | apply Kd.R_alloc | apply Kd.R_drewN | apply Kd.R_drew)); exact HO273.out, by repeat (first | (with_reducible first | exact HB.out | apply below_alloc | apply pw_below_drewN | apply below_drew1) | exact HB.out)⟩
end
section
def Lw_Sights.f  : Option ((List (S126))) := some (([(⟨(⟨1, 0, 0⟩ : S44), (⟨0, 1, 0⟩ : S44)⟩ : S126), (⟨(⟨0, 1, 0⟩ : S44), (⟨(-1), 0, 0⟩ : S44)⟩ : S126)] : List (S126)))
theorem Lw_Sights.calls  (r : List (S126)) (w : World) (H : Lw_Sights.f  = some r) :
  Calls Try.prog 73 #[] w fun e w' => ∃ v0_ : Value, e = .returned (v0_) ∧ Kd.R k126 126 w' w.heap.size (fun _ => True) v0_ r ∧ Below w.heap.size w w' := by
 have hu44 := Try.underlying44; have hu126 := Try.underlying126; have HB := m0 (Below.refl w.heap.size w); unfold Lw_Sights.f at H; obtain ⟨y274, hy274⟩ : ∃ y_ : List (S126), y_ = (([(⟨(⟨1, 0, 0⟩ : S44), (⟨0, 1, 0⟩ : S44)⟩ : S126), (⟨(⟨0, 1, 0⟩ : S44), (⟨(-1), 0, 0⟩ : S44)⟩ : S126)] : List (S126))) := ⟨_, rfl⟩; replace H : (some y274) = some r := by first | (rw [hy274]; with_reducible exact H) | (have H2_ := (Option.bind_some _ _).symm.trans H; rw [hy274]; with_reducible exact H2_) | (have H2_ := (Option.bind_some _ _).symm.trans H; with_reducible exact H2_) | with_reducible exact H | (rw [hy274]; exact H) | exact H
 have Ny274 := m0 hy274; clear hy274; obtain rfl := Option.some.inj H; go_enter Try.func73, Try.ntmps73
 go_wp2_with (first | ((with_reducible refine ga 7 rfl ?_); refine Kd.R_lit k126 _ 126 ?hg (N := 7) ?hd (xs := ([(⟨(⟨1, 0, 0⟩ : S44), (⟨0, 1, 0⟩ : S44)⟩ : S126), (⟨(⟨0, 1, 0⟩ : S44), (⟨(-1), 0, 0⟩ : S44)⟩ : S126)] : List (S126))) (inner := [.int .i64 1, .int .i64 0, .int .i64 0, .int .i64 0, .int .i64 1, .int .i64 0, .int .i64 0, .int .i64 1, .int .i64 0, .int .i64 (-1), .int .i64 0, .int .i64 0]) (ok := fun _ => True) (okp := fun _ => True) ?hr ?hp (fun _ hk => hk) trivial (Below.refl _ _) (Nat.le_refl _) (by simp) ?_; (case hd => rfl); (case hg => rfl); (case hr => first | (go_simp; done) | (go_simp; rfl)); (case hp => exact (Reps.c6 (show Kd.M k126 _ _ _ (⟨(⟨1, 0, 0⟩ : S44), (⟨0, 1, 0⟩ : S44)⟩ : S126) [.int .i64 1, .int .i64 0, .int .i64 0, .int .i64 0, .int .i64 1, .int .i64 0] from (k126_mkM _ _ _ (⟨(⟨1, 0, 0⟩ : S44), (⟨0, 1, 0⟩ : S44)⟩ : S126) )) (Reps.c6 (show Kd.M k126 _ _ _ (⟨(⟨0, 1, 0⟩ : S44), (⟨(-1), 0, 0⟩ : S44)⟩ : S126) [.int .i64 0, .int .i64 1, .int .i64 0, .int .i64 (-1), .int .i64 0, .int .i64 0] from (k126_mkM _ _ _ (⟨(⟨0, 1, 0⟩ : S44), (⟨(-1), 0, 0⟩ : S44)⟩ : S126) )) (Reps.none _ _)))); intro v275 w1 ho2 hb hg_ hnew_; clear hg_ hnew_; (first | rw [← Ny274.out] at ho2 | (simp only [Int.reduceToNat] at ho2; rw [← Ny274.out] at ho2)); have HO276 := m0 (Kd.R_lower ho2 (below_size bz)); replace HB := sb HB hb; clear hb ho2))
 go_ret
 exact ⟨_, by first | rfl | (simp [errW_none, errW_some] <;> rfl) | (simp [*, errW_none, errW_some] <;> rfl), by (with_reducible repeat (first | apply Kd.R_alloc | apply Kd.R_drewN | apply Kd.R_drew)); exact HO276.out, by repeat (first | (with_reducible first | exact HB.out | apply below_alloc | apply pw_below_drewN | apply below_drew1) | exact HB.out)⟩
end
section
def Lw_Tasks.f  : Option ((List (S42))) := some (([(⟨(⟨#[97]⟩ : ByteArray), 2, 10⟩ : S42), (⟨(⟨#[98]⟩ : ByteArray), 1, 6⟩ : S42)] : List (S42)))
theorem Lw_Tasks.calls  (r : List (S42)) (w : World) (H : Lw_Tasks.f  = some r) :
  Calls Try.prog 74 #[] w fun e w' => ∃ v0_ : Value, e = .returned (v0_) ∧ Kd.R k42 42 w' w.heap.size (fun _ => True) v0_ r ∧ Below w.heap.size w w' := by
 have hu42 := Try.underlying42; have HB := m0 (Below.refl w.heap.size w); unfold Lw_Tasks.f at H; obtain ⟨y277, hy277⟩ : ∃ y_ : List (S42), y_ = (([(⟨(⟨#[97]⟩ : ByteArray), 2, 10⟩ : S42), (⟨(⟨#[98]⟩ : ByteArray), 1, 6⟩ : S42)] : List (S42))) := ⟨_, rfl⟩; replace H : (some y277) = some r := by first | (rw [hy277]; with_reducible exact H) | (have H2_ := (Option.bind_some _ _).symm.trans H; rw [hy277]; with_reducible exact H2_) | (have H2_ := (Option.bind_some _ _).symm.trans H; with_reducible exact H2_) | with_reducible exact H | (rw [hy277]; exact H) | exact H
 have Ny277 := m0 hy277; clear hy277; obtain rfl := Option.some.inj H; go_enter Try.func74, Try.ntmps74
 go_wp2_with (first | ((with_reducible refine ga 3 rfl ?_); refine Kd.R_lit k42 _ 42 ?hg (N := 3) ?hd (xs := ([(⟨(⟨#[97]⟩ : ByteArray), 2, 10⟩ : S42), (⟨(⟨#[98]⟩ : ByteArray), 1, 6⟩ : S42)] : List (S42))) (inner := [.string (⟨#[97]⟩ : ByteArray), .int .i64 2, .int .i64 10, .string (⟨#[98]⟩ : ByteArray), .int .i64 1, .int .i64 6]) (ok := fun _ => True) (okp := fun _ => True) ?hr ?hp (fun _ hk => hk) trivial (Below.refl _ _) (Nat.le_refl _) (by simp) ?_; (case hd => rfl); (case hg => rfl); (case hr => first | (go_simp; done) | (go_simp; rfl)); (case hp => exact (Reps.c3 (show Kd.M k42 _ _ _ (⟨(⟨#[97]⟩ : ByteArray), 2, 10⟩ : S42) [.string (⟨#[97]⟩ : ByteArray), .int .i64 2, .int .i64 10] from (k42_mkM _ _ _ (⟨(⟨#[97]⟩ : ByteArray), 2, 10⟩ : S42) )) (Reps.c3 (show Kd.M k42 _ _ _ (⟨(⟨#[98]⟩ : ByteArray), 1, 6⟩ : S42) [.string (⟨#[98]⟩ : ByteArray), .int .i64 1, .int .i64 6] from (k42_mkM _ _ _ (⟨(⟨#[98]⟩ : ByteArray), 1, 6⟩ : S42) )) (Reps.none _ _)))); intro v278 w1 ho2 hb hg_ hnew_; clear hg_ hnew_; (first | rw [← Ny277.out] at ho2 | (simp only [Int.reduceToNat] at ho2; rw [← Ny277.out] at ho2)); have HO279 := m0 (Kd.R_lower ho2 (below_size bz)); replace HB := sb HB hb; clear hb ho2))
 go_ret
 exact ⟨_, by first | rfl | (simp [errW_none, errW_some] <;> rfl) | (simp [*, errW_none, errW_some] <;> rfl), by (with_reducible repeat (first | apply Kd.R_alloc | apply Kd.R_drewN | apply Kd.R_drew)); exact HO279.out, by repeat (first | (with_reducible first | exact HB.out | apply below_alloc | apply pw_below_drewN | apply below_drew1) | exact HB.out)⟩
end
section
attribute [local go_sem high] eqA56 eqA58
def Lw_awake.f (k : Nat)  : Option (Bool) := (Lw_Readings.f).bind fun t280 => ((L_VotedIn.f k t280).bind fun bt283 => ((Lw_Steps.f).bind fun t288 => ((L_LineOf.f k t288).bind fun bt291 => ((Lw_Sights.f).bind fun t296 => ((L_PointingOf.f k t296).bind fun bt299 => ((Lw_Tasks.f).bind fun t302 => ((L_DaysOf.f k t302 7).bind fun bt305 => ((Lw_Tasks.f).bind fun t309 => ((L_LackOf.f k t309 7).bind fun bt312 => (if bt283.2.2.2 = 0 then (if (bt283.1 == 3 && (bt283.2.1 == 5)) = true then (if bt283.2.2.1 = 2 then (if bt291.2.2.2 = 0 then (if (bt291.1 == 7 && (bt291.2.1 == 1 && (bt291.2.2.1 == 2))) = true then (if bt299.2.2 = 0 then (if bt299.1 = 7 then (if bt299.2.1 = 2 then (if bt305.2 = 0 then ((Bs_Ints.f k bt305.1 (([3, 1] : List Int))).bind fun t318 => (if t318 = true then (if bt312.2.2 = 0 then (if bt312.1 = 2 then (some (bt312.2.1 == 2)) else (none)) else (none)) else (none))) else (none)) else (none)) else (none)) else (none)) else (none)) else (none)) else (none)) else (none)) else (none)))))))))))
theorem Lw_awake.mono : ∀ k, LeO (Lw_awake.f k ) (Lw_awake.f (k + 1) ) := by
 intro  k; unfold Lw_awake.f
 repeat' with_reducible first
  | exact Bs_Ints.mono ..
  | exact L_DaysOf.mono ..
  | exact L_LackOf.mono ..
  | exact L_LineOf.mono ..
  | exact L_PointingOf.mono ..
  | exact L_VotedIn.mono ..
  | exact LeO.refl ..
  | exact LeO.none ..
  | refine LeO.ite ?_ ?_
  | refine LeO.bind ?_ (fun _ => ?_)
theorem Lw_awake.calls (k : Nat)  (r : Bool) (w : World) (H : Lw_awake.f k  = some r) :
  Calls Try.prog 14 #[] w fun e w' => e = .returned (.bool r) ∧ Below w.heap.size w w' := by
 have hu58 := Try.underlying58; have hu56 := Try.underlying56; have HB := m0 (Below.refl w.heap.size w); unfold Lw_awake.f at H; replace H := oa H; obtain ⟨t280, A1, H⟩ := H; (try dsimp only at H); replace H := oa H; obtain ⟨⟨t283, t284, t285, t286⟩, A2, H⟩ := H; (try dsimp only at H); replace H := oa H; obtain ⟨t288, A3, H⟩ := H; (try dsimp only at H); replace H := oa H; obtain ⟨⟨t291, t292, t293, t294⟩, A4, H⟩ := H; (try dsimp only at H); replace H := oa H; obtain ⟨t296, A5, H⟩ := H; (try dsimp only at H); replace H := oa H; obtain ⟨⟨t299, t300, t301⟩, A6, H⟩ := H; (try dsimp only at H); replace H := oa H; obtain ⟨t302, A7, H⟩ := H; (try dsimp only at H); replace H := oa H; obtain ⟨⟨t305, t306⟩, A8, H⟩ := H; (try dsimp only at H); replace H := oa H; obtain ⟨t309, A9, H⟩ := H; (try dsimp only at H); replace H := oa H; obtain ⟨⟨t312, t313, t314⟩, A10, H⟩ := H; (try dsimp only at H)
 by_cases c11 : t286 = 0
 ·rw [if_pos c11] at H; have c11b0 := beq_iff_eq.mpr c11; have c11b1 := bne_eq_false_iff_eq.mpr c11; clear c11
  by_cases c12 : (t283 == 3 && (t284 == 5)) = true
  ·rw [if_pos c12] at H; have c12b0 : (t283 == 3 && (t284 == 5)) = true := c12; (try (have c12b1 : decide (t283 = 3 && (t284 == 5)) = true := by simpa using c12)); (try (have c12b2 : (t283 == 3 && (t284 == 5)) = true := by simpa using c12)); clear c12
   by_cases c13 : t285 = 2
   ·rw [if_pos c13] at H; have c13b0 := beq_iff_eq.mpr c13; have c13b1 := bne_eq_false_iff_eq.mpr c13; clear c13
    by_cases c14 : t294 = 0
    ·rw [if_pos c14] at H; have c14b0 := beq_iff_eq.mpr c14; have c14b1 := bne_eq_false_iff_eq.mpr c14; clear c14
     by_cases c15 : (t291 == 7 && (t292 == 1 && (t293 == 2))) = true
     ·rw [if_pos c15] at H; have c15b0 : (t291 == 7 && (t292 == 1 && (t293 == 2))) = true := c15; (try (have c15b1 : decide (t291 = 7 && (t292 == 1 && (t293 == 2))) = true := by simpa using c15)); (try (have c15b2 : (t291 == 7 && (t292 == 1 && (t293 == 2))) = true := by simpa using c15)); clear c15
      by_cases c16 : t301 = 0
      ·rw [if_pos c16] at H; have c16b0 := beq_iff_eq.mpr c16; have c16b1 := bne_eq_false_iff_eq.mpr c16; clear c16
       by_cases c17 : t299 = 7
       ·rw [if_pos c17] at H; have c17b0 := beq_iff_eq.mpr c17; have c17b1 := bne_eq_false_iff_eq.mpr c17; clear c17
        by_cases c18 : t300 = 2
        ·rw [if_pos c18] at H; have c18b0 := beq_iff_eq.mpr c18; have c18b1 := bne_eq_false_iff_eq.mpr c18; clear c18
         by_cases c19 : t306 = 0
         ·rw [if_pos c19] at H; have c19b0 := beq_iff_eq.mpr c19; have c19b1 := bne_eq_false_iff_eq.mpr c19; clear c19; obtain ⟨y315, hy315⟩ : ∃ y_ : List Int, y_ = (([3, 1] : List Int)) := ⟨_, rfl⟩; replace H : ((Bs_Ints.f k t305 y315).bind fun t318 => (if t318 = true then (if t314 = 0 then (if t312 = 2 then (some (t313 == 2)) else (none)) else (none)) else (none))) = some r := by first | (rw [hy315]; with_reducible exact H) | (have H2_ := (Option.bind_some _ _).symm.trans H; rw [hy315]; with_reducible exact H2_) | (have H2_ := (Option.bind_some _ _).symm.trans H; with_reducible exact H2_) | with_reducible exact H | (rw [hy315]; exact H) | exact H
          have Ny315 := m0 hy315; clear hy315; replace H := oa H; obtain ⟨t318, A20, H⟩ := H; (try dsimp only at H)
          by_cases c21 : t318 = true
          ·subst c21; rw [if_pos rfl] at H
           by_cases c22 : t314 = 0
           ·rw [if_pos c22] at H; have c22b0 := beq_iff_eq.mpr c22; have c22b1 := bne_eq_false_iff_eq.mpr c22; clear c22
            by_cases c23 : t312 = 2
            ·rw [if_pos c23] at H; have c23b0 := beq_iff_eq.mpr c23; have c23b1 := bne_eq_false_iff_eq.mpr c23; clear c23; obtain rfl := Option.some.inj H; go_enter Try.func14, Try.ntmps14
             go_wp2_with (first | ((with_reducible refine gc 71 rfl ?_); refine gl (some 15) Try.func71 #[] ?_; (with_reducible refine (Lw_Readings.calls  t280 _ A1.out).mono ?_); rintro e w24 ⟨v281, rfl, ho0, hb⟩; refine ⟨_, rfl, ?_⟩; have HO282 := m0 (Kd.R_lower ho0 (below_size bz)); replace HB := sb HB hb; (try clear hb); (try clear ho0); obtain ⟨Ao25, co25, eo25⟩ := Kd.R_slice HO282.out; subst eo25) | ((with_reducible refine gc 56 rfl ?_); refine gl (some 16) Try.func56 #[.slice Ao25 t280.length co25] ?_; (with_reducible refine (L_VotedIn.calls k _ _ t280 t283 t284 t285 t286 _ ?side1 ?side2 A2.out).mono ?_); (case side1 => exact bc (Kd.R_reads' HO282.out).2.2); (case side2 => exact (Kd.R_reads' HO282.out).2.1); rintro e w26 ⟨rfl, hb⟩; refine ⟨_, rfl, ?_⟩; replace HO282 := rb HO282 hb; replace HB := sb HB hb; (try clear hb)) | ((with_reducible refine ga 1 rfl ?_); (try (refine gate_guard (by rfl) ?_; dsimp only)); refine be 1 58 #[.int .i64 0, .int .i64 0] ?_; intro gb287 hg w27 hbox hb; replace HO282 := rb HO282 hb; have BK287 := m0 hbox; have GE287 := gw w hg; replace HB := sb HB hb; clear hb hbox hg; obtain ⟨_, _, _, _⟩ := b2 BK287) | ((with_reducible refine gc 72 rfl ?_); refine gl (some 21) Try.func72 #[] ?_; (with_reducible refine (Lw_Steps.calls  t288 _ A3.out).mono ?_); rintro e w29 ⟨v289, rfl, ho0, hb⟩; refine ⟨_, rfl, ?_⟩; have HO290 := m0 (Kd.R_lower (Kd.R_new' ho0 (Kd.R_lt (by (with_reducible repeat (first | apply Kd.R_alloc | apply Kd.R_drewN | apply Kd.R_drew)); exact (Kd.R_mono (rf (rf (Kd.R_types HO282.out BK287.out (by decide)) (·.2)) (·.2)) (fun _ h_ => h_.1))))) (below_size bz)); replace HO282 := m0 (Kd.R_elder' (by (with_reducible repeat (first | apply Kd.R_alloc | apply Kd.R_drewN | apply Kd.R_drew)); exact (Kd.R_mono (rf (rf (Kd.R_types HO282.out BK287.out (by decide)) (·.2)) (·.2)) (fun _ h_ => h_.1))) (Kd.R_base ho0) hb); replace BK287 := m0 (blk_below (g := gb287) (o := .cells #[.int .i64 t283, .int .i64 t284] 58 (0, 0)) (bq BK287.out) hb); replace HB := sb HB hb; (try clear hb); (try clear ho0); obtain ⟨Ao30, co30, eo30⟩ := Kd.R_slice HO290.out; subst eo30) | ((with_reducible refine gc 37 rfl ?_); refine gl (some 22) Try.func37 #[.slice Ao30 t288.length co30] ?_; (with_reducible refine (L_LineOf.calls k _ _ t288 t291 t292 t293 t294 _ ?side1 ?side2 A4.out).mono ?_); (case side1 => exact bc (Kd.R_reads' HO290.out).2.2); (case side2 => exact (Kd.R_reads' HO290.out).2.1); rintro e w31 ⟨rfl, hb⟩; refine ⟨_, rfl, ?_⟩; replace HO282 := rb HO282 hb; replace HO290 := rb HO290 hb; replace BK287 := bb BK287 hb; replace HB := sb HB hb; (try clear hb)) | ((with_reducible refine ga 4 rfl ?_); (try (refine gate_guard (by rfl) ?_; dsimp only)); refine be 4 56 #[.int .i64 0, .int .i64 0, .int .i64 0] ?_; intro gb295 hg w32 hbox hb; replace HO282 := rb HO282 hb; replace HO290 := rb HO290 hb; have BK295 := m0 hbox; have GE295 := gw w hg; replace HB := sb HB hb; have NB287_295 := nl BK287 hg; have NB295_287 := ng (nl BK287 hg); replace BK287 := bb BK287 hb; clear hb hbox hg; have hnb33 := NB295_287.out; have hnc33 := NB287_295.out; obtain ⟨_, _, _, _, _, _⟩ := b3 BK295) | ((with_reducible refine gc 73 rfl ?_); refine gl (some 26) Try.func73 #[] ?_; (with_reducible refine (Lw_Sights.calls  t296 _ A5.out).mono ?_); rintro e w35 ⟨v297, rfl, ho0, hb⟩; refine ⟨_, rfl, ?_⟩; replace HO282 := m0 (Kd.R_below (by (with_reducible repeat (first | apply Kd.R_alloc | apply Kd.R_drewN | apply Kd.R_drew)); exact (Kd.R_mono (rf (rf (rf (Kd.R_types HO282.out BK295.out (by decide)) (·.2)) (·.2)) (·.2)) (fun _ h_ => h_.1))) hb); replace HO290 := m0 (Kd.R_below (by (with_reducible repeat (first | apply Kd.R_alloc | apply Kd.R_drewN | apply Kd.R_drew)); exact (Kd.R_mono (rf (rf (rf (Kd.R_types HO290.out BK295.out (by decide)) (·.2)) (·.2)) (·.2)) (fun _ h_ => h_.1))) hb); have HO298 := m0 (Kd.R_lower ho0 (below_size bz)); replace BK287 := m0 (blk_below (g := gb287) (o := .cells #[.int .i64 t283, .int .i64 t284] 58 (0, 0)) (bq BK287.out) hb); replace BK295 := m0 (blk_below (g := gb295) (o := .cells #[.int .i64 t291, .int .i64 t292, .int .i64 t293] 56 (0, 0)) (bq BK295.out) hb); replace HB := sb HB hb; (try clear hb); (try clear ho0); obtain ⟨Ao36, co36, eo36⟩ := Kd.R_slice HO298.out; subst eo36) | ((with_reducible refine gc 65 rfl ?_); refine gl (some 27) Try.func65 #[.slice Ao36 t296.length co36] ?_; (with_reducible refine (L_PointingOf.calls k _ _ t296 t299 t300 t301 _ ?side1 ?side2 A6.out).mono ?_); (case side1 => exact bc (Kd.R_reads' HO298.out).2.2); (case side2 => exact (Kd.R_reads' HO298.out).2.1); rintro e w37 ⟨rfl, hb⟩; refine ⟨_, rfl, ?_⟩; replace HO282 := rb HO282 hb; replace HO290 := rb HO290 hb; replace HO298 := rb HO298 hb; replace BK287 := bb BK287 hb; replace BK295 := bb BK295 hb; replace HB := sb HB hb; (try clear hb)) | ((with_reducible refine gc 74 rfl ?_); refine gl (some 32) Try.func74 #[] ?_; (with_reducible refine (Lw_Tasks.calls  t302 _ A7.out).mono ?_); rintro e w38 ⟨v303, rfl, ho0, hb⟩; refine ⟨_, rfl, ?_⟩; replace HO282 := rb HO282 hb; replace HO290 := rb HO290 hb; replace HO298 := rb HO298 hb; have HO304 := m0 (Kd.R_lower ho0 (below_size bz)); replace BK287 := bb BK287 hb; replace BK295 := bb BK295 hb; replace HB := sb HB hb; (try clear hb); (try clear ho0); obtain ⟨Ao39, co39, eo39⟩ := Kd.R_slice HO304.out; subst eo39) | ((with_reducible refine gc 17 rfl ?_); refine gl (some 33) Try.func17 #[.slice Ao39 t302.length co39, .int .i64 7] ?_; (with_reducible refine (L_DaysOf.calls k _ _ t302 7 t305 t306 _ ?side1 ?side2 A8.out).mono ?_); (case side1 => exact bc (Kd.R_reads' HO304.out).2.2); (case side2 => exact (Kd.R_reads' HO304.out).2.1); rintro e w40 ⟨v307, rfl, ho0, hb⟩; refine ⟨_, rfl, ?_⟩; replace HO282 := rb HO282 hb; replace HO290 := rb HO290 hb; replace HO298 := rb HO298 hb; replace HO304 := rb HO304 hb; have HO308 := m0 (Kd.R_lower ho0 (below_size bz)); replace BK287 := bb BK287 hb; replace BK295 := bb BK295 hb; replace HB := sb HB hb; (try clear hb); (try clear ho0)) | ((with_reducible refine gc 74 rfl ?_); refine gl (some 37) Try.func74 #[] ?_; (with_reducible refine (Lw_Tasks.calls  t309 _ A9.out).mono ?_); rintro e w41 ⟨v310, rfl, ho0, hb⟩; refine ⟨_, rfl, ?_⟩; replace HO282 := rb HO282 hb; replace HO290 := rb HO290 hb; replace HO298 := rb HO298 hb; replace HO308 := rb HO308 hb; have HO311 := m0 (Kd.R_lower (Kd.R_new' ho0 (Kd.R_lt (br HO304.out))) (below_size bz)); replace HO304 := m0 (Kd.R_elder' (br HO304.out) (Kd.R_base ho0) hb); replace BK287 := bb BK287 hb; replace BK295 := bb BK295 hb; replace HB := sb HB hb; (try clear hb); (try clear ho0); obtain ⟨Ao42, co42, eo42⟩ := Kd.R_slice HO311.out; subst eo42) | ((with_reducible refine gc 18 rfl ?_); refine gl (some 38) Try.func18 #[.slice Ao42 t309.length co42, .int .i64 7] ?_; (with_reducible refine (L_LackOf.calls k _ _ t309 7 t312 t313 t314 _ ?side1 ?side2 A10.out).mono ?_); (case side1 => exact bc (Kd.R_reads' HO311.out).2.2); (case side2 => exact (Kd.R_reads' HO311.out).2.1); rintro e w43 ⟨rfl, hb⟩; refine ⟨_, rfl, ?_⟩; replace HO282 := rb HO282 hb; replace HO290 := rb HO290 hb; replace HO298 := rb HO298 hb; replace HO304 := rb HO304 hb; replace HO308 := rb HO308 hb; replace HO311 := rb HO311 hb; replace BK287 := bb BK287 hb; replace BK295 := bb BK295 hb; replace HB := sb HB hb; (try clear hb); obtain ⟨_, _, _, _⟩ := b2 BK287; obtain ⟨_, _, _, _, _, _⟩ := b3 BK295) | ((with_reducible refine ga 80 rfl ?_); (try (refine gate_guard (by rfl) ?_; dsimp only)); refine Kd.R_lit (Kd.int .i64) _ 3 ?hg (N := 80) ?hd (xs := ([3, 1] : List Int)) (inner := [.int .i64 3, .int .i64 1]) (ok := fun _ => True) (okp := fun _ => True) ?hr ?hp (fun _ hk => hk) trivial (Below.refl _ _) (Nat.le_refl _) (by simp) ?_; (case hd => rfl); (case hg => rfl); (case hr => first | (go_simp; done) | (go_simp; rfl)); (case hp => exact (Reps.one (ki 3) (Reps.one (ki 1) (Reps.none _ _)))); intro v316 w46 ho47 hb hg_ hnew_; clear hg_ hnew_; (first | rw [← Ny315.out] at ho47 | (simp only [Int.reduceToNat] at ho47; rw [← Ny315.out] at ho47)); replace HO282 := rb HO282 hb; replace HO290 := rb HO290 hb; replace HO298 := rb HO298 hb; replace HO304 := rb HO304 hb; replace HO311 := rb HO311 hb; have HO317 := m0 (Kd.R_lower (Kd.R_new' ho47 (Kd.R_lt (br HO308.out))) (below_size bz)); replace HO308 := m0 (Kd.R_elder' (br HO308.out) (Kd.R_base ho47) hb); replace BK287 := bb BK287 hb; replace BK295 := bb BK295 hb; replace HB := sb HB hb; clear hb ho47; obtain ⟨Ao48, co48, eo48⟩ := Kd.R_slice HO308.out; subst eo48; obtain ⟨Ao49, co49, eo49⟩ := Kd.R_slice HO317.out; subst eo49) | (go_at_call 21; (with_reducible refine (Bs_Ints.calls k _ _ t305 _ _ y315 true _ ?side1 ?side2 ?side3 ?side4 A20.out).mono ?_); (case side1 => exact bc (Kd.R_reads' HO308.out).2.2); (case side2 => exact (Kd.R_reads' HO308.out).2.1); (case side3 => exact bc (Kd.R_reads' HO317.out).2.2); (case side4 => exact (Kd.R_reads' HO317.out).2.1); rintro e w' ⟨rfl, ⟨nd, rfl⟩⟩))
             go_ret
             exact ez
            ·rw [if_neg c23] at H; exact absurd H (by simp)
           ·rw [if_neg c22] at H; exact absurd H (by simp)
          ·replace c21 := Bool.eq_false_iff.mpr c21; subst c21; rw [if_neg (show ¬ (false = true) by decide)] at H; exact absurd H (by simp)
         ·rw [if_neg c19] at H; exact absurd H (by simp)
        ·rw [if_neg c18] at H; exact absurd H (by simp)
       ·rw [if_neg c17] at H; exact absurd H (by simp)
      ·rw [if_neg c16] at H; exact absurd H (by simp)
     ·rw [if_neg c15] at H; exact absurd H (by simp)
    ·rw [if_neg c14] at H; exact absurd H (by simp)
   ·rw [if_neg c13] at H; exact absurd H (by simp)
  ·rw [if_neg c12] at H; exact absurd H (by simp)
 ·rw [if_neg c11] at H; exact absurd H (by simp)
end
section
def Bs_Within.f (a0 : Int) (a1 : Int) (a2 : Int) : Option (Bool) := if a1 ≤ a0 then (some (decide (a0 ≤ a2))) else (some false)
theorem Bs_Within.calls (a0 : Int) (a1 : Int) (a2 : Int) (r : Bool) (w : World) (H : Bs_Within.f a0 a1 a2 = some r) :
  Calls Try.prog 24 #[.int .i64 a0, .int .i64 a1, .int .i64 a2] w fun e w' => e = .returned (.bool r) ∧ Drawn0 w w' := by
 unfold Bs_Within.f at H
 by_cases c4 : a1 ≤ a0
 ·rw [if_pos c4] at H; have c4b0 := decide_eq_true c4; clear c4; obtain rfl := Option.some.inj H; go_enter Try.func24, Try.ntmps24
  go_wp2
  go_ret
  exact ⟨rz, by repeat (first | exact Drawn0.refl _ | apply Drawn0.step)⟩
 ·rw [if_neg c4] at H; have c4b0 := decide_eq_false c4; clear c4; obtain rfl := Option.some.inj H; go_enter Try.func24, Try.ntmps24
  go_wp2
  go_ret
  exact ⟨rz, by repeat (first | exact Drawn0.refl _ | apply Drawn0.step)⟩
end
section
def Bs_Size.f (a0 : Int) : Option (Int) := some (mx a0 (wrap64 (-a0)))
theorem Bs_Size.calls (a0 : Int) (r : Int) (w : World) (H : Bs_Size.f a0 = some r) :
  Calls Try.prog 110 #[.int .i64 a0] w fun e w' => e = .returned (.int .i64 r) ∧ Below w.heap.size w w' := by
 have HB := m0 (Below.refl w.heap.size w); unfold Bs_Size.f at H; obtain ⟨ji2, hji2⟩ : ∃ j_ : Int, (mx a0 (wrap64 (-a0))) = j_ := ⟨_, rfl⟩; replace H : (some ji2) = some r := by first | (rw [hji2] at H; exact H) | (simp only [hji2] at H ⊢; exact H)
 have hji2_ : (if a0 < (wrap64 (-a0)) then (wrap64 (-a0)) else a0) = ji2 := hji2; obtain rfl := Option.some.inj H; go_enter Try.func110, Try.ntmps110
 go_wp2
 go_ret
 exact ⟨by first | rfl | (simp [errW_none, errW_some] <;> rfl) | (simp only [← hji2]; first | rfl | (simp [errW_none, errW_some] <;> rfl)) | (simp [*, errW_none, errW_some] <;> rfl), by repeat (first | (with_reducible first | exact HB.out | apply below_alloc | apply pw_below_drewN | apply below_drew1) | exact HB.out)⟩
end
section
def Bs_Gcd.l0 : Nat → Int → Int → Option (Int)
 | 0, _, _ => none
 | k + 1, x0, x1 => if x1 = 0 then ((Bs_Size.f x0).bind fun t319 => (some t319)) else (Bs_Gcd.l0 k x1 (Int.tmod x0 x1))
def Bs_Gcd.f (k : Nat) (a0 : Int) (a1 : Int) : Option (Int) := Bs_Gcd.l0 k a0 a1
theorem Bs_Gcd.mono_l : ∀ k, (∀ y0 y1, LeO (Bs_Gcd.l0 k y0 y1) (Bs_Gcd.l0 (k + 1) y0 y1))
 | 0 => fun _ _ r h => by simp [Bs_Gcd.l0] at h
 | k + 1 => by
  have ih0 := Bs_Gcd.mono_l k
  ·intro y0 y1; unfold Bs_Gcd.l0
   repeat' with_reducible first
    | exact ih0 ..
    | exact LeO.refl ..
    | exact LeO.none ..
    | refine LeO.ite ?_ ?_
    | refine LeO.bind ?_ (fun _ => ?_)
theorem Bs_Gcd.mono : ∀ a0 a1 k, LeO (Bs_Gcd.f k a0 a1) (Bs_Gcd.f (k + 1) a0 a1) := by
 intro a0 a1 k; have ih0 := Bs_Gcd.mono_l k; unfold Bs_Gcd.f
 repeat' with_reducible first
  | exact ih0 ..
  | exact LeO.refl ..
  | exact LeO.none ..
  | refine LeO.ite ?_ ?_
  | refine LeO.bind ?_ (fun _ => ?_)
theorem Bs_Gcd.calls (k : Nat) (a0 : Int) (a1 : Int) (r : Int) (w : World) (H : Bs_Gcd.f k a0 a1 = some r) :
  Calls Try.prog 93 #[.int .i64 a0, .int .i64 a1] w fun e w' => e = .returned (.int .i64 r) ∧ Below w.heap.size w w' := by
 have HB := m0 (Below.refl w.heap.size w); unfold Bs_Gcd.f at H; have H' := m0 H; clear H; go_enter Try.func93, Try.ntmps93
 go_wp2
 repeat (go_quiet (fail); try go_wp2)
 go_loopg [0, 1] k (fun kq v0 v1 w' => ∃ (x0_1 : Int) (x1_1 : Int), v0 = .int .i64 x0_1 ∧ v1 = .int .i64 x1_1 ∧ Aside0 (Bs_Gcd.l0 kq x0_1 x1_1 = some r) ∧ Aside0 (kq ≤ k) ∧ Aside0 (Below w.heap.size w w'))
 case atStart => exact ⟨(a0), (a1), rz, rz, H', ⟨Nat.le_refl _⟩, ⟨bz⟩⟩
 case round =>
  clear H'; obtain ⟨x0_1, x1_1, rfl, rfl, HA, HK1, HB⟩ := hrel
  cases gk with
  | zero => exact absurd HA.out (by simp [Bs_Gcd.l0])
  | succ k1 =>
   have H := HA.out; clear HA; simp only [Bs_Gcd.l0] at H
   by_cases c3 : x1_1 = 0
   ·rw [if_pos c3] at H; have c3b0 := beq_iff_eq.mpr c3; have c3b1 := bne_eq_false_iff_eq.mpr c3; clear c3; replace H := oa H; obtain ⟨t319, A4, H⟩ := H; (try dsimp only at H); obtain rfl := Option.some.inj H
    go_wp2_with (first | (go_at_call 110; (with_reducible refine (Bs_Size.calls x0_1 t319 _ A4.out).mono ?_); rintro e w5 ⟨rfl, hb⟩; replace HB := sb HB hb; (try clear hb)))
    repeat (go_quiet (first | (go_at_call 110; (with_reducible refine (Bs_Size.calls x0_1 t319 _ A4.out).mono ?_); rintro e w5 ⟨rfl, hb⟩; replace HB := sb HB hb; (try clear hb))); try go_wp2_with (first | (go_at_call 110; (with_reducible refine (Bs_Size.calls x0_1 t319 _ A4.out).mono ?_); rintro e w5 ⟨rfl, hb⟩; replace HB := sb HB hb; (try clear hb))))
    go_ret
    exact ez
   ·rw [if_neg c3] at H; have c3b0 := beq_eq_false_iff_ne.mpr c3; have c3b1 := bne_iff_ne.mpr c3; have H' := m0 H; clear H
    go_wp2
    repeat (go_quiet (fail); try go_wp2)
    go_roundg k1
    case measure => have := HK1.out; omega
    case rel => exact ⟨(x1_1), (Int.tmod x0_1 x1_1), rz, rz, H', ⟨by have := HK1.out; omega⟩, ⟨bz⟩⟩
end
section
def Rf_LineErr.j0 : Nat → Bool → Int → Int → Int → Option (Int)
 | 0, _, _, _, _ => none
 | k + 1, x18, x321000, x321001, x321002 => if x18 = true then (some 2) else ((Bs_Gcd.f k x321000 x321001).bind fun t324 => ((Bs_Gcd.f k x321002 t324).bind fun t325 => (if t325 = 1 then (some 0) else (some 3))))
def Rf_LineErr.f (k : Nat) (a0_0 : Int) (a0_1 : Int) (a0_2 : Int) : Option (Int) := (Bs_Within.f a0_2 1 1000000000).bind fun t321 => (if t321 = true then ((Bs_Within.f a0_0 (-1000000000) 1000000000).bind fun t322 => (if t322 = true then ((Bs_Within.f a0_1 (-1000000000000) 1000000000000).bind fun t323 => (Rf_LineErr.j0 k (!t323) a0_0 a0_1 a0_2)) else (Rf_LineErr.j0 k true a0_0 a0_1 a0_2))) else (Rf_LineErr.j0 k true a0_0 a0_1 a0_2))
theorem Rf_LineErr.mono_l : ∀ k, (∀ y0 y1 y2 y3, LeO (Rf_LineErr.j0 k y0 y1 y2 y3) (Rf_LineErr.j0 (k + 1) y0 y1 y2 y3))
 | 0 => fun _ _ _ _ r h => by simp [Rf_LineErr.j0] at h
 | k + 1 => by
  have ih0 := Rf_LineErr.mono_l k
  ·intro y0 y1 y2 y3; unfold Rf_LineErr.j0
   repeat' with_reducible first
    | exact ih0 ..
    | exact Bs_Gcd.mono ..
    | exact LeO.refl ..
    | exact LeO.none ..
    | refine LeO.ite ?_ ?_
    | refine LeO.bind ?_ (fun _ => ?_)
theorem Rf_LineErr.mono : ∀ a0 a1 a2 k, LeO (Rf_LineErr.f k a0 a1 a2) (Rf_LineErr.f (k + 1) a0 a1 a2) := by
 intro a0 a1 a2 k; have ih0 := Rf_LineErr.mono_l k; unfold Rf_LineErr.f
 repeat' with_reducible first
  | exact ih0 ..
  | exact Bs_Gcd.mono ..
  | exact LeO.refl ..
  | exact LeO.none ..
  | refine LeO.ite ?_ ?_
  | refine LeO.bind ?_ (fun _ => ?_)
def Rf_LineErr.T3 : Bool × List (List Nat × List Nat) := (true, [([], []), ([0], [0]), ([], []), ([2], [2]), ([], []), ([4], [4]), ([3, 5], [3, 5]), ([1, 6, 6], [1, 6]), ([7], [7])])
def Rf_LineErr.B3 : List Nat := [0, 1, 0, 4, 0, 16, 60, 127, 255]
theorem Rf_LineErr.tab3 : rtab .any (opsOf Try.f34 3) = Rf_LineErr.T3 := by kernel_rfl
theorem Rf_LineErr.bits3 : waitsOk Rf_LineErr.T3.2 Rf_LineErr.B3 = true := by kernel_rfl
theorem Rf_LineErr.calls (k : Nat) (a0_0 : Int) (a0_1 : Int) (a0_2 : Int) (r : Int) (w : World) (H : Rf_LineErr.f k a0_0 a0_1 a0_2 = some r) :
  Calls Try.prog 34 #[.agg #[.int .i64 a0_0, .int .i64 a0_1, .int .i64 a0_2]] w fun e w' => e = .returned (.int .i64 r) ∧ Below w.heap.size w w' := by
 have hu56 := Try.underlying56; have HB := m0 (Below.refl w.heap.size w); unfold Rf_LineErr.f at H; have HC2 := m0 H; clear H; go_enter Try.func34, Try.ntmps34
 go_upto_region 1 with (first | ((with_reducible refine ga 1 rfl ?_); refine be 1 56 #[.int .i64 a0_0, .int .i64 a0_1, .int .i64 a0_2] ?_; intro gb320 hg w3 hbox hb; have BK320 := m0 hbox; have GE320 := gw w hg; replace HB := sb HB hb; clear hb hbox hg))
 (try simp only [Act.put, List.setIfInBounds_toArray, List.set_cons_zero, List.set_cons_succ])
 go_cut [18] (fun v18 wc => ∃ (kq : Nat) (x18_1 : Bool), v18 = .bool x18_1 ∧ Aside0 (Rf_LineErr.j0 kq x18_1 a0_0 a0_1 a0_2 = some r) ∧ Aside0 (kq ≤ k) ∧ Aside0 (wc.heap[gb320]? = some (.cells #[.int .i64 a0_0, .int .i64 a0_1, .int .i64 a0_2] 56 (0, 0))) ∧ Aside0 (Below w.heap.size w wc))
 case first =>
  have H := HC2.out; clear HC2; replace H := oa H; obtain ⟨t321, A4, H⟩ := H; (try dsimp only at H)
  by_cases c5 : t321 = true
  ·subst c5; rw [if_pos rfl] at H; replace H := oa H; obtain ⟨t322, A6, H⟩ := H; (try dsimp only at H)
   by_cases c7 : t322 = true
   ·subst c7; rw [if_pos rfl] at H; replace H := oa H; obtain ⟨t323, A8, H⟩ := H; (try dsimp only at H); have H' := m0 H; clear H; obtain ⟨hcz9_0, hcz9_1, hcz9_2, hfz9_0, hfz9_1, hfz9_2⟩ := b3 BK320
    go_wp2_with (first | ((with_reducible refine gc 24 rfl ?_); refine gl (some 5) Try.func24 #[.int .i64 a0_2, .int .i64 1, .int .i64 1000000000] ?_; (with_reducible refine (Bs_Within.calls a0_2 1 1000000000 true _ A4.out).mono ?_); rintro e w' ⟨rfl, ⟨nd, rfl⟩⟩; refine ⟨_, rfl, ?_⟩) | (go_at_call 24; (with_reducible refine (Bs_Within.calls a0_0 (-1000000000) 1000000000 true _ A6.out).mono ?_); rintro e w' ⟨rfl, ⟨nd, rfl⟩⟩) | (go_at_call 24; (with_reducible refine (Bs_Within.calls a0_1 (-1000000000000) 1000000000000 t323 _ A8.out).mono ?_); rintro e w' ⟨rfl, ⟨nd, rfl⟩⟩))
    go_meet
    case rel => exact ⟨_, (!t323), rz, H', ⟨by first | omega | exact Nat.le_refl _⟩, ⟨bk BK320.out⟩, ⟨bz⟩⟩
   ·replace c7 := Bool.eq_false_iff.mpr c7; subst c7; rw [if_neg (show ¬ (false = true) by decide)] at H; have H' := m0 H; clear H; obtain ⟨hcz10_0, hcz10_1, hcz10_2, hfz10_0, hfz10_1, hfz10_2⟩ := b3 BK320
    go_wp2_with (first | ((with_reducible refine gc 24 rfl ?_); refine gl (some 5) Try.func24 #[.int .i64 a0_2, .int .i64 1, .int .i64 1000000000] ?_; (with_reducible refine (Bs_Within.calls a0_2 1 1000000000 true _ A4.out).mono ?_); rintro e w' ⟨rfl, ⟨nd, rfl⟩⟩; refine ⟨_, rfl, ?_⟩) | (go_at_call 24; (with_reducible refine (Bs_Within.calls a0_0 (-1000000000) 1000000000 false _ A6.out).mono ?_); rintro e w' ⟨rfl, ⟨nd, rfl⟩⟩))
    go_meet
    case rel => exact ⟨_, (true), rz, H', ⟨by first | omega | exact Nat.le_refl _⟩, ⟨bk BK320.out⟩, ⟨bz⟩⟩
  ·replace c5 := Bool.eq_false_iff.mpr c5; subst c5; rw [if_neg (show ¬ (false = true) by decide)] at H; have H' := m0 H; clear H; obtain ⟨hcz11_0, hcz11_1, hcz11_2, hfz11_0, hfz11_1, hfz11_2⟩ := b3 BK320
   go_wp2_with (first | ((with_reducible refine gc 24 rfl ?_); refine gl (some 5) Try.func24 #[.int .i64 a0_2, .int .i64 1, .int .i64 1000000000] ?_; (with_reducible refine (Bs_Within.calls a0_2 1 1000000000 false _ A4.out).mono ?_); rintro e w' ⟨rfl, ⟨nd, rfl⟩⟩; refine ⟨_, rfl, ?_⟩))
   go_meet
   case rel => exact ⟨_, (true), rz, H', ⟨by first | omega | exact Nat.le_refl _⟩, ⟨bk BK320.out⟩, ⟨bz⟩⟩
 case rest =>
  clear HC2
  try clear hcz10_0
  try clear hcz10_1
  try clear hcz10_2
  try clear hcz11_0
  try clear hcz11_1
  try clear hcz11_2
  try clear hcz9_0
  try clear hcz9_1
  try clear hcz9_2
  try clear hfz10_0
  try clear hfz10_1
  try clear hfz10_2
  try clear hfz11_0
  try clear hfz11_1
  try clear hfz11_2
  try clear hfz9_0
  try clear hfz9_1
  try clear hfz9_2
  obtain ⟨kq, x18_1, rfl, HA, HJ1, BK320, HB⟩ := hcut
  cases kq with
  | zero => exact absurd HA.out (by simp [Rf_LineErr.j0])
  | succ kj1 =>
   have H := HA.out; clear HA; simp only [Rf_LineErr.j0] at H
   by_cases c12 : x18_1 = true
   ·subst c12; rw [if_pos rfl] at H; obtain rfl := Option.some.inj H
    go_wp2
    go_ret
    exact ez
   ·replace c12 := Bool.eq_false_iff.mpr c12; subst c12; rw [if_neg (show ¬ (false = true) by decide)] at H; replace H := oa H; obtain ⟨t324, A13, H⟩ := H; (try dsimp only at H); replace H := oa H; obtain ⟨t325, A14, H⟩ := H; (try dsimp only at H)
    by_cases c15 : t325 = 1
    ·rw [if_pos c15] at H; have c15b0 := beq_iff_eq.mpr c15; have c15b1 := bne_eq_false_iff_eq.mpr c15; clear c15; obtain rfl := Option.some.inj H
     try go_wp2
     replace BK320 := bd BK320; replace HB := sd HB; refine start_ (n := 9) (S := fun w' => w'.cell? ⟨gb320, 0, none⟩ = some (.int .i64 a0_0) ∧ w'.cell? ⟨gb320, 1, none⟩ = some (.int .i64 a0_1) ∧ w'.cell? ⟨gb320, 2, none⟩ = some (.int .i64 a0_2)) (ds := []) _ (by kernel_rfl) rfl rfl cz (fun hH => ?_); refine with_tabW Rf_LineErr.tab3 Rf_LineErr.bits3 (fun HT_ HW_ => ?_); generalize wc.drew = w16 at BK320 HB hH ⊢; refine pZ 0 (some 19) #[true, false, false, false, false, false, false, false, false] HT_ ?_; refine pZ 2 (some 21) #[true, false, true, false, false, false, false, false, false] HT_ ?_; refine pZ 4 (some 23) #[true, false, true, false, true, false, false, false, false] HT_ ?_; refine takeZ 1 (some 20) #[true, true, true, false, true, false, false, false, false] (tw HT_ HW_) hH ?_; refine takeZ 3 (some 22) #[true, true, true, true, true, false, false, false, false] (tw HT_ HW_) hH ?_; refine takeZ 5 (some 24) #[true, true, true, true, true, true, false, false, false] (tw HT_ HW_) hH ?_; refine oneZ 6 (some 25) #[true, true, true, true, true, true, true, false, false] (o1 HT_) fun K hK => ?_; refine gz Try.func93 #[.int .i64 a0_0, .int .i64 a0_1] ?_
     with_reducible refine (Bs_Gcd.calls kj1 a0_0 a0_1 t324 _ A13.out).mono ?_
     rintro e w17 ⟨rfl, hb⟩; refine ⟨_, rfl, ?_⟩; replace BK320 := bb BK320 hb; replace HB := sb HB hb; (try clear hb); refine hK.out _ _ cz (fun hH => ?_); clear hK K; refine nz 25 ?_; refine oneZ 7 (some 26) #[true, true, true, true, true, true, true, true, false] (o1 HT_) fun K hK => ?_; refine gz Try.func93 #[.int .i64 a0_2, .int .i64 t324] ?_
     with_reducible refine (Bs_Gcd.calls kj1 a0_2 t324 t325 _ A14.out).mono ?_
     rintro e w18 ⟨rfl, hb⟩; refine ⟨_, rfl, ?_⟩; replace BK320 := bb BK320 hb; replace HB := sb HB hb; (try clear hb); refine hK.out _ _ cz (fun hH => ?_); clear hK K; refine nz 26 ?_; refine pZ 8 (some 27) #[true, true, true, true, true, true, true, true, true] HT_ ?_; refine done_ (done_of HT_.out (by kernel_rfl)) ?_
     try go_wp2
     go_ret
     exact ez
    ·rw [if_neg c15] at H; have c15b0 := beq_eq_false_iff_ne.mpr c15; have c15b1 := bne_iff_ne.mpr c15; obtain rfl := Option.some.inj H
     try go_wp2
     replace BK320 := bd BK320; replace HB := sd HB; refine start_ (n := 9) (S := fun w' => w'.cell? ⟨gb320, 0, none⟩ = some (.int .i64 a0_0) ∧ w'.cell? ⟨gb320, 1, none⟩ = some (.int .i64 a0_1) ∧ w'.cell? ⟨gb320, 2, none⟩ = some (.int .i64 a0_2)) (ds := []) _ (by kernel_rfl) rfl rfl cz (fun hH => ?_); refine with_tabW Rf_LineErr.tab3 Rf_LineErr.bits3 (fun HT_ HW_ => ?_); generalize wc.drew = w19 at BK320 HB hH ⊢; refine pZ 0 (some 19) #[true, false, false, false, false, false, false, false, false] HT_ ?_; refine pZ 2 (some 21) #[true, false, true, false, false, false, false, false, false] HT_ ?_; refine pZ 4 (some 23) #[true, false, true, false, true, false, false, false, false] HT_ ?_; refine takeZ 1 (some 20) #[true, true, true, false, true, false, false, false, false] (tw HT_ HW_) hH ?_; refine takeZ 3 (some 22) #[true, true, true, true, true, false, false, false, false] (tw HT_ HW_) hH ?_; refine takeZ 5 (some 24) #[true, true, true, true, true, true, false, false, false] (tw HT_ HW_) hH ?_; refine oneZ 6 (some 25) #[true, true, true, true, true, true, true, false, false] (o1 HT_) fun K hK => ?_; refine gz Try.func93 #[.int .i64 a0_0, .int .i64 a0_1] ?_
     with_reducible refine (Bs_Gcd.calls kj1 a0_0 a0_1 t324 _ A13.out).mono ?_
     rintro e w20 ⟨rfl, hb⟩; refine ⟨_, rfl, ?_⟩; replace BK320 := bb BK320 hb; replace HB := sb HB hb; (try clear hb); refine hK.out _ _ cz (fun hH => ?_); clear hK K; refine nz 25 ?_; refine oneZ 7 (some 26) #[true, true, true, true, true, true, true, true, false] (o1 HT_) fun K hK => ?_; refine gz Try.func93 #[.int .i64 a0_2, .int .i64 t324] ?_
     with_reducible refine (Bs_Gcd.calls kj1 a0_2 t324 t325 _ A14.out).mono ?_
     rintro e w21 ⟨rfl, hb⟩; refine ⟨_, rfl, ?_⟩; replace BK320 := bb BK320 hb; replace HB := sb HB hb; (try clear hb); refine hK.out _ _ cz (fun hH => ?_); clear hK K; refine nz 26 ?_; refine pZ 8 (some 27) #[true, true, true, true, true, true, true, true, true] HT_ ?_; refine done_ (done_of HT_.out (by kernel_rfl)) ?_
     try go_wp2
     go_ret
     exact ez
end
section
def Lw_few.f (l0 : List (S85)) : Option (Bool) := some (decide ((l0.length : Int) ≤ 10))
theorem Lw_few.calls (A0 : Option Addr) (c0 : Nat) (l0 : List (S85)) (r : Bool) (w : World) (hr0 : Kd.C k85 w A0 l0.length l0) (hc0 : l0.length ≤ c0) (H : Lw_few.f l0 = some r) :
  Calls Try.prog 36 #[.slice A0 l0.length c0] w fun e w' => e = .returned (.bool r) ∧ Drawn0 w w' := by
 have HR0 := m0 hr0; have HC0 := m0 hc0; clear hr0 hc0; unfold Lw_few.f at H; obtain rfl := Option.some.inj H; go_enter Try.func36, Try.ntmps36
 go_wp2
 go_ret
 exact ⟨rz, by repeat (first | exact Drawn0.refl _ | apply Drawn0.step)⟩
end
section
def Rf_CopyReadings.f (l0 : List (S85)) : Option ((List (S85))) := (some (([] : List (S85)) : List (S85))).bind fun y326 => (if y326.length + l0.length < 5864062014805 then (some (y326 ++ l0)) else (none))
theorem Rf_CopyReadings.calls (A0 : Option Addr) (c0 : Nat) (l0 : List (S85)) (r : List (S85)) (w : World) (hr0 : Kd.C k85 w A0 l0.length l0) (hc0 : l0.length ≤ c0) (H : Rf_CopyReadings.f l0 = some r) :
  Calls Try.prog 38 #[.slice A0 l0.length c0] w fun e w' => ∃ v0_ : Value, e = .returned (v0_) ∧ Kd.R k85 85 w' w.heap.size (fun _ => True) v0_ r ∧ Below w.heap.size w w' := by
 have HR0 := m0 hr0; have HC0 := m0 hc0; clear hr0 hc0; have HB := m0 (Below.refl w.heap.size w); unfold Rf_CopyReadings.f at H; obtain ⟨y326, hy326⟩ : ∃ y_ : List (S85), y_ = (([] : List (S85))) := ⟨_, rfl⟩; replace H : (if y326.length + l0.length < 5864062014805 then (some (y326 ++ l0)) else (none)) = some r := by first | (rw [hy326]; with_reducible exact H) | (have H2_ := (Option.bind_some _ _).symm.trans H; rw [hy326]; with_reducible exact H2_) | (have H2_ := (Option.bind_some _ _).symm.trans H; with_reducible exact H2_) | with_reducible exact H | (rw [hy326]; exact H) | exact H
 have Ny326 := m0 hy326; clear hy326
 by_cases c2 : y326.length + l0.length < 5864062014805
 ·rw [if_pos c2] at H; have LMc2 := m0 c2; clear c2; obtain ⟨y329, hy329⟩ : ∃ y_ : List (S85), y_ = (y326 ++ l0) := ⟨_, rfl⟩; replace H : (some y329) = some r := by first | (rw [hy329]; with_reducible exact H) | (have H2_ := (Option.bind_some _ _).symm.trans H; rw [hy329]; with_reducible exact H2_) | (have H2_ := (Option.bind_some _ _).symm.trans H; with_reducible exact H2_) | with_reducible exact H | (rw [hy329]; exact H) | exact H
  have Ny329 := m0 hy329; clear hy329; obtain rfl := Option.some.inj H; go_enter Try.func38, Try.ntmps38
  go_wp2_with (first | ((with_reducible refine ga 3 rfl ?_); refine Kd.R_lit k85 _ 85 ?hg (N := 3) ?hd (xs := ([] : List (S85))) (inner := []) (ok := fun _ => True) (okp := fun _ => True) ?hr ?hp (fun _ hk => hk) trivial (Below.refl _ _) (Nat.le_refl _) (by simp) ?_; (case hd => rfl); (case hg => rfl); (case hr => first | (go_simp; done) | (go_simp; rfl)); (case hp => exact (Reps.none _ _)); intro v327 w3 ho4 hb hg_ hnew_; clear hg_ hnew_; (first | rw [← Ny326.out] at ho4 | (simp only [Int.reduceToNat] at ho4; rw [← Ny326.out] at ho4)); have HO328 := m0 (Kd.R_lower ho4 (below_size bz)); replace HB := sb HB hb; clear hb ho4) | ((with_reducible refine gate_builtin (b := .append) (xs := #[.tmp 3, .tmp 4]) rfl ?_); at_builtin; refine Kd.R_append_rows k85 (w0 := w) w.heap.size rfl (.tmp 3) (.tmp 4) 67 85 (.agg #[(.int .i64 0), (.int .i64 0), (.int .i64 0)]) 24 rfl Try.underlying67 info85 rfl (by decide) (by omega) v327 y326 l0 _ _ _ (fun _ => True) (fun _ => False) rfl rfl ?aO ?aR (fun _ _ h => h) (fun _ h => h.elim) ?aF ?aB ?aS ?aL ?_; (case aR => exact cb HR0 HB); (case aB => exact bz); (case aF => exact (fun _ _ => trivial)); (case aO => exact (br HO328.out)); (case aS => exact (below_size bz)); (case aL => have := LMc2.out; omega); intro v330 w5 ho hb hg hat; rw [← Ny329.out] at ho; have n0_ := m0 (hb); have n1_ := m0 (ho); clear HB; clear HO328; have HB := n0_; have HO331 := n1_; clear n0_ n1_; clear ho hb hg hat))
  go_ret
  exact ⟨_, by first | rfl | (simp [errW_none, errW_some] <;> rfl) | (simp [*, errW_none, errW_some] <;> rfl), by (with_reducible repeat (first | apply Kd.R_alloc | apply Kd.R_drewN | apply Kd.R_drew)); exact HO331.out, by repeat (first | (with_reducible first | exact HB.out | apply below_alloc | apply pw_below_drewN | apply below_drew1) | exact HB.out)⟩
 ·rw [if_neg c2] at H; exact absurd H (by simp)
end
section
def L_fraction.f (k : Nat) (a0 : Int) (a1 : Int) : Option (Int × Int) := (L_divisor.f k (([a0, a1] : List Int))).bind fun t336 => (if t336 = 0 then (none) else (some (wrap64 (Int.tdiv a0 t336), wrap64 (Int.tdiv a1 t336))))
theorem L_fraction.mono : ∀ a0 a1 k, LeO (L_fraction.f k a0 a1) (L_fraction.f (k + 1) a0 a1) := by
 intro a0 a1 k; unfold L_fraction.f
 repeat' with_reducible first
  | exact L_divisor.mono ..
  | exact LeO.refl ..
  | exact LeO.none ..
  | refine LeO.ite ?_ ?_
  | refine LeO.bind ?_ (fun _ => ?_)
def L_fraction.T2 : Bool × List (List Nat × List Nat) := (true, [([], []), ([], []), ([0, 1], [0, 1]), ([], []), ([], []), ([3, 4], [3, 4]), ([2, 5], [2, 5]), ([6, 0, 1, 2, 3, 4, 5, 6], [6])])
def L_fraction.B2 : List Nat := [0, 0, 3, 0, 0, 24, 63, 127]
theorem L_fraction.tab2 : rtab .any (opsOf Try.f98 2) = L_fraction.T2 := by kernel_rfl
theorem L_fraction.bits2 : waitsOk L_fraction.T2.2 L_fraction.B2 = true := by kernel_rfl
theorem L_fraction.calls (k : Nat) (a0 : Int) (a1 : Int) (r1 : Int) (r2 : Int) (w : World) (H : L_fraction.f k a0 a1 = some (r1, r2)) :
  Calls Try.prog 98 #[.int .i64 a0, .int .i64 a1] w fun e w' => e = .returned (.agg #[.int .i64 r1, .int .i64 r2]) ∧ Below w.heap.size w w' := by
 have hu73 := Try.underlying73; have HB := m0 (Below.refl w.heap.size w); unfold L_fraction.f at H; obtain ⟨y333, hy333⟩ : ∃ y_ : List Int, y_ = (([a0, a1] : List Int)) := ⟨_, rfl⟩; replace H : ((L_divisor.f k y333).bind fun t336 => (if t336 = 0 then (none) else (some (wrap64 (Int.tdiv a0 t336), wrap64 (Int.tdiv a1 t336))))) = some (r1, r2) := by first | (rw [hy333]; with_reducible exact H) | (have H2_ := (Option.bind_some _ _).symm.trans H; rw [hy333]; with_reducible exact H2_) | (have H2_ := (Option.bind_some _ _).symm.trans H; with_reducible exact H2_) | with_reducible exact H | (rw [hy333]; exact H) | exact H
 have Ny333 := m0 hy333; clear hy333; replace H := oa H; obtain ⟨t336, A3, H⟩ := H; (try dsimp only at H)
 by_cases c4 : t336 = 0
 ·rw [if_pos c4] at H; exact absurd H (by simp)
 ·rw [if_neg c4] at H; have c4b0 := beq_eq_false_iff_ne.mpr c4; have c4b1 := bne_iff_ne.mpr c4; simp only [Option.some.injEq, Prod.mk.injEq] at H; obtain ⟨rfl, rfl⟩ := H; go_enter Try.func98, Try.ntmps98
  try go_wp2_with (first | ((with_reducible refine ga 4 rfl ?_); refine be 4 73 #[.int .i64 0, .int .i64 0] ?_; intro gb332 hg w5 hbox hb; have BK332 := m0 hbox; have GE332 := gw w hg; replace HB := sb HB hb; clear hb hbox hg) | ((with_reducible refine ga 8 rfl ?_); refine Kd.R_lit (Kd.int .i64) _ 3 ?hg (N := 8) ?hd (xs := ([a0, a1] : List Int)) (inner := [.int .i64 a0, .int .i64 a1]) (ok := fun _ => True) (okp := fun _ => True) ?hr ?hp (fun _ hk => hk) trivial (Below.refl _ _) (Nat.le_refl _) (by simp) ?_; (case hd => rfl); (case hg => rfl); (case hr => first | (go_simp; done) | (go_simp; rfl)); (case hp => exact (Reps.one (ki a0) (Reps.one (ki a1) (Reps.none _ _)))); intro v334 w6 ho7 hb hg_ hnew_; clear hg_ hnew_; (first | rw [← Ny333.out] at ho7 | (simp only [Int.reduceToNat] at ho7; rw [← Ny333.out] at ho7)); have HO335 := m0 (Kd.R_lower ho7 (below_size bz)); replace BK332 := bb BK332 hb; replace HB := sb HB hb; clear hb ho7; obtain ⟨Ao8, co8, eo8⟩ := Kd.R_slice HO335.out; subst eo8) | ((with_reducible refine gc 97 rfl ?_); refine gl (some 9) Try.func97 #[.slice Ao8 y333.length co8] ?_; (with_reducible refine (L_divisor.calls k _ _ y333 t336 _ ?side1 ?side2 A3.out).mono ?_); (case side1 => exact bc (Kd.R_reads' HO335.out).2.2); (case side2 => exact (Kd.R_reads' HO335.out).2.1); rintro e w9 ⟨rfl, hb⟩; refine ⟨_, rfl, ?_⟩; replace HO335 := rb HO335 hb; replace BK332 := bb BK332 hb; replace HB := sb HB hb; (try clear hb)))
  replace HO335 := m0 (Kd.R_drew HO335.out); replace BK332 := bd BK332; replace HB := sd HB; refine start_ (n := 8) (S := fun w' => True) (ds := []) _ (by kernel_rfl) rfl rfl trivial (fun hH => ?_); refine with_tabW L_fraction.tab2 L_fraction.bits2 (fun HT_ HW_ => ?_); generalize w9.drew = w10 at HO335 BK332 HB hH ⊢; refine pZ 0 (some 10) #[true, false, false, false, false, false, false, false] HT_ ?_; refine pZ 1 (some 11) #[true, true, false, false, false, false, false, false] HT_ ?_; refine pZ 2 (some 12) #[true, true, true, false, false, false, false, false] HT_ ?_; refine pZ 3 (some 13) #[true, true, true, true, false, false, false, false] HT_ ?_; refine pZ 4 (some 14) #[true, true, true, true, true, false, false, false] HT_ ?_; refine pZ 5 (some 15) #[true, true, true, true, true, true, false, false] HT_ ?_; refine pZ 6 (some 16) #[true, true, true, true, true, true, true, false] HT_ ?_; refine oneZ 7 (none) #[true, true, true, true, true, true, true, true] (o1 HT_) fun K hK => ?_; obtain ⟨hs11, hfs11⟩ := q0 BK332; obtain ⟨hs12, hfs12⟩ := q1 BK332; refine skip_ (w1 := ?_) (by rfl) rfl ?_ ?_; rotate_left
  ·go_simp
   rfl
  refine hK.out _ _ trivial (fun hH => ?_); clear hK K; refine done_ (done_of HT_.out (by kernel_rfl)) ?_
  try go_wp2
  refine bodyPost_ret (results_cell_row rfl _ _ gb332 73 #[.int .i64 (wrap64 (Int.tdiv a0 t336)), .int .i64 (wrap64 (Int.tdiv a1 t336))] (0, 0) _ rfl (bq BK332.out) Try.underlying73 rfl (by kernel_rfl)) rfl ?_; exact ez
end
section
def L_sums_square.f (a0_0 : Int) (a0_1 : Int) (a0_2 : Int) (a0_3 : Int) (a0_4 : Int) (a0_5 : Int) : Option (Int) := some (wrap64 ((wrap64 (a0_0 * a0_5)) - (wrap64 (a0_2 * a0_2))))
theorem L_sums_square.calls (a0_0 : Int) (a0_1 : Int) (a0_2 : Int) (a0_3 : Int) (a0_4 : Int) (a0_5 : Int) (r : Int) (w : World) (H : L_sums_square.f a0_0 a0_1 a0_2 a0_3 a0_4 a0_5 = some r) :
  Calls Try.prog 99 #[.agg #[.int .i64 a0_0, .int .i64 a0_1, .int .i64 a0_2, .int .i64 a0_3, .int .i64 a0_4, .int .i64 a0_5]] w fun e w' => e = .returned (.int .i64 r) ∧ Below w.heap.size w w' := by
 have hu149 := Try.underlying149; have HB := m0 (Below.refl w.heap.size w); unfold L_sums_square.f at H; obtain rfl := Option.some.inj H; go_enter Try.func99, Try.ntmps99
 go_wp2_with (first | ((with_reducible refine ga 1 rfl ?_); refine be 1 149 #[.int .i64 a0_0, .int .i64 a0_1, .int .i64 a0_2, .int .i64 a0_3, .int .i64 a0_4, .int .i64 a0_5] ?_; intro gb337 hg w2 hbox hb; have BK337 := m0 hbox; have GE337 := gw w hg; replace HB := sb HB hb; clear hb hbox hg; obtain ⟨_, _, _, _, _, _, _, _, _, _, _, _⟩ := b6 BK337))
 go_ret
 exact ez
end
end Go.Proofs.Ytibhfahbabgbaaa.A
