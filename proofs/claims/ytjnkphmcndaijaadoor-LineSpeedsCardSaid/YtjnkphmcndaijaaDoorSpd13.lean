/- Walks of the program's functions (printed, made shorter), each with what it computes. -/
import Derived.Test.YtjnkphmcndaijaaDoorSpd04
import Derived.Test.YtjnkphmcndaijaaDoorSpd03
import Derived.Test.YtjnkphmcndaijaaDoorSpd10
namespace Go.Proofs.YtjnkphmcndaijaaDoor.A
set_option maxHeartbeats 8000000
set_option maxRecDepth 100000
open Go.RowKit Go.Proofs.YtjnkphmcndaijaaDoorW.PrintWords Go.Proofs.YtjnkphmcndaijaaDoorW.PrintLast Go.Proofs.YtjnkphmcndaijaaDoorW.PrintMore
attribute [local go_sem] max2_int min2_int max_two min_two max_three min_three max_four min_four
set_option linter.unusedVariables false
set_option linter.unusedSimpArgs false
section
def L_PositionOf.f (k : Nat) (a0_0 : Int) (a0_1 : Int) (a1_0 : Int) (a1_1 : Int) (a1_2 : Int) : Option (Int × Int × Int) := (L_lowestErr.f k a0_0 a0_1 1000000000).bind fun t410 => ((L_scaleErr.f a1_0 a1_1 a1_2).bind fun t411 => ((L_first.f k (([t410, t411] : List Int))).bind fun t415 => (if t415 = 0 then ((L_fraction.f k (wrap64 ((wrap64 (a0_0 * a1_2)) + (wrap64 (a1_0 * (wrap64 (a0_1 * a1_1)))))) (wrap64 (a0_1 * a1_1))).bind fun bt416 => ((L_small.f bt416.1 bt416.2).bind fun bt418 => (some (bt418.1, bt418.2.1, bt418.2.2)))) else (some (0, 0, t415)))))
theorem L_PositionOf.mono : ∀ a0 a1 a2 a3 a4 k, LeO (L_PositionOf.f k a0 a1 a2 a3 a4) (L_PositionOf.f (k + 1) a0 a1 a2 a3 a4) := by
 intro a0 a1 a2 a3 a4 k
 unfold L_PositionOf.f
 repeat' with_reducible first
  | exact L_first.mono ..
  | exact L_fraction.mono ..
  | exact L_lowestErr.mono ..
  | exact LeO.refl ..
  | exact LeO.none ..
  | refine LeO.ite ?_ ?_
  | refine LeO.bind ?_ (fun _ => ?_)
theorem L_PositionOf.calls (k : Nat) (a0_0 : Int) (a0_1 : Int) (a1_0 : Int) (a1_1 : Int) (a1_2 : Int) (r1 : Int) (r2 : Int) (r3 : Int) (w : World) (h : L_PositionOf.f k a0_0 a0_1 a1_0 a1_1 a1_2 = some (r1, r2, r3)) :
  Calls Tryd.prog 46 #[.agg #[.int .i64 a0_0, .int .i64 a0_1], .agg #[.int .i64 a1_0, .int .i64 a1_1, .int .i64 a1_2]] w fun e w' => e = .returned (.tuple #[.agg #[.int .i64 r1, .int .i64 r2], .int .i64 r3]) ∧ Below w.heap.size w w' := by
 have hu26 := Tryd.underlying26
 have hu63 := Tryd.underlying63
 have HB := m0 (Below.refl w.heap.size w)
 have H : ((L_lowestErr.f k a0_0 a0_1 1000000000).bind fun t410 => ((L_scaleErr.f a1_0 a1_1 a1_2).bind fun t411 => ((L_first.f k (([t410, t411] : List Int))).bind fun t415 => (if t415 = 0 then ((L_fraction.f k (wrap64 ((wrap64 (a0_0 * a1_2)) + (wrap64 (a1_0 * (wrap64 (a0_1 * a1_1)))))) (wrap64 (a0_1 * a1_1))).bind fun bt416 => ((L_small.f bt416.1 bt416.2).bind fun bt418 => (some (bt418.1, bt418.2.1, bt418.2.2)))) else (some (0, 0, t415)))))) = some (r1, r2, r3) := h
 clear h
 replace H := ob H
 obtain ⟨t410, A3, H⟩ := H
 (try dsimp only at H)
 replace A3 := m0 A3
 replace H := ob H
 obtain ⟨t411, A4, H⟩ := H
 (try dsimp only at H)
 replace A4 := m0 A4
 obtain ⟨y412, hy412⟩ : ∃ y_ : List Int, y_ = (([t410, t411] : List Int)) := ⟨_, rfl⟩
 replace H : ((L_first.f k y412).bind fun t415 => (if t415 = 0 then ((L_fraction.f k (wrap64 ((wrap64 (a0_0 * a1_2)) + (wrap64 (a1_0 * (wrap64 (a0_1 * a1_1)))))) (wrap64 (a0_1 * a1_1))).bind fun bt416 => ((L_small.f bt416.1 bt416.2).bind fun bt418 => (some (bt418.1, bt418.2.1, bt418.2.2)))) else (some (0, 0, t415)))) = some (r1, r2, r3) := by first | (rw [hy412]; with_reducible exact H) | (have H2_ := (Option.bind_some _ _).symm.trans H; rw [hy412]; with_reducible exact H2_) | (have H2_ := (Option.bind_some _ _).symm.trans H; with_reducible exact H2_) | with_reducible exact H | (rw [hy412]; exact H) | exact H
 have Ny412 := m0 hy412
 clear hy412
 replace H := ob H
 obtain ⟨t415, A5, H⟩ := H
 (try dsimp only at H)
 replace A5 := m0 A5
 by_cases c6 : t415 = 0
 ·rw [if_pos c6] at H
  have c6b0 := beq_iff_eq.mpr c6
  have c6b1 := bne_eq_false_iff_eq.mpr c6
  clear c6
  replace H := ob H
  obtain ⟨⟨t416, t417⟩, A7, H⟩ := H
  (try dsimp only at H)
  replace A7 := m0 A7
  replace H := ob H
  obtain ⟨⟨t418, t419, t420⟩, A8, H⟩ := H
  (try dsimp only at H)
  replace A8 := m0 A8
  simp only [Option.some.injEq, Prod.mk.injEq] at H
  obtain ⟨rfl, rfl, rfl⟩ := H
  go_enter Tryd.func46, Tryd.ntmps46
  try go_wp2_with (first | ((with_reducible refine gate_dst (N := 2) rfl ?_); refine be 2 26 #[.int .i64 a0_0, .int .i64 a0_1] ?_; intro gb407 hg w9 hbox hb; have BK407 := m0 hbox; have GE407 := gw w hg; replace HB := sb HB hb; clear hb hbox hg) | ((with_reducible refine gate_dst (N := 3) rfl ?_); refine be 3 63 #[.int .i64 a1_0, .int .i64 a1_1, .int .i64 a1_2] ?_; intro gb408 hg w10 hbox hb; have BK408 := m0 hbox; have GE408 := gw w hg; replace HB := sb HB hb; have NB407_408 := nl BK407 hg; have NB408_407 := ng (nl BK407 hg); replace BK407 := bb BK407 hb; clear hb hbox hg) | ((with_reducible refine gate_dst (N := 4) rfl ?_); refine be 4 26 #[.int .i64 0, .int .i64 0] ?_; intro gb409 hg w11 hbox hb; have BK409 := m0 hbox; have GE409 := gw w hg; replace HB := sb HB hb; have NB407_409 := nl BK407 hg; have NB409_407 := ng (nl BK407 hg); replace BK407 := bb BK407 hb; have NB408_409 := nl BK408 hg; have NB409_408 := ng (nl BK408 hg); replace BK408 := bb BK408 hb; clear hb hbox hg))
  replace BK407 := bd BK407; replace BK408 := bd BK408; replace BK409 := bd BK409; replace HB := sd HB
  refine start_ (n := 7) (S := fun w' => w'.cell? ⟨gb407, 0, none⟩ = some (.int .i64 a0_0) ∧ w'.cell? ⟨gb407, 1, none⟩ = some (.int .i64 a0_1) ∧ w'.cell? ⟨gb408, 0, none⟩ = some (.int .i64 a1_0) ∧ w'.cell? ⟨gb408, 1, none⟩ = some (.int .i64 a1_1) ∧ w'.cell? ⟨gb408, 2, none⟩ = some (.int .i64 a1_2)) (ds := []) #[false, false, false, false, false, false, false] (by kernel_rfl) rfl rfl cz (fun hH => ?_)
  generalize w11.drew = w12 at BK407 BK408 BK409 HB hH ⊢
  refine takeZ 0 (some 8) #[true, false, false, false, false, false, false] (by kernel_rfl) hH ?_
  refine takeZ 2 (some 10) #[true, false, true, false, false, false, false] (by kernel_rfl) hH ?_
  refine oneZ 1 (some 9) #[true, true, true, false, false, false, false] (by kernel_rfl) fun K hK => ?_
  refine gz Tryd.func109 #[.agg #[.int .i64 a0_0, .int .i64 a0_1], .int .i64 1000000000] ?_
  with_reducible refine (L_lowestErr.calls k a0_0 a0_1 1000000000 t410 _ A3.out).mono ?_
  rintro e w13 ⟨rfl, hb⟩
  refine ⟨_, rfl, ?_⟩
  replace BK407 := bb BK407 hb; replace BK408 := bb BK408 hb; replace BK409 := bb BK409 hb; replace HB := sb HB hb
  (try clear hb)
  refine hK.out _ _ cz (fun hH => ?_)
  clear hK K
  refine norm_ (a' := ?_) ?_ ?_
  rotate_left
  ·show Act.put _ (some 9) _ = _
   exact pz
  refine oneZ 3 (some 11) #[true, true, true, true, false, false, false] (by kernel_rfl) fun K hK => ?_
  refine gz Tryd.func110 #[.agg #[.int .i64 a1_0, .int .i64 a1_1, .int .i64 a1_2]] ?_
  with_reducible refine (L_scaleErr.calls a1_0 a1_1 a1_2 t411 _ A4.out).mono ?_
  rintro e w14 ⟨rfl, hb⟩
  refine ⟨_, rfl, ?_⟩
  replace BK407 := bb BK407 hb; replace BK408 := bb BK408 hb; replace BK409 := bb BK409 hb; replace HB := sb HB hb
  (try clear hb)
  refine hK.out _ _ cz (fun hH => ?_)
  clear hK K
  refine norm_ (a' := ?_) ?_ ?_
  rotate_left
  ·show Act.put _ (some 11) _ = _
   exact pz
  refine oneZ 4 (some 12) #[true, true, true, true, true, false, false] (by kernel_rfl) fun K hK => ?_
  refine Kd.R_lit_step (Kd.int .i64) _ 31 ?hg (N := 12) ?hd (xs := ([t410, t411] : List Int)) (inner := [.int .i64 t410, .int .i64 t411]) (ok := fun _ => True) (okp := fun _ => True) ?hr ?hp (fun _ hk => hk) trivial (Below.refl _ _) (Nat.le_refl _) (by simp) ?_; (case hd => rfl); (case hg => rfl); (case hr => first | (go_simp; done) | (go_simp; rfl)); (case hp => exact (Reps.one (show Kd.M (Kd.int .i64) _ _ _ t410 [.int .i64 t410] from rfl) (Reps.one (show Kd.M (Kd.int .i64) _ _ _ t411 [.int .i64 t411] from rfl) (Reps.none _ _))))
  intro v413 w15 ho16 hb hg_ hnew_
  clear hg_ hnew_
  (first | rw [← Ny412.out] at ho16 | (simp only [Int.reduceToNat] at ho16; rw [← Ny412.out] at ho16))
  have HO414 := m0 (Kd.R_lower ho16 (below_size bz)); replace BK407 := bb BK407 hb; replace BK408 := bb BK408 hb; replace BK409 := bb BK409 hb; replace HB := sb HB hb
  clear hb ho16
  obtain ⟨Ao17, co17, eo17⟩ := Kd.R_slice HO414.out
  subst eo17
  refine hK.out _ _ cz (fun hH => ?_)
  clear hK K
  refine norm_ (a' := ?_) ?_ ?_
  rotate_left
  ·show Act.put _ (some 12) _ = _
   exact pz
  refine oneZ 5 (some 13) #[true, true, true, true, true, true, false] (by kernel_rfl) fun K hK => ?_
  refine gz Tryd.func91 #[.slice Ao17 y412.length co17] ?_
  with_reducible refine (L_first.calls k _ _ y412 t415 _ ?side1 ?side2 A5.out).mono ?_
  (case side1 => exact bc (Kd.R_reads' HO414.out).2.2)
  (case side2 => exact (Kd.R_reads' HO414.out).2.1)
  rintro e w' ⟨rfl, ⟨nd, rfl⟩⟩
  refine ⟨_, rfl, ?_⟩
  refine hK.out _ _ cz (fun hH => ?_)
  clear hK K
  refine norm_ (a' := ?_) ?_ ?_
  rotate_left
  ·show Act.put _ (some 13) _ = _
   exact pz
  refine pure_ (i := 6) (N := some 6) (v := ?_) (a' := ?_) #[true, true, true, true, true, true, true] rfl rfl (by kernel_rfl) (fun _ _ _ h => h) (Or.inl ⟨by rfl, ?_⟩) ?_ ?_
  rotate_left
  ·intro w'
   go_simp
   with_reducible rfl
  rotate_left
  ·exact pz
  refine done_ (by kernel_rfl) ?_
  have hnb18 := NB407_408.out
  have hnc18 := NB408_407.out
  have hnb19 := NB407_409.out
  have hnc19 := NB409_407.out
  obtain ⟨_, _, _, _⟩ := b2 BK407
  have hnb21 := NB408_409.out
  have hnc21 := NB409_408.out
  obtain ⟨_, _, _, _, _, _⟩ := b3 BK408
  try go_wp2_with (first | ((with_reducible refine gate_callee (f := 96) rfl ?_); refine gl (some 34) Tryd.func96 #[.int .i64 (wrap64 ((wrap64 (a0_0 * a1_2)) + (wrap64 (a1_0 * (wrap64 (a0_1 * a1_1)))))), .int .i64 (wrap64 (a0_1 * a1_1))] ?_; (with_reducible refine (L_fraction.calls k (wrap64 ((wrap64 (a0_0 * a1_2)) + (wrap64 (a1_0 * (wrap64 (a0_1 * a1_1)))))) (wrap64 (a0_1 * a1_1)) t416 t417 _ A7.out).mono ?_); rintro e w23 ⟨rfl, hb⟩; refine ⟨_, rfl, ?_⟩; replace HO414 := rb HO414 hb; replace BK407 := bb BK407 hb; replace BK408 := bb BK408 hb; replace BK409 := bb BK409 hb; replace HB := sb HB hb; (try clear hb)) | ((with_reducible refine gate_callee (f := 111) rfl ?_); refine gl (some 35) Tryd.func111 #[.agg #[.int .i64 t416, .int .i64 t417]] ?_; (with_reducible refine (L_small.calls t416 t417 t418 t419 t420 _ A8.out).mono ?_); rintro e w24 ⟨rfl, hb⟩; refine ⟨_, rfl, ?_⟩; replace HO414 := rb HO414 hb; replace BK407 := bb BK407 hb; replace BK408 := bb BK408 hb; replace BK409 := bb BK409 hb; replace HB := sb HB hb; (try clear hb); obtain ⟨_, _, _, _⟩ := b2 BK409))
  refine bodyPost_ret (results_ct rfl _ _ gb409 26 #[.int .i64 t418, .int .i64 t419] (0, 0) _ rfl (bq BK409.out) Tryd.underlying26 rfl (by kernel_rfl)) rfl ?_
  exact ez
 ·rw [if_neg c6] at H
  have c6b0 := beq_eq_false_iff_ne.mpr c6
  have c6b1 := bne_iff_ne.mpr c6
  simp only [Option.some.injEq, Prod.mk.injEq] at H
  obtain ⟨rfl, rfl, rfl⟩ := H
  go_enter Tryd.func46, Tryd.ntmps46
  try go_wp2_with (first | ((with_reducible refine gate_dst (N := 2) rfl ?_); refine be 2 26 #[.int .i64 a0_0, .int .i64 a0_1] ?_; intro gb407 hg w26 hbox hb; have BK407 := m0 hbox; have GE407 := gw w hg; replace HB := sb HB hb; clear hb hbox hg) | ((with_reducible refine gate_dst (N := 3) rfl ?_); refine be 3 63 #[.int .i64 a1_0, .int .i64 a1_1, .int .i64 a1_2] ?_; intro gb408 hg w27 hbox hb; have BK408 := m0 hbox; have GE408 := gw w hg; replace HB := sb HB hb; have NB407_408 := nl BK407 hg; have NB408_407 := ng (nl BK407 hg); replace BK407 := bb BK407 hb; clear hb hbox hg) | ((with_reducible refine gate_dst (N := 4) rfl ?_); refine be 4 26 #[.int .i64 0, .int .i64 0] ?_; intro gb409 hg w28 hbox hb; have BK409 := m0 hbox; have GE409 := gw w hg; replace HB := sb HB hb; have NB407_409 := nl BK407 hg; have NB409_407 := ng (nl BK407 hg); replace BK407 := bb BK407 hb; have NB408_409 := nl BK408 hg; have NB409_408 := ng (nl BK408 hg); replace BK408 := bb BK408 hb; clear hb hbox hg))
  replace BK407 := bd BK407; replace BK408 := bd BK408; replace BK409 := bd BK409; replace HB := sd HB
  refine start_ (n := 7) (S := fun w' => w'.cell? ⟨gb407, 0, none⟩ = some (.int .i64 a0_0) ∧ w'.cell? ⟨gb407, 1, none⟩ = some (.int .i64 a0_1) ∧ w'.cell? ⟨gb408, 0, none⟩ = some (.int .i64 a1_0) ∧ w'.cell? ⟨gb408, 1, none⟩ = some (.int .i64 a1_1) ∧ w'.cell? ⟨gb408, 2, none⟩ = some (.int .i64 a1_2)) (ds := []) #[false, false, false, false, false, false, false] (by kernel_rfl) rfl rfl cz (fun hH => ?_)
  generalize w28.drew = w29 at BK407 BK408 BK409 HB hH ⊢
  refine takeZ 0 (some 8) #[true, false, false, false, false, false, false] (by kernel_rfl) hH ?_
  refine takeZ 2 (some 10) #[true, false, true, false, false, false, false] (by kernel_rfl) hH ?_
  refine oneZ 1 (some 9) #[true, true, true, false, false, false, false] (by kernel_rfl) fun K hK => ?_
  refine gz Tryd.func109 #[.agg #[.int .i64 a0_0, .int .i64 a0_1], .int .i64 1000000000] ?_
  with_reducible refine (L_lowestErr.calls k a0_0 a0_1 1000000000 t410 _ A3.out).mono ?_
  rintro e w30 ⟨rfl, hb⟩
  refine ⟨_, rfl, ?_⟩
  replace BK407 := bb BK407 hb; replace BK408 := bb BK408 hb; replace BK409 := bb BK409 hb; replace HB := sb HB hb
  (try clear hb)
  refine hK.out _ _ cz (fun hH => ?_)
  clear hK K
  refine norm_ (a' := ?_) ?_ ?_
  rotate_left
  ·show Act.put _ (some 9) _ = _
   exact pz
  refine oneZ 3 (some 11) #[true, true, true, true, false, false, false] (by kernel_rfl) fun K hK => ?_
  refine gz Tryd.func110 #[.agg #[.int .i64 a1_0, .int .i64 a1_1, .int .i64 a1_2]] ?_
  with_reducible refine (L_scaleErr.calls a1_0 a1_1 a1_2 t411 _ A4.out).mono ?_
  rintro e w31 ⟨rfl, hb⟩
  refine ⟨_, rfl, ?_⟩
  replace BK407 := bb BK407 hb; replace BK408 := bb BK408 hb; replace BK409 := bb BK409 hb; replace HB := sb HB hb
  (try clear hb)
  refine hK.out _ _ cz (fun hH => ?_)
  clear hK K
  refine norm_ (a' := ?_) ?_ ?_
  rotate_left
  ·show Act.put _ (some 11) _ = _
   exact pz
  refine oneZ 4 (some 12) #[true, true, true, true, true, false, false] (by kernel_rfl) fun K hK => ?_
  refine Kd.R_lit_step (Kd.int .i64) _ 31 ?hg (N := 12) ?hd (xs := ([t410, t411] : List Int)) (inner := [.int .i64 t410, .int .i64 t411]) (ok := fun _ => True) (okp := fun _ => True) ?hr ?hp (fun _ hk => hk) trivial (Below.refl _ _) (Nat.le_refl _) (by simp) ?_; (case hd => rfl); (case hg => rfl); (case hr => first | (go_simp; done) | (go_simp; rfl)); (case hp => exact (Reps.one (show Kd.M (Kd.int .i64) _ _ _ t410 [.int .i64 t410] from rfl) (Reps.one (show Kd.M (Kd.int .i64) _ _ _ t411 [.int .i64 t411] from rfl) (Reps.none _ _))))
  intro v413 w32 ho33 hb hg_ hnew_
  clear hg_ hnew_
  (first | rw [← Ny412.out] at ho33 | (simp only [Int.reduceToNat] at ho33; rw [← Ny412.out] at ho33))
  have HO414 := m0 (Kd.R_lower ho33 (below_size bz)); replace BK407 := bb BK407 hb; replace BK408 := bb BK408 hb; replace BK409 := bb BK409 hb; replace HB := sb HB hb
  clear hb ho33
  obtain ⟨Ao34, co34, eo34⟩ := Kd.R_slice HO414.out
  subst eo34
  refine hK.out _ _ cz (fun hH => ?_)
  clear hK K
  refine norm_ (a' := ?_) ?_ ?_
  rotate_left
  ·show Act.put _ (some 12) _ = _
   exact pz
  refine oneZ 5 (some 13) #[true, true, true, true, true, true, false] (by kernel_rfl) fun K hK => ?_
  refine gz Tryd.func91 #[.slice Ao34 y412.length co34] ?_
  with_reducible refine (L_first.calls k _ _ y412 t415 _ ?side1 ?side2 A5.out).mono ?_
  (case side1 => exact bc (Kd.R_reads' HO414.out).2.2)
  (case side2 => exact (Kd.R_reads' HO414.out).2.1)
  rintro e w' ⟨rfl, ⟨nd, rfl⟩⟩
  refine ⟨_, rfl, ?_⟩
  refine hK.out _ _ cz (fun hH => ?_)
  clear hK K
  refine norm_ (a' := ?_) ?_ ?_
  rotate_left
  ·show Act.put _ (some 13) _ = _
   exact pz
  refine pure_ (i := 6) (N := some 6) (v := ?_) (a' := ?_) #[true, true, true, true, true, true, true] rfl rfl (by kernel_rfl) (fun _ _ _ h => h) (Or.inl ⟨by rfl, ?_⟩) ?_ ?_
  rotate_left
  ·intro w'
   go_simp
   with_reducible rfl
  rotate_left
  ·exact pz
  refine done_ (by kernel_rfl) ?_
  have hnb35 := NB409_407.out
  have hnc35 := NB407_409.out
  have hnb36 := NB409_408.out
  have hnc36 := NB408_409.out
  obtain ⟨_, _, _, _⟩ := b2 BK409
  try go_wp2
  refine bodyPost_ret (results_ct rfl _ _ gb409 26 #[.int .i64 0, .int .i64 0] (0, 0) _ rfl (bq BK409.out) Tryd.underlying26 rfl (by kernel_rfl)) rfl ?_
  exact ez
end
section
def Bs_Within.f (a0 : Int) (a1 : Int) (a2 : Int) : Option (Bool) := if a1 ≤ a0 then (some (decide (a0 ≤ a2))) else (some false)
theorem Bs_Within.calls (a0 : Int) (a1 : Int) (a2 : Int) (r : Bool) (w : World) (h : Bs_Within.f a0 a1 a2 = some r) :
  Calls Tryd.prog 31 #[.int .i64 a0, .int .i64 a1, .int .i64 a2] w fun e w' => e = .returned (.bool r) ∧ Drawn0 w w' := by
 have H : (if a1 ≤ a0 then (some (decide (a0 ≤ a2))) else (some false)) = some r := h
 clear h
 by_cases c4 : a1 ≤ a0
 ·rw [if_pos c4] at H
  have c4b0 := decide_eq_true c4
  clear c4
  obtain rfl := Option.some.inj H
  go_enter Tryd.func31, Tryd.ntmps31
  go_wp2
  go_ret
  exact ⟨by first | rfl | (simp; done) | (simp [*]; done), by repeat (first | exact Drawn0.refl _ | apply Drawn0.step)⟩
 ·rw [if_neg c4] at H
  have c4b0 := decide_eq_false c4
  clear c4
  obtain rfl := Option.some.inj H
  go_enter Tryd.func31, Tryd.ntmps31
  go_wp2
  go_ret
  exact ⟨by first | rfl | (simp; done) | (simp [*]; done), by repeat (first | exact Drawn0.refl _ | apply Drawn0.step)⟩
end
section
def Bs_IsLowest.f (k : Nat) (a0_0 : Int) (a0_1 : Int) : Option (Bool) := if a0_1 > 0 then ((Bs_Gcd.f k a0_0 a0_1).bind fun t422 => (some (t422 == 1))) else (some false)
theorem Bs_IsLowest.mono : ∀ a0 a1 k, LeO (Bs_IsLowest.f k a0 a1) (Bs_IsLowest.f (k + 1) a0 a1) := by
 intro a0 a1 k
 unfold Bs_IsLowest.f
 repeat' with_reducible first
  | exact Bs_Gcd.mono ..
  | exact LeO.refl ..
  | exact LeO.none ..
  | refine LeO.ite ?_ ?_
  | refine LeO.bind ?_ (fun _ => ?_)
theorem Bs_IsLowest.calls (k : Nat) (a0_0 : Int) (a0_1 : Int) (r : Bool) (w : World) (h : Bs_IsLowest.f k a0_0 a0_1 = some r) :
  Calls Tryd.prog 35 #[.agg #[.int .i64 a0_0, .int .i64 a0_1]] w fun e w' => e = .returned (.bool r) ∧ Below w.heap.size w w' := by
 have hu26 := Tryd.underlying26
 have HB := m0 (Below.refl w.heap.size w)
 have H : (if a0_1 > 0 then ((Bs_Gcd.f k a0_0 a0_1).bind fun t422 => (some (t422 == 1))) else (some false)) = some r := h
 clear h
 by_cases c2 : a0_1 > 0
 ·rw [if_pos c2] at H
  have c2b0 := decide_eq_true c2
  clear c2
  replace H := ob H
  obtain ⟨t422, A3, H⟩ := H
  (try dsimp only at H)
  replace A3 := m0 A3
  obtain rfl := Option.some.inj H
  go_enter Tryd.func35, Tryd.ntmps35
  go_wp2_with (first | ((with_reducible refine gate_dst (N := 1) rfl ?_); refine be 1 26 #[.int .i64 a0_0, .int .i64 a0_1] ?_; intro gb421 hg w4 hbox hb; have BK421 := m0 hbox; have GE421 := gw w hg; replace HB := sb HB hb; clear hb hbox hg; obtain ⟨_, _, _, _⟩ := b2 BK421) | (go_at_call 104; (with_reducible refine (Bs_Gcd.calls k a0_0 a0_1 t422 _ A3.out).mono ?_); rintro e w6 ⟨rfl, hb⟩; replace BK421 := bb BK421 hb; replace HB := sb HB hb; (try clear hb)))
  go_ret
  exact ez
 ·rw [if_neg c2] at H
  have c2b0 := decide_eq_false c2
  clear c2
  obtain rfl := Option.some.inj H
  go_enter Tryd.func35, Tryd.ntmps35
  go_wp2_with (first | ((with_reducible refine gate_dst (N := 1) rfl ?_); refine be 1 26 #[.int .i64 a0_0, .int .i64 a0_1] ?_; intro gb421 hg w7 hbox hb; have BK421 := m0 hbox; have GE421 := gw w hg; replace HB := sb HB hb; clear hb hbox hg; obtain ⟨_, _, _, _⟩ := b2 BK421))
  go_ret
  exact ez
end
section
def Bs_IsSmall.f (a0_0 : Int) (a0_1 : Int) : Option (Bool) := (Bs_Within.f a0_0 (-1000000000) 1000000000).bind fun t424 => (if t424 = true then ((Bs_Within.f a0_1 1 1000000000).bind fun t425 => (some t425)) else (some false))
theorem Bs_IsSmall.calls (a0_0 : Int) (a0_1 : Int) (r : Bool) (w : World) (h : Bs_IsSmall.f a0_0 a0_1 = some r) :
  Calls Tryd.prog 36 #[.agg #[.int .i64 a0_0, .int .i64 a0_1]] w fun e w' => e = .returned (.bool r) ∧ Below w.heap.size w w' := by
 have hu26 := Tryd.underlying26
 have HB := m0 (Below.refl w.heap.size w)
 have H : ((Bs_Within.f a0_0 (-1000000000) 1000000000).bind fun t424 => (if t424 = true then ((Bs_Within.f a0_1 1 1000000000).bind fun t425 => (some t425)) else (some false))) = some r := h
 clear h
 replace H := ob H
 obtain ⟨t424, A2, H⟩ := H
 (try dsimp only at H)
 replace A2 := m0 A2
 by_cases c3 : t424 = true
 ·subst c3
  rw [if_pos rfl] at H
  replace H := ob H
  obtain ⟨t425, A4, H⟩ := H
  (try dsimp only at H)
  replace A4 := m0 A4
  obtain rfl := Option.some.inj H
  go_enter Tryd.func36, Tryd.ntmps36
  go_wp2_with (first | ((with_reducible refine gate_dst (N := 1) rfl ?_); refine be 1 26 #[.int .i64 a0_0, .int .i64 a0_1] ?_; intro gb423 hg w5 hbox hb; have BK423 := m0 hbox; have GE423 := gw w hg; replace HB := sb HB hb; clear hb hbox hg; obtain ⟨_, _, _, _⟩ := b2 BK423) | ((with_reducible refine gate_callee (f := 31) rfl ?_); refine gl (some 5) Tryd.func31 #[.int .i64 a0_0, .int .i64 (-1000000000), .int .i64 1000000000] ?_; (with_reducible refine (Bs_Within.calls a0_0 (-1000000000) 1000000000 true _ A2.out).mono ?_); rintro e w' ⟨rfl, ⟨nd, rfl⟩⟩; refine ⟨_, rfl, ?_⟩) | (go_at_call 31; (with_reducible refine (Bs_Within.calls a0_1 1 1000000000 t425 _ A4.out).mono ?_); rintro e w' ⟨rfl, ⟨nd, rfl⟩⟩))
  go_ret
  exact ez
 ·replace c3 := Bool.eq_false_iff.mpr c3
  subst c3
  rw [if_neg (show ¬ (false = true) by decide)] at H
  obtain rfl := Option.some.inj H
  go_enter Tryd.func36, Tryd.ntmps36
  go_wp2_with (first | ((with_reducible refine gate_dst (N := 1) rfl ?_); refine be 1 26 #[.int .i64 a0_0, .int .i64 a0_1] ?_; intro gb423 hg w7 hbox hb; have BK423 := m0 hbox; have GE423 := gw w hg; replace HB := sb HB hb; clear hb hbox hg; obtain ⟨_, _, _, _⟩ := b2 BK423) | ((with_reducible refine gate_callee (f := 31) rfl ?_); refine gl (some 5) Tryd.func31 #[.int .i64 a0_0, .int .i64 (-1000000000), .int .i64 1000000000] ?_; (with_reducible refine (Bs_Within.calls a0_0 (-1000000000) 1000000000 false _ A2.out).mono ?_); rintro e w' ⟨rfl, ⟨nd, rfl⟩⟩; refine ⟨_, rfl, ?_⟩))
  go_ret
  exact ez
end
section
def Rf_FracErr.f (k : Nat) (a0_0 : Int) (a0_1 : Int) : Option (Int) := (Bs_IsLowest.f k a0_0 a0_1).bind fun t427 => (if t427 = true then ((Bs_IsSmall.f a0_0 a0_1).bind fun t428 => (if t428 = true then (some 0) else (some 2))) else (some 3))
theorem Rf_FracErr.mono : ∀ a0 a1 k, LeO (Rf_FracErr.f k a0 a1) (Rf_FracErr.f (k + 1) a0 a1) := by
 intro a0 a1 k
 unfold Rf_FracErr.f
 repeat' with_reducible first
  | exact Bs_IsLowest.mono ..
  | exact LeO.refl ..
  | exact LeO.none ..
  | refine LeO.ite ?_ ?_
  | refine LeO.bind ?_ (fun _ => ?_)
theorem Rf_FracErr.calls (k : Nat) (a0_0 : Int) (a0_1 : Int) (r : Int) (w : World) (h : Rf_FracErr.f k a0_0 a0_1 = some r) :
  Calls Tryd.prog 112 #[.agg #[.int .i64 a0_0, .int .i64 a0_1]] w fun e w' => e = .returned (.int .i64 r) ∧ Below w.heap.size w w' := by
 have hu26 := Tryd.underlying26
 have HB := m0 (Below.refl w.heap.size w)
 have H : ((Bs_IsLowest.f k a0_0 a0_1).bind fun t427 => (if t427 = true then ((Bs_IsSmall.f a0_0 a0_1).bind fun t428 => (if t428 = true then (some 0) else (some 2))) else (some 3))) = some r := h
 clear h
 replace H := ob H
 obtain ⟨t427, A2, H⟩ := H
 (try dsimp only at H)
 replace A2 := m0 A2
 by_cases c3 : t427 = true
 ·subst c3
  rw [if_pos rfl] at H
  replace H := ob H
  obtain ⟨t428, A4, H⟩ := H
  (try dsimp only at H)
  replace A4 := m0 A4
  by_cases c5 : t428 = true
  ·subst c5
   rw [if_pos rfl] at H
   obtain rfl := Option.some.inj H
   go_enter Tryd.func112, Tryd.ntmps112
   go_wp2_with (first | ((with_reducible refine gate_dst (N := 1) rfl ?_); refine be 1 26 #[.int .i64 a0_0, .int .i64 a0_1] ?_; intro gb426 hg w6 hbox hb; have BK426 := m0 hbox; have GE426 := gw w hg; replace HB := sb HB hb; clear hb hbox hg; obtain ⟨_, _, _, _⟩ := b2 BK426) | ((with_reducible refine gate_callee (f := 35) rfl ?_); refine gl (some 4) Tryd.func35 #[.agg #[.int .i64 a0_0, .int .i64 a0_1]] ?_; (with_reducible refine (Bs_IsLowest.calls k a0_0 a0_1 true _ A2.out).mono ?_); rintro e w8 ⟨rfl, hb⟩; refine ⟨_, rfl, ?_⟩; replace BK426 := bb BK426 hb; replace HB := sb HB hb; (try clear hb); obtain ⟨_, _, _, _⟩ := b2 BK426) | ((with_reducible refine gate_callee (f := 36) rfl ?_); refine gl (some 7) Tryd.func36 #[.agg #[.int .i64 a0_0, .int .i64 a0_1]] ?_; (with_reducible refine (Bs_IsSmall.calls a0_0 a0_1 true _ A4.out).mono ?_); rintro e w10 ⟨rfl, hb⟩; refine ⟨_, rfl, ?_⟩; replace BK426 := bb BK426 hb; replace HB := sb HB hb; (try clear hb)))
   go_ret
   exact ez
  ·replace c5 := Bool.eq_false_iff.mpr c5
   subst c5
   rw [if_neg (show ¬ (false = true) by decide)] at H
   obtain rfl := Option.some.inj H
   go_enter Tryd.func112, Tryd.ntmps112
   go_wp2_with (first | ((with_reducible refine gate_dst (N := 1) rfl ?_); refine be 1 26 #[.int .i64 a0_0, .int .i64 a0_1] ?_; intro gb426 hg w11 hbox hb; have BK426 := m0 hbox; have GE426 := gw w hg; replace HB := sb HB hb; clear hb hbox hg; obtain ⟨_, _, _, _⟩ := b2 BK426) | ((with_reducible refine gate_callee (f := 35) rfl ?_); refine gl (some 4) Tryd.func35 #[.agg #[.int .i64 a0_0, .int .i64 a0_1]] ?_; (with_reducible refine (Bs_IsLowest.calls k a0_0 a0_1 true _ A2.out).mono ?_); rintro e w13 ⟨rfl, hb⟩; refine ⟨_, rfl, ?_⟩; replace BK426 := bb BK426 hb; replace HB := sb HB hb; (try clear hb); obtain ⟨_, _, _, _⟩ := b2 BK426) | ((with_reducible refine gate_callee (f := 36) rfl ?_); refine gl (some 7) Tryd.func36 #[.agg #[.int .i64 a0_0, .int .i64 a0_1]] ?_; (with_reducible refine (Bs_IsSmall.calls a0_0 a0_1 false _ A4.out).mono ?_); rintro e w15 ⟨rfl, hb⟩; refine ⟨_, rfl, ?_⟩; replace BK426 := bb BK426 hb; replace HB := sb HB hb; (try clear hb)))
   go_ret
   exact ez
 ·replace c3 := Bool.eq_false_iff.mpr c3
  subst c3
  rw [if_neg (show ¬ (false = true) by decide)] at H
  obtain rfl := Option.some.inj H
  go_enter Tryd.func112, Tryd.ntmps112
  go_wp2_with (first | ((with_reducible refine gate_dst (N := 1) rfl ?_); refine be 1 26 #[.int .i64 a0_0, .int .i64 a0_1] ?_; intro gb426 hg w16 hbox hb; have BK426 := m0 hbox; have GE426 := gw w hg; replace HB := sb HB hb; clear hb hbox hg; obtain ⟨_, _, _, _⟩ := b2 BK426) | ((with_reducible refine gate_callee (f := 35) rfl ?_); refine gl (some 4) Tryd.func35 #[.agg #[.int .i64 a0_0, .int .i64 a0_1]] ?_; (with_reducible refine (Bs_IsLowest.calls k a0_0 a0_1 false _ A2.out).mono ?_); rintro e w18 ⟨rfl, hb⟩; refine ⟨_, rfl, ?_⟩; replace BK426 := bb BK426 hb; replace HB := sb HB hb; (try clear hb)))
  go_ret
  exact ez
end
section
def Rf_ScaleErr.f (k : Nat) (a0_0 : Int) (a0_1 : Int) (a1_0 : Int) (a1_1 : Int) (a1_2 : Int) : Option (Int) := (Rf_FracErr.f k a0_0 a0_1).bind fun t431 => (if t431 = 0 then ((Bs_Within.f a1_0 0 15).bind fun t432 => (if t432 = true then ((Bs_Within.f a1_1 1 10000).bind fun t433 => (if t433 = true then ((Bs_Within.f a1_2 1 10000).bind fun t434 => (if t434 = true then (some 0) else (some 2))) else (some 2))) else (some 2))) else (some t431))
theorem Rf_ScaleErr.mono : ∀ a0 a1 a2 a3 a4 k, LeO (Rf_ScaleErr.f k a0 a1 a2 a3 a4) (Rf_ScaleErr.f (k + 1) a0 a1 a2 a3 a4) := by
 intro a0 a1 a2 a3 a4 k
 unfold Rf_ScaleErr.f
 repeat' with_reducible first
  | exact Rf_FracErr.mono ..
  | exact LeO.refl ..
  | exact LeO.none ..
  | refine LeO.ite ?_ ?_
  | refine LeO.bind ?_ (fun _ => ?_)
theorem Rf_ScaleErr.calls (k : Nat) (a0_0 : Int) (a0_1 : Int) (a1_0 : Int) (a1_1 : Int) (a1_2 : Int) (r : Int) (w : World) (h : Rf_ScaleErr.f k a0_0 a0_1 a1_0 a1_1 a1_2 = some r) :
  Calls Tryd.prog 47 #[.agg #[.int .i64 a0_0, .int .i64 a0_1], .agg #[.int .i64 a1_0, .int .i64 a1_1, .int .i64 a1_2]] w fun e w' => e = .returned (.int .i64 r) ∧ Below w.heap.size w w' := by
 have hu26 := Tryd.underlying26
 have hu63 := Tryd.underlying63
 have HB := m0 (Below.refl w.heap.size w)
 have H : ((Rf_FracErr.f k a0_0 a0_1).bind fun t431 => (if t431 = 0 then ((Bs_Within.f a1_0 0 15).bind fun t432 => (if t432 = true then ((Bs_Within.f a1_1 1 10000).bind fun t433 => (if t433 = true then ((Bs_Within.f a1_2 1 10000).bind fun t434 => (if t434 = true then (some 0) else (some 2))) else (some 2))) else (some 2))) else (some t431))) = some r := h
 clear h
 replace H := ob H
 obtain ⟨t431, A3, H⟩ := H
 (try dsimp only at H)
 replace A3 := m0 A3
 by_cases c4 : t431 = 0
 ·rw [if_pos c4] at H
  have c4b0 := beq_iff_eq.mpr c4
  have c4b1 := bne_eq_false_iff_eq.mpr c4
  clear c4
  replace H := ob H
  obtain ⟨t432, A5, H⟩ := H
  (try dsimp only at H)
  replace A5 := m0 A5
  by_cases c6 : t432 = true
  ·subst c6
   rw [if_pos rfl] at H
   replace H := ob H
   obtain ⟨t433, A7, H⟩ := H
   (try dsimp only at H)
   replace A7 := m0 A7
   by_cases c8 : t433 = true
   ·subst c8
    rw [if_pos rfl] at H
    replace H := ob H
    obtain ⟨t434, A9, H⟩ := H
    (try dsimp only at H)
    replace A9 := m0 A9
    by_cases c10 : t434 = true
    ·subst c10
     rw [if_pos rfl] at H
     obtain rfl := Option.some.inj H
     go_enter Tryd.func47, Tryd.ntmps47
     go_wp2_with (first | ((with_reducible refine gate_dst (N := 2) rfl ?_); refine be 2 26 #[.int .i64 a0_0, .int .i64 a0_1] ?_; intro gb429 hg w11 hbox hb; have BK429 := m0 hbox; have GE429 := gw w hg; replace HB := sb HB hb; clear hb hbox hg) | ((with_reducible refine gate_dst (N := 3) rfl ?_); refine be 3 63 #[.int .i64 a1_0, .int .i64 a1_1, .int .i64 a1_2] ?_; intro gb430 hg w12 hbox hb; have BK430 := m0 hbox; have GE430 := gw w hg; replace HB := sb HB hb; have NB429_430 := nl BK429 hg; have NB430_429 := ng (nl BK429 hg); replace BK429 := bb BK429 hb; clear hb hbox hg; have hnb13 := NB429_430.out; have hnc13 := NB430_429.out; obtain ⟨_, _, _, _⟩ := b2 BK429) | ((with_reducible refine gate_callee (f := 112) rfl ?_); refine gl (some 7) Tryd.func112 #[.agg #[.int .i64 a0_0, .int .i64 a0_1]] ?_; (with_reducible refine (Rf_FracErr.calls k a0_0 a0_1 t431 _ A3.out).mono ?_); rintro e w15 ⟨rfl, hb⟩; refine ⟨_, rfl, ?_⟩; replace BK429 := bb BK429 hb; replace BK430 := bb BK430 hb; replace HB := sb HB hb; (try clear hb); obtain ⟨_, _, _, _, _, _⟩ := b3 BK430) | ((with_reducible refine gate_callee (f := 31) rfl ?_); refine gl (some 13) Tryd.func31 #[.int .i64 a1_0, .int .i64 0, .int .i64 15] ?_; (with_reducible refine (Bs_Within.calls a1_0 0 15 true _ A5.out).mono ?_); rintro e w' ⟨rfl, ⟨nd, rfl⟩⟩; refine ⟨_, rfl, ?_⟩) | (go_at_call 31; (with_reducible refine (Bs_Within.calls a1_1 1 10000 true _ A7.out).mono ?_); rintro e w' ⟨rfl, ⟨nd, rfl⟩⟩) | (go_at_call 31; (with_reducible refine (Bs_Within.calls a1_2 1 10000 true _ A9.out).mono ?_); rintro e w' ⟨rfl, ⟨nd, rfl⟩⟩))
     go_ret
     exact ez
    ·replace c10 := Bool.eq_false_iff.mpr c10
     subst c10
     rw [if_neg (show ¬ (false = true) by decide)] at H
     obtain rfl := Option.some.inj H
     go_enter Tryd.func47, Tryd.ntmps47
     go_wp2_with (first | ((with_reducible refine gate_dst (N := 2) rfl ?_); refine be 2 26 #[.int .i64 a0_0, .int .i64 a0_1] ?_; intro gb429 hg w17 hbox hb; have BK429 := m0 hbox; have GE429 := gw w hg; replace HB := sb HB hb; clear hb hbox hg) | ((with_reducible refine gate_dst (N := 3) rfl ?_); refine be 3 63 #[.int .i64 a1_0, .int .i64 a1_1, .int .i64 a1_2] ?_; intro gb430 hg w18 hbox hb; have BK430 := m0 hbox; have GE430 := gw w hg; replace HB := sb HB hb; have NB429_430 := nl BK429 hg; have NB430_429 := ng (nl BK429 hg); replace BK429 := bb BK429 hb; clear hb hbox hg; have hnb19 := NB429_430.out; have hnc19 := NB430_429.out; obtain ⟨_, _, _, _⟩ := b2 BK429) | ((with_reducible refine gate_callee (f := 112) rfl ?_); refine gl (some 7) Tryd.func112 #[.agg #[.int .i64 a0_0, .int .i64 a0_1]] ?_; (with_reducible refine (Rf_FracErr.calls k a0_0 a0_1 t431 _ A3.out).mono ?_); rintro e w21 ⟨rfl, hb⟩; refine ⟨_, rfl, ?_⟩; replace BK429 := bb BK429 hb; replace BK430 := bb BK430 hb; replace HB := sb HB hb; (try clear hb); obtain ⟨_, _, _, _, _, _⟩ := b3 BK430) | ((with_reducible refine gate_callee (f := 31) rfl ?_); refine gl (some 13) Tryd.func31 #[.int .i64 a1_0, .int .i64 0, .int .i64 15] ?_; (with_reducible refine (Bs_Within.calls a1_0 0 15 true _ A5.out).mono ?_); rintro e w' ⟨rfl, ⟨nd, rfl⟩⟩; refine ⟨_, rfl, ?_⟩) | (go_at_call 31; (with_reducible refine (Bs_Within.calls a1_1 1 10000 true _ A7.out).mono ?_); rintro e w' ⟨rfl, ⟨nd, rfl⟩⟩) | (go_at_call 31; (with_reducible refine (Bs_Within.calls a1_2 1 10000 false _ A9.out).mono ?_); rintro e w' ⟨rfl, ⟨nd, rfl⟩⟩))
     go_ret
     exact ez
   ·replace c8 := Bool.eq_false_iff.mpr c8
    subst c8
    rw [if_neg (show ¬ (false = true) by decide)] at H
    obtain rfl := Option.some.inj H
    go_enter Tryd.func47, Tryd.ntmps47
    go_wp2_with (first | ((with_reducible refine gate_dst (N := 2) rfl ?_); refine be 2 26 #[.int .i64 a0_0, .int .i64 a0_1] ?_; intro gb429 hg w23 hbox hb; have BK429 := m0 hbox; have GE429 := gw w hg; replace HB := sb HB hb; clear hb hbox hg) | ((with_reducible refine gate_dst (N := 3) rfl ?_); refine be 3 63 #[.int .i64 a1_0, .int .i64 a1_1, .int .i64 a1_2] ?_; intro gb430 hg w24 hbox hb; have BK430 := m0 hbox; have GE430 := gw w hg; replace HB := sb HB hb; have NB429_430 := nl BK429 hg; have NB430_429 := ng (nl BK429 hg); replace BK429 := bb BK429 hb; clear hb hbox hg; have hnb25 := NB429_430.out; have hnc25 := NB430_429.out; obtain ⟨_, _, _, _⟩ := b2 BK429) | ((with_reducible refine gate_callee (f := 112) rfl ?_); refine gl (some 7) Tryd.func112 #[.agg #[.int .i64 a0_0, .int .i64 a0_1]] ?_; (with_reducible refine (Rf_FracErr.calls k a0_0 a0_1 t431 _ A3.out).mono ?_); rintro e w27 ⟨rfl, hb⟩; refine ⟨_, rfl, ?_⟩; replace BK429 := bb BK429 hb; replace BK430 := bb BK430 hb; replace HB := sb HB hb; (try clear hb); obtain ⟨_, _, _, _, _, _⟩ := b3 BK430) | ((with_reducible refine gate_callee (f := 31) rfl ?_); refine gl (some 13) Tryd.func31 #[.int .i64 a1_0, .int .i64 0, .int .i64 15] ?_; (with_reducible refine (Bs_Within.calls a1_0 0 15 true _ A5.out).mono ?_); rintro e w' ⟨rfl, ⟨nd, rfl⟩⟩; refine ⟨_, rfl, ?_⟩) | (go_at_call 31; (with_reducible refine (Bs_Within.calls a1_1 1 10000 false _ A7.out).mono ?_); rintro e w' ⟨rfl, ⟨nd, rfl⟩⟩))
    go_ret
    exact ez
  ·replace c6 := Bool.eq_false_iff.mpr c6
   subst c6
   rw [if_neg (show ¬ (false = true) by decide)] at H
   obtain rfl := Option.some.inj H
   go_enter Tryd.func47, Tryd.ntmps47
   go_wp2_with (first | ((with_reducible refine gate_dst (N := 2) rfl ?_); refine be 2 26 #[.int .i64 a0_0, .int .i64 a0_1] ?_; intro gb429 hg w29 hbox hb; have BK429 := m0 hbox; have GE429 := gw w hg; replace HB := sb HB hb; clear hb hbox hg) | ((with_reducible refine gate_dst (N := 3) rfl ?_); refine be 3 63 #[.int .i64 a1_0, .int .i64 a1_1, .int .i64 a1_2] ?_; intro gb430 hg w30 hbox hb; have BK430 := m0 hbox; have GE430 := gw w hg; replace HB := sb HB hb; have NB429_430 := nl BK429 hg; have NB430_429 := ng (nl BK429 hg); replace BK429 := bb BK429 hb; clear hb hbox hg; have hnb31 := NB429_430.out; have hnc31 := NB430_429.out; obtain ⟨_, _, _, _⟩ := b2 BK429) | ((with_reducible refine gate_callee (f := 112) rfl ?_); refine gl (some 7) Tryd.func112 #[.agg #[.int .i64 a0_0, .int .i64 a0_1]] ?_; (with_reducible refine (Rf_FracErr.calls k a0_0 a0_1 t431 _ A3.out).mono ?_); rintro e w33 ⟨rfl, hb⟩; refine ⟨_, rfl, ?_⟩; replace BK429 := bb BK429 hb; replace BK430 := bb BK430 hb; replace HB := sb HB hb; (try clear hb); obtain ⟨_, _, _, _, _, _⟩ := b3 BK430) | ((with_reducible refine gate_callee (f := 31) rfl ?_); refine gl (some 13) Tryd.func31 #[.int .i64 a1_0, .int .i64 0, .int .i64 15] ?_; (with_reducible refine (Bs_Within.calls a1_0 0 15 false _ A5.out).mono ?_); rintro e w' ⟨rfl, ⟨nd, rfl⟩⟩; refine ⟨_, rfl, ?_⟩))
   go_ret
   exact ez
 ·rw [if_neg c4] at H
  have c4b0 := beq_eq_false_iff_ne.mpr c4
  have c4b1 := bne_iff_ne.mpr c4
  obtain rfl := Option.some.inj H
  go_enter Tryd.func47, Tryd.ntmps47
  go_wp2_with (first | ((with_reducible refine gate_dst (N := 2) rfl ?_); refine be 2 26 #[.int .i64 a0_0, .int .i64 a0_1] ?_; intro gb429 hg w35 hbox hb; have BK429 := m0 hbox; have GE429 := gw w hg; replace HB := sb HB hb; clear hb hbox hg) | ((with_reducible refine gate_dst (N := 3) rfl ?_); refine be 3 63 #[.int .i64 a1_0, .int .i64 a1_1, .int .i64 a1_2] ?_; intro gb430 hg w36 hbox hb; have BK430 := m0 hbox; have GE430 := gw w hg; replace HB := sb HB hb; have NB429_430 := nl BK429 hg; have NB430_429 := ng (nl BK429 hg); replace BK429 := bb BK429 hb; clear hb hbox hg; have hnb37 := NB429_430.out; have hnc37 := NB430_429.out; obtain ⟨_, _, _, _⟩ := b2 BK429) | ((with_reducible refine gate_callee (f := 112) rfl ?_); refine gl (some 7) Tryd.func112 #[.agg #[.int .i64 a0_0, .int .i64 a0_1]] ?_; (with_reducible refine (Rf_FracErr.calls k a0_0 a0_1 t431 _ A3.out).mono ?_); rintro e w39 ⟨rfl, hb⟩; refine ⟨_, rfl, ?_⟩; replace BK429 := bb BK429 hb; replace BK430 := bb BK430 hb; replace HB := sb HB hb; (try clear hb)))
  go_ret
  exact ez
end
section
def Bs_WideInt.l0 : Nat → Int → Int → Int → List Int → Option (Int × Bool)
 | 0, _, _, _, _ => none
 | k + 1, x4, x5, x436000, x436001 => if x5 ≥ 0 then (if 0 ≤ x5 then (if x5 < (x436001.length : Int) then (Bs_WideInt.l0 k (wrap64 ((wrap64 (x4 * 1000000000)) + (rd x436001 x5))) (wrap64 (x5 - 1)) x436000 x436001) else (none)) else (none)) else (some (wrap64 (x436000 * x4), true))
def Bs_WideInt.f (k : Nat) (a0_0 : Int) (l0_1 : List Int) : Option (Int × Bool) := if (l0_1.length : Int) > 2 then (some (0, false)) else (Bs_WideInt.l0 k 0 (wrap64 ((l0_1.length : Int) - 1)) a0_0 l0_1)
theorem Bs_WideInt.mono_l : ∀ k, (∀ y0 y1 y2 y3, LeO (Bs_WideInt.l0 k y0 y1 y2 y3) (Bs_WideInt.l0 (k + 1) y0 y1 y2 y3))
 | 0 => fun _ _ _ _ r h => by simp [Bs_WideInt.l0] at h
 | k + 1 => by
  have ih0 := Bs_WideInt.mono_l k
  ·intro y0 y1 y2 y3
   unfold Bs_WideInt.l0
   repeat' with_reducible first
    | exact ih0 ..
    | exact LeO.refl ..
    | exact LeO.none ..
    | refine LeO.ite ?_ ?_
    | refine LeO.bind ?_ (fun _ => ?_)
theorem Bs_WideInt.mono : ∀ a0 a1 k, LeO (Bs_WideInt.f k a0 a1) (Bs_WideInt.f (k + 1) a0 a1) := by
 intro a0 a1 k
 have ih0 := Bs_WideInt.mono_l k
 unfold Bs_WideInt.f
 repeat' with_reducible first
  | exact ih0 ..
  | exact LeO.refl ..
  | exact LeO.none ..
  | refine LeO.ite ?_ ?_
  | refine LeO.bind ?_ (fun _ => ?_)
theorem Bs_WideInt.calls (k : Nat) (a0_0 : Int) (A0_1 : Option Addr) (c0_1 : Nat) (l0_1 : List Int) (r1 : Int) (r2 : Bool) (w : World) (hr0_1 : Kd.C (Kd.int .i64) w A0_1 l0_1.length l0_1) (hc0_1 : l0_1.length ≤ c0_1) (h : Bs_WideInt.f k a0_0 l0_1 = some (r1, r2)) :
  Calls Tryd.prog 135 #[.agg #[.int .i64 a0_0, .slice A0_1 l0_1.length c0_1]] w fun e w' => e = .returned (.tuple #[.int .i64 r1, .bool r2]) ∧ Below w.heap.size w w' := by
 have hu135 := Tryd.underlying135
 have HR0_1 := m0 hr0_1
 have HC0_1 := m0 hc0_1
 clear hr0_1 hc0_1
 have HB := m0 (Below.refl w.heap.size w)
 have H : (if (l0_1.length : Int) > 2 then (some (0, false)) else (Bs_WideInt.l0 k 0 (wrap64 ((l0_1.length : Int) - 1)) a0_0 l0_1)) = some (r1, r2) := h
 clear h
 by_cases c2 : (l0_1.length : Int) > 2
 ·rw [if_pos c2] at H
  have c2b0 := decide_eq_true c2
  have c2b1 : decide (2 < l0_1.length) = true := decide_eq_true (by omega)
  clear c2
  simp only [Option.some.injEq, Prod.mk.injEq] at H
  obtain ⟨rfl, rfl⟩ := H
  go_enter Tryd.func135, Tryd.ntmps135
  go_wp2_with (first | ((with_reducible refine gate_dst (N := 1) rfl ?_); refine be 1 135 #[.int .i64 a0_0, .slice A0_1 l0_1.length c0_1] ?_; intro gb435 hg w3 hbox hb; have BK435 := m0 hbox; have GE435 := gw w hg; replace HB := sb HB hb; clear hb hbox hg; obtain ⟨hcz4_0, hcz4_1, hfz4_0, hfz4_1⟩ := b2 BK435))
  go_ret2
  exact ez
 ·rw [if_neg c2] at H
  have c2b0 := decide_eq_false c2
  have c2b1 : decide (2 < l0_1.length) = false := decide_eq_false (by omega)
  clear c2
  have H' := m0 H
  clear H
  go_enter Tryd.func135, Tryd.ntmps135
  go_wp2_with (first | ((with_reducible refine gate_dst (N := 1) rfl ?_); refine be 1 135 #[.int .i64 a0_0, .slice A0_1 l0_1.length c0_1] ?_; intro gb435 hg w5 hbox hb; have BK435 := m0 hbox; have GE435 := gw w hg; replace HB := sb HB hb; clear hb hbox hg; obtain ⟨hcz6_0, hcz6_1, hfz6_0, hfz6_1⟩ := b2 BK435))
  go_loopg [4, 5] k (fun kq v4 v5 w' => ∃ (x4_1 : Int) (x5_1 : Int), v4 = .int .i64 x4_1 ∧ v5 = .int .i64 x5_1 ∧ Aside0 (Bs_WideInt.l0 kq x4_1 x5_1 a0_0 l0_1 = some (r1, r2)) ∧ Aside0 (kq ≤ k) ∧ Aside0 (w'.heap[gb435]? = some (.cells #[.int .i64 a0_0, (.slice A0_1 l0_1.length c0_1)] 135 (0, 0))) ∧ Aside0 (Below w.heap.size w w'))
  case atStart => exact ⟨(0), (wrap64 ((l0_1.length : Int) - 1)), (by first | rfl | (simp; done) | (simp [*]; done)), (by first | rfl | (simp; done) | (simp [*]; done)), H', ⟨Nat.le_refl _⟩, ⟨bk BK435.out⟩, ⟨bz⟩⟩
  case round =>
   clear H'
   try clear hcz4_0
   try clear hcz4_1
   try clear hcz6_0
   try clear hcz6_1
   try clear hfz4_0
   try clear hfz4_1
   try clear hfz6_0
   try clear hfz6_1
   obtain ⟨x4_1, x5_1, rfl, rfl, HA, HK1, BK435, HB⟩ := hrel
   cases gk with
   | zero => exact absurd HA.out (by simp [Bs_WideInt.l0])
   | succ k1 =>
    have H := HA.out
    clear HA
    simp only [Bs_WideInt.l0] at H
    by_cases c7 : x5_1 ≥ 0
    ·rw [if_pos c7] at H
     have c7b0 := decide_eq_true c7
     clear c7
     by_cases c8 : 0 ≤ x5_1
     ·rw [if_pos c8] at H
      have c8b0 := decide_eq_true c8
      clear c8
      by_cases c9 : x5_1 < (l0_1.length : Int)
      ·rw [if_pos c9] at H
       have c9b0 := decide_eq_true c9
       clear c9
       have H' := m0 H
       clear H
       obtain ⟨_, _, _, _⟩ := b2 BK435
       have p436 : 0 ≤ (x5_1 : Int) := od
       have q436 : x5_1 < (l0_1.length : Int) := od
       obtain ⟨ad436, e436, hx436_0⟩ := Kd.at_int HR0_1.out x5_1 p436 q436
       cases e436
       replace hx436_0 := (HB.out.cell (World.block_lt_of_cell? w _ hx436_0)).trans hx436_0
       replace p436 := eq_true p436
       replace q436 := eq_true q436
       go_wp2
       go_roundg k1
       case measure => have := HK1.out; omega
       case rel => exact ⟨(wrap64 ((wrap64 (x4_1 * 1000000000)) + (rd l0_1 x5_1))), (wrap64 (x5_1 - 1)), (by first | rfl | (simp; done) | (simp [*]; done)), (by first | rfl | (simp; done) | (simp [*]; done)), H', ⟨by have := HK1.out; omega⟩, ⟨bk BK435.out⟩, ⟨bz⟩⟩
      ·rw [if_neg c9] at H
       exact absurd H (by simp)
     ·rw [if_neg c8] at H
      exact absurd H (by simp)
    ·rw [if_neg c7] at H
     have c7b0 := decide_eq_false c7
     clear c7
     simp only [Option.some.injEq, Prod.mk.injEq] at H
     obtain ⟨rfl, rfl⟩ := H
     obtain ⟨_, _, _, _⟩ := b2 BK435
     go_wp2
     go_ret2
     exact ez
end
section
def Bs_RatioFrac.f (k : Nat) (a0_0 : Int) (l0_1 : List Int) (a0_2 : Int) (l0_3 : List Int) : Option (Int × Int × Bool) := (Bs_WideInt.f k a0_0 l0_1).bind fun bt439 => ((Bs_WideInt.f k a0_2 l0_3).bind fun bt441 => (if bt439.2 = true then (if bt441.2 = true then ((Bs_IsSmall.f bt439.1 bt441.1).bind fun t444 => (if t444 = true then (some (bt439.1, bt441.1, true)) else (some (0, 0, false)))) else (some (0, 0, false))) else (some (0, 0, false))))
theorem Bs_RatioFrac.mono : ∀ a0 a1 a2 a3 k, LeO (Bs_RatioFrac.f k a0 a1 a2 a3) (Bs_RatioFrac.f (k + 1) a0 a1 a2 a3) := by
 intro a0 a1 a2 a3 k
 unfold Bs_RatioFrac.f
 repeat' with_reducible first
  | exact Bs_WideInt.mono ..
  | exact LeO.refl ..
  | exact LeO.none ..
  | refine LeO.ite ?_ ?_
  | refine LeO.bind ?_ (fun _ => ?_)
theorem Bs_RatioFrac.calls (k : Nat) (a0_0 : Int) (A0_1 : Option Addr) (c0_1 : Nat) (l0_1 : List Int) (a0_2 : Int) (A0_3 : Option Addr) (c0_3 : Nat) (l0_3 : List Int) (r1 : Int) (r2 : Int) (r3 : Bool) (w : World) (hr0_1 : Kd.C (Kd.int .i64) w A0_1 l0_1.length l0_1) (hc0_1 : l0_1.length ≤ c0_1) (hr0_3 : Kd.C (Kd.int .i64) w A0_3 l0_3.length l0_3) (hc0_3 : l0_3.length ≤ c0_3) (h : Bs_RatioFrac.f k a0_0 l0_1 a0_2 l0_3 = some (r1, r2, r3)) :
  Calls Tryd.prog 113 #[.agg #[.int .i64 a0_0, .slice A0_1 l0_1.length c0_1, .int .i64 a0_2, .slice A0_3 l0_3.length c0_3]] w fun e w' => e = .returned (.tuple #[.agg #[.int .i64 r1, .int .i64 r2], .bool r3]) ∧ Below w.heap.size w w' := by
 have hu137 := Tryd.underlying137
 have hu26 := Tryd.underlying26
 have hu135 := Tryd.underlying135
 have HR0_1 := m0 hr0_1
 have HC0_1 := m0 hc0_1
 clear hr0_1 hc0_1
 have HR0_3 := m0 hr0_3
 have HC0_3 := m0 hc0_3
 clear hr0_3 hc0_3
 have HB := m0 (Below.refl w.heap.size w)
 have H : ((Bs_WideInt.f k a0_0 l0_1).bind fun bt439 => ((Bs_WideInt.f k a0_2 l0_3).bind fun bt441 => (if bt439.2 = true then (if bt441.2 = true then ((Bs_IsSmall.f bt439.1 bt441.1).bind fun t444 => (if t444 = true then (some (bt439.1, bt441.1, true)) else (some (0, 0, false)))) else (some (0, 0, false))) else (some (0, 0, false))))) = some (r1, r2, r3) := h
 clear h
 replace H := ob H
 obtain ⟨⟨t439, t440⟩, A2, H⟩ := H
 (try dsimp only at H)
 replace A2 := m0 A2
 replace H := ob H
 obtain ⟨⟨t441, t442⟩, A3, H⟩ := H
 (try dsimp only at H)
 replace A3 := m0 A3
 by_cases c4 : t440 = true
 ·subst c4
  rw [if_pos rfl] at H
  by_cases c5 : t442 = true
  ·subst c5
   rw [if_pos rfl] at H
   replace H := ob H
   obtain ⟨t444, A6, H⟩ := H
   (try dsimp only at H)
   replace A6 := m0 A6
   by_cases c7 : t444 = true
   ·subst c7
    rw [if_pos rfl] at H
    simp only [Option.some.injEq, Prod.mk.injEq] at H
    obtain ⟨rfl, rfl, rfl⟩ := H
    go_enter Tryd.func113, Tryd.ntmps113
    go_wp2_with (first | ((with_reducible refine gate_dst (N := 1) rfl ?_); refine be 1 137 #[.int .i64 a0_0, .slice A0_1 l0_1.length c0_1, .int .i64 a0_2, .slice A0_3 l0_3.length c0_3] ?_; intro gb437 hg w8 hbox hb; have BK437 := m0 hbox; have GE437 := gw w hg; replace HB := sb HB hb; clear hb hbox hg) | ((with_reducible refine gate_dst (N := 2) rfl ?_); refine be 2 26 #[.int .i64 0, .int .i64 0] ?_; intro gb438 hg w9 hbox hb; have BK438 := m0 hbox; have GE438 := gw w hg; replace HB := sb HB hb; have NB437_438 := nl BK437 hg; have NB438_437 := ng (nl BK437 hg); replace BK437 := bb BK437 hb; clear hb hbox hg; have hnb10 := NB437_438.out; have hnc10 := NB438_437.out; obtain ⟨_, _, _, _, _, _, _, _⟩ := b4 BK437) | ((with_reducible refine gate_callee (f := 135) rfl ?_); refine gl (some 12) Tryd.func135 #[.agg #[.int .i64 a0_0, .slice A0_1 l0_1.length c0_1]] ?_; (with_reducible refine (Bs_WideInt.calls k a0_0 _ _ l0_1 t439 true _ ?side1 ?side2 A2.out).mono ?_); (case side1 => exact cb HR0_1 HB); (case side2 => exact HC0_1.out); rintro e w12 ⟨rfl, hb⟩; refine ⟨_, rfl, ?_⟩; replace BK437 := bb BK437 hb; replace BK438 := bb BK438 hb; replace HB := sb HB hb; (try clear hb); obtain ⟨_, _, _, _, _, _, _, _⟩ := b4 BK437) | ((with_reducible refine gate_callee (f := 135) rfl ?_); refine gl (some 18) Tryd.func135 #[.agg #[.int .i64 a0_2, .slice A0_3 l0_3.length c0_3]] ?_; (with_reducible refine (Bs_WideInt.calls k a0_2 _ _ l0_3 t441 true _ ?side1 ?side2 A3.out).mono ?_); (case side1 => exact cb HR0_3 HB); (case side2 => exact HC0_3.out); rintro e w14 ⟨rfl, hb⟩; refine ⟨_, rfl, ?_⟩; replace BK437 := bb BK437 hb; replace BK438 := bb BK438 hb; replace HB := sb HB hb; (try clear hb)) | ((with_reducible refine gate_dst (N := 8) rfl ?_); refine be 8 26 #[.int .i64 0, .int .i64 0] ?_; intro gb443 hg w15 hbox hb; have BK443 := m0 hbox; have GE443 := gw w hg; replace HB := sb HB hb; have NB437_443 := nl BK437 hg; have NB443_437 := ng (nl BK437 hg); replace BK437 := bb BK437 hb; have NB438_443 := nl BK438 hg; have NB443_438 := ng (nl BK438 hg); replace BK438 := bb BK438 hb; clear hb hbox hg; have hnb16 := NB443_437.out; have hnc16 := NB437_443.out; have hnb17 := NB443_438.out; have hnc17 := NB438_443.out; obtain ⟨_, _, _, _⟩ := b2 BK443) | (go_at_call 36; (with_reducible refine (Bs_IsSmall.calls t439 t441 true _ A6.out).mono ?_); rintro e w19 ⟨rfl, hb⟩; replace BK437 := m0 (blk_below (g := gb437) (o := .cells #[.int .i64 a0_0, .slice A0_1 l0_1.length c0_1, .int .i64 a0_2, .slice A0_3 l0_3.length c0_3] 137 (0, 0)) (bq BK437.out) hb); replace BK438 := m0 (blk_below (g := gb438) (o := .cells #[.int .i64 0, .int .i64 0] 26 (0, 0)) (bq BK438.out) hb); replace BK443 := m0 (blk_below (g := gb443) (o := .cells #[.int .i64 t439, .int .i64 t441] 26 (0, 0)) (bq BK443.out) hb); replace HB := sb HB hb; (try clear hb); obtain ⟨_, _, _, _⟩ := b2 BK443; obtain ⟨_, _, _, _⟩ := b2 BK438))
    refine bodyPost_ret (results_ct rfl _ _ gb438 26 #[.int .i64 t439, .int .i64 t441] (0, 0) _ rfl (bq BK438.out) Tryd.underlying26 rfl (by kernel_rfl)) rfl ?_
    exact ez
   ·replace c7 := Bool.eq_false_iff.mpr c7
    subst c7
    rw [if_neg (show ¬ (false = true) by decide)] at H
    simp only [Option.some.injEq, Prod.mk.injEq] at H
    obtain ⟨rfl, rfl, rfl⟩ := H
    go_enter Tryd.func113, Tryd.ntmps113
    go_wp2_with (first | ((with_reducible refine gate_dst (N := 1) rfl ?_); refine be 1 137 #[.int .i64 a0_0, .slice A0_1 l0_1.length c0_1, .int .i64 a0_2, .slice A0_3 l0_3.length c0_3] ?_; intro gb437 hg w22 hbox hb; have BK437 := m0 hbox; have GE437 := gw w hg; replace HB := sb HB hb; clear hb hbox hg) | ((with_reducible refine gate_dst (N := 2) rfl ?_); refine be 2 26 #[.int .i64 0, .int .i64 0] ?_; intro gb438 hg w23 hbox hb; have BK438 := m0 hbox; have GE438 := gw w hg; replace HB := sb HB hb; have NB437_438 := nl BK437 hg; have NB438_437 := ng (nl BK437 hg); replace BK437 := bb BK437 hb; clear hb hbox hg; have hnb24 := NB437_438.out; have hnc24 := NB438_437.out; obtain ⟨_, _, _, _, _, _, _, _⟩ := b4 BK437) | ((with_reducible refine gate_callee (f := 135) rfl ?_); refine gl (some 12) Tryd.func135 #[.agg #[.int .i64 a0_0, .slice A0_1 l0_1.length c0_1]] ?_; (with_reducible refine (Bs_WideInt.calls k a0_0 _ _ l0_1 t439 true _ ?side1 ?side2 A2.out).mono ?_); (case side1 => exact cb HR0_1 HB); (case side2 => exact HC0_1.out); rintro e w26 ⟨rfl, hb⟩; refine ⟨_, rfl, ?_⟩; replace BK437 := bb BK437 hb; replace BK438 := bb BK438 hb; replace HB := sb HB hb; (try clear hb); obtain ⟨_, _, _, _, _, _, _, _⟩ := b4 BK437) | ((with_reducible refine gate_callee (f := 135) rfl ?_); refine gl (some 18) Tryd.func135 #[.agg #[.int .i64 a0_2, .slice A0_3 l0_3.length c0_3]] ?_; (with_reducible refine (Bs_WideInt.calls k a0_2 _ _ l0_3 t441 true _ ?side1 ?side2 A3.out).mono ?_); (case side1 => exact cb HR0_3 HB); (case side2 => exact HC0_3.out); rintro e w28 ⟨rfl, hb⟩; refine ⟨_, rfl, ?_⟩; replace BK437 := bb BK437 hb; replace BK438 := bb BK438 hb; replace HB := sb HB hb; (try clear hb)) | ((with_reducible refine gate_dst (N := 8) rfl ?_); refine be 8 26 #[.int .i64 0, .int .i64 0] ?_; intro gb443 hg w29 hbox hb; have BK443 := m0 hbox; have GE443 := gw w hg; replace HB := sb HB hb; have NB437_443 := nl BK437 hg; have NB443_437 := ng (nl BK437 hg); replace BK437 := bb BK437 hb; have NB438_443 := nl BK438 hg; have NB443_438 := ng (nl BK438 hg); replace BK438 := bb BK438 hb; clear hb hbox hg; have hnb30 := NB443_437.out; have hnc30 := NB437_443.out; have hnb31 := NB443_438.out; have hnc31 := NB438_443.out; obtain ⟨_, _, _, _⟩ := b2 BK443) | (go_at_call 36; (with_reducible refine (Bs_IsSmall.calls t439 t441 false _ A6.out).mono ?_); rintro e w33 ⟨rfl, hb⟩; replace BK437 := m0 (blk_below (g := gb437) (o := .cells #[.int .i64 a0_0, .slice A0_1 l0_1.length c0_1, .int .i64 a0_2, .slice A0_3 l0_3.length c0_3] 137 (0, 0)) (bq BK437.out) hb); replace BK438 := m0 (blk_below (g := gb438) (o := .cells #[.int .i64 0, .int .i64 0] 26 (0, 0)) (bq BK438.out) hb); replace BK443 := m0 (blk_below (g := gb443) (o := .cells #[.int .i64 t439, .int .i64 t441] 26 (0, 0)) (bq BK443.out) hb); replace HB := sb HB hb; (try clear hb); obtain ⟨_, _, _, _⟩ := b2 BK438))
    refine bodyPost_ret (results_ct rfl _ _ gb438 26 #[.int .i64 0, .int .i64 0] (0, 0) _ rfl (bq BK438.out) Tryd.underlying26 rfl (by kernel_rfl)) rfl ?_
    exact ez
  ·replace c5 := Bool.eq_false_iff.mpr c5
   subst c5
   rw [if_neg (show ¬ (false = true) by decide)] at H
   simp only [Option.some.injEq, Prod.mk.injEq] at H
   obtain ⟨rfl, rfl, rfl⟩ := H
   go_enter Tryd.func113, Tryd.ntmps113
   go_wp2_with (first | ((with_reducible refine gate_dst (N := 1) rfl ?_); refine be 1 137 #[.int .i64 a0_0, .slice A0_1 l0_1.length c0_1, .int .i64 a0_2, .slice A0_3 l0_3.length c0_3] ?_; intro gb437 hg w35 hbox hb; have BK437 := m0 hbox; have GE437 := gw w hg; replace HB := sb HB hb; clear hb hbox hg) | ((with_reducible refine gate_dst (N := 2) rfl ?_); refine be 2 26 #[.int .i64 0, .int .i64 0] ?_; intro gb438 hg w36 hbox hb; have BK438 := m0 hbox; have GE438 := gw w hg; replace HB := sb HB hb; have NB437_438 := nl BK437 hg; have NB438_437 := ng (nl BK437 hg); replace BK437 := bb BK437 hb; clear hb hbox hg; have hnb37 := NB437_438.out; have hnc37 := NB438_437.out; obtain ⟨_, _, _, _, _, _, _, _⟩ := b4 BK437) | ((with_reducible refine gate_callee (f := 135) rfl ?_); refine gl (some 12) Tryd.func135 #[.agg #[.int .i64 a0_0, .slice A0_1 l0_1.length c0_1]] ?_; (with_reducible refine (Bs_WideInt.calls k a0_0 _ _ l0_1 t439 true _ ?side1 ?side2 A2.out).mono ?_); (case side1 => exact cb HR0_1 HB); (case side2 => exact HC0_1.out); rintro e w39 ⟨rfl, hb⟩; refine ⟨_, rfl, ?_⟩; replace BK437 := bb BK437 hb; replace BK438 := bb BK438 hb; replace HB := sb HB hb; (try clear hb); obtain ⟨_, _, _, _, _, _, _, _⟩ := b4 BK437) | ((with_reducible refine gate_callee (f := 135) rfl ?_); refine gl (some 18) Tryd.func135 #[.agg #[.int .i64 a0_2, .slice A0_3 l0_3.length c0_3]] ?_; (with_reducible refine (Bs_WideInt.calls k a0_2 _ _ l0_3 t441 false _ ?side1 ?side2 A3.out).mono ?_); (case side1 => exact cb HR0_3 HB); (case side2 => exact HC0_3.out); rintro e w41 ⟨rfl, hb⟩; refine ⟨_, rfl, ?_⟩; replace BK437 := bb BK437 hb; replace BK438 := bb BK438 hb; replace HB := sb HB hb; (try clear hb)) | ((with_reducible refine gate_dst (N := 8) rfl ?_); refine be 8 26 #[.int .i64 0, .int .i64 0] ?_; intro gb443 hg w42 hbox hb; have BK443 := m0 hbox; have GE443 := gw w hg; replace HB := sb HB hb; have NB437_443 := nl BK437 hg; have NB443_437 := ng (nl BK437 hg); replace BK437 := bb BK437 hb; have NB438_443 := nl BK438 hg; have NB443_438 := ng (nl BK438 hg); replace BK438 := bb BK438 hb; clear hb hbox hg; have hnb43 := NB443_437.out; have hnc43 := NB437_443.out; have hnb44 := NB443_438.out; have hnc44 := NB438_443.out; obtain ⟨_, _, _, _⟩ := b2 BK443; obtain ⟨_, _, _, _⟩ := b2 BK438))
   refine bodyPost_ret (results_ct rfl _ _ gb438 26 #[.int .i64 0, .int .i64 0] (0, 0) _ rfl (by (with_reducible repeat (first | refine blk_drewN ?_ _ | refine blk_drew ?_ | refine blk_alloc ?_ _)); refine blk_put (cs := #[.int .i64 0, .int .i64 0]) ?_ 1 _ rfl; (with_reducible repeat (first | refine blk_drewN ?_ _ | refine blk_drew ?_ | refine blk_alloc ?_ _)); refine blk_put (cs := #[.int .i64 0, .int .i64 0]) ?_ 0 _ rfl; (with_reducible repeat (first | refine blk_drewN ?_ _ | refine blk_drew ?_ | refine blk_alloc ?_ _)); refine blk_far ?_ NB438_443.out _; (with_reducible repeat (first | refine blk_drewN ?_ _ | refine blk_drew ?_ | refine blk_alloc ?_ _)); refine blk_far ?_ NB438_443.out _; (with_reducible repeat (first | refine blk_drewN ?_ _ | refine blk_drew ?_ | refine blk_alloc ?_ _)); exact BK438.out) Tryd.underlying26 rfl (by kernel_rfl)) rfl ?_
   exact ez
 ·replace c4 := Bool.eq_false_iff.mpr c4
  subst c4
  rw [if_neg (show ¬ (false = true) by decide)] at H
  simp only [Option.some.injEq, Prod.mk.injEq] at H
  obtain ⟨rfl, rfl, rfl⟩ := H
  go_enter Tryd.func113, Tryd.ntmps113
  go_wp2_with (first | ((with_reducible refine gate_dst (N := 1) rfl ?_); refine be 1 137 #[.int .i64 a0_0, .slice A0_1 l0_1.length c0_1, .int .i64 a0_2, .slice A0_3 l0_3.length c0_3] ?_; intro gb437 hg w47 hbox hb; have BK437 := m0 hbox; have GE437 := gw w hg; replace HB := sb HB hb; clear hb hbox hg) | ((with_reducible refine gate_dst (N := 2) rfl ?_); refine be 2 26 #[.int .i64 0, .int .i64 0] ?_; intro gb438 hg w48 hbox hb; have BK438 := m0 hbox; have GE438 := gw w hg; replace HB := sb HB hb; have NB437_438 := nl BK437 hg; have NB438_437 := ng (nl BK437 hg); replace BK437 := bb BK437 hb; clear hb hbox hg; have hnb49 := NB437_438.out; have hnc49 := NB438_437.out; obtain ⟨_, _, _, _, _, _, _, _⟩ := b4 BK437) | ((with_reducible refine gate_callee (f := 135) rfl ?_); refine gl (some 12) Tryd.func135 #[.agg #[.int .i64 a0_0, .slice A0_1 l0_1.length c0_1]] ?_; (with_reducible refine (Bs_WideInt.calls k a0_0 _ _ l0_1 t439 false _ ?side1 ?side2 A2.out).mono ?_); (case side1 => exact cb HR0_1 HB); (case side2 => exact HC0_1.out); rintro e w51 ⟨rfl, hb⟩; refine ⟨_, rfl, ?_⟩; replace BK437 := bb BK437 hb; replace BK438 := bb BK438 hb; replace HB := sb HB hb; (try clear hb); obtain ⟨_, _, _, _, _, _, _, _⟩ := b4 BK437) | ((with_reducible refine gate_callee (f := 135) rfl ?_); refine gl (some 18) Tryd.func135 #[.agg #[.int .i64 a0_2, .slice A0_3 l0_3.length c0_3]] ?_; (with_reducible refine (Bs_WideInt.calls k a0_2 _ _ l0_3 t441 t442 _ ?side1 ?side2 A3.out).mono ?_); (case side1 => exact cb HR0_3 HB); (case side2 => exact HC0_3.out); rintro e w53 ⟨rfl, hb⟩; refine ⟨_, rfl, ?_⟩; replace BK437 := bb BK437 hb; replace BK438 := bb BK438 hb; replace HB := sb HB hb; (try clear hb)) | ((with_reducible refine gate_dst (N := 8) rfl ?_); refine be 8 26 #[.int .i64 0, .int .i64 0] ?_; intro gb443 hg w54 hbox hb; have BK443 := m0 hbox; have GE443 := gw w hg; replace HB := sb HB hb; have NB437_443 := nl BK437 hg; have NB443_437 := ng (nl BK437 hg); replace BK437 := bb BK437 hb; have NB438_443 := nl BK438 hg; have NB443_438 := ng (nl BK438 hg); replace BK438 := bb BK438 hb; clear hb hbox hg; have hnb55 := NB443_437.out; have hnc55 := NB437_443.out; have hnb56 := NB443_438.out; have hnc56 := NB438_443.out; obtain ⟨_, _, _, _⟩ := b2 BK443; obtain ⟨_, _, _, _⟩ := b2 BK438))
  refine bodyPost_ret (results_ct rfl _ _ gb438 26 #[.int .i64 0, .int .i64 0] (0, 0) _ rfl (by (with_reducible repeat (first | refine blk_drewN ?_ _ | refine blk_drew ?_ | refine blk_alloc ?_ _)); refine blk_put (cs := #[.int .i64 0, .int .i64 0]) ?_ 1 _ rfl; (with_reducible repeat (first | refine blk_drewN ?_ _ | refine blk_drew ?_ | refine blk_alloc ?_ _)); refine blk_put (cs := #[.int .i64 0, .int .i64 0]) ?_ 0 _ rfl; (with_reducible repeat (first | refine blk_drewN ?_ _ | refine blk_drew ?_ | refine blk_alloc ?_ _)); refine blk_far ?_ NB438_443.out _; (with_reducible repeat (first | refine blk_drewN ?_ _ | refine blk_drew ?_ | refine blk_alloc ?_ _)); refine blk_far ?_ NB438_443.out _; (with_reducible repeat (first | refine blk_drewN ?_ _ | refine blk_drew ?_ | refine blk_alloc ?_ _)); exact BK438.out) Tryd.underlying26 rfl (by kernel_rfl)) rfl ?_
  exact ez
end
section
def Bs_trimmed.l0 : Nat → List Int → Int → Option (List Int)
 | 0, _, _ => none
 | k + 1, x0, x3 => if x3 > 0 then (if 0 ≤ (wrap64 (x3 - 1)) then (if (wrap64 (x3 - 1)) < (x0.length : Int) then (if (rd x0 (wrap64 (x3 - 1))) = 0 then (Bs_trimmed.l0 k x0 (wrap64 (x3 - 1))) else (if 0 ≤ x3 then (if x3 ≤ (x0.length : Int) then (some (x0.take (x3 : Int).toNat)) else (none)) else (none))) else (none)) else (none)) else (if 0 ≤ x3 then (if x3 ≤ (x0.length : Int) then (some (x0.take (x3 : Int).toNat)) else (none)) else (none))
def Bs_trimmed.f (k : Nat) (l0 : List Int) : Option (List Int) := Bs_trimmed.l0 k l0 (l0.length : Int)
theorem Bs_trimmed.mono_l : ∀ k, (∀ y0 y1, LeO (Bs_trimmed.l0 k y0 y1) (Bs_trimmed.l0 (k + 1) y0 y1))
 | 0 => fun _ _ r h => by simp [Bs_trimmed.l0] at h
 | k + 1 => by
  have ih0 := Bs_trimmed.mono_l k
  ·intro y0 y1
   unfold Bs_trimmed.l0
   repeat' with_reducible first
    | exact ih0 ..
    | exact LeO.refl ..
    | exact LeO.none ..
    | refine LeO.ite ?_ ?_
    | refine LeO.bind ?_ (fun _ => ?_)
theorem Bs_trimmed.mono : ∀ a0 k, LeO (Bs_trimmed.f k a0) (Bs_trimmed.f (k + 1) a0) := by
 intro a0 k
 have ih0 := Bs_trimmed.mono_l k
 unfold Bs_trimmed.f
 repeat' with_reducible first
  | exact ih0 ..
  | exact LeO.refl ..
  | exact LeO.none ..
  | refine LeO.ite ?_ ?_
  | refine LeO.bind ?_ (fun _ => ?_)
theorem Bs_trimmed.calls (k : Nat) (P0_ : Nat → Prop) (A0 : Option Addr) (c0 : Nat) (l0 : List Int) (r : List Int) (w : World) (hs0 : Kd.V (Kd.int .i64) 3 w w.heap.size (fun k_ => P0_ k_) (.slice A0 l0.length c0) l0) (h : Bs_trimmed.f k l0 = some r) :
  Calls Tryd.prog 167 #[.slice A0 l0.length c0] w fun e w' => ∃ v0_ : Value, e = .returned (v0_) ∧ Kd.V (Kd.int .i64) 3 w' w.heap.size (fun k_ => (P0_ k_ ∨ w.heap.size ≤ k_)) v0_ r ∧ Below w.heap.size w w' := by
 have HO0 := m0 (show Kd.V (Kd.int .i64) 3 w w.heap.size (fun k_ => (P0_ k_ ∨ w.heap.size ≤ k_)) (.slice A0 l0.length c0) l0 from Kd.V_mono hs0 (fun k_ hk => .inl hk))
 have HB := m0 (Below.refl w.heap.size w)
 have H : (Bs_trimmed.l0 k l0 (l0.length : Int)) = some r := h
 clear h
 have H' := m0 H
 clear H
 go_enter Tryd.func167, Tryd.ntmps167
 go_wp2
 go_loopg [3] k (fun kq v3 w' => ∃ (x3_1 : Int), v3 = .int .i64 x3_1 ∧ Aside0 (Bs_trimmed.l0 kq l0 x3_1 = some r) ∧ Aside0 (kq ≤ k) ∧ Aside0 (Kd.V (Kd.int .i64) 3 w' w.heap.size (fun k_ => (P0_ k_ ∨ w.heap.size ≤ k_)) (.slice A0 l0.length c0) l0) ∧ Aside0 (Below w.heap.size w w'))
 case atStart => exact ⟨((l0.length : Int)), (by first | rfl | (simp; done) | (simp [*]; done)), H', ⟨Nat.le_refl _⟩, ⟨by (with_reducible repeat (first | apply Kd.V_alloc | apply Kd.V_drewN | apply Kd.V_drew)); exact HO0.out⟩, ⟨bz⟩⟩
 case round =>
  clear H'
  obtain ⟨x3_1, rfl, HA, HK1, HO_0, HB⟩ := hrel
  cases gk with
  | zero => exact absurd HA.out (by simp [Bs_trimmed.l0])
  | succ k1 =>
   have H := HA.out
   clear HA
   simp only [Bs_trimmed.l0] at H
   by_cases c2 : x3_1 > 0
   ·rw [if_pos c2] at H
    have c2b0 := decide_eq_true c2
    clear c2
    obtain ⟨ji3, hji3⟩ : ∃ j_ : Int, (wrap64 (x3_1 - 1)) = j_ := ⟨_, rfl⟩
    replace H : (if 0 ≤ (ji3) then (if (ji3) < (l0.length : Int) then (if (rd l0 (ji3)) = 0 then (Bs_trimmed.l0 k1 l0 ji3) else (if 0 ≤ x3_1 then (if x3_1 ≤ (l0.length : Int) then (some (l0.take (x3_1 : Int).toNat)) else (none)) else (none))) else (none)) else (none)) = some r := by first | (rw [hji3] at H; exact H) | (simp only [hji3] at H ⊢; exact H)
    have hji3w : (IntKind.i64.wrap (x3_1 - 1)) = ji3 := (i64_w _).trans hji3
    by_cases c4 : 0 ≤ (ji3)
    ·rw [if_pos c4] at H
     have c4b0 := decide_eq_true c4
     clear c4
     by_cases c5 : (ji3) < (l0.length : Int)
     ·rw [if_pos c5] at H
      have c5b0 := decide_eq_true c5
      clear c5
      by_cases c6 : (rd l0 (ji3)) = 0
      ·rw [if_pos c6] at H
       have c6b0 := beq_iff_eq.mpr c6
       have c6b1 := bne_eq_false_iff_eq.mpr c6
       clear c6
       have H' := m0 H
       clear H
       have p445 : 0 ≤ ((ji3) : Int) := od
       have q445 : (ji3) < (l0.length : Int) := od
       obtain ⟨ad445, e445, hx445_0⟩ := Kd.at_int (Kd.V_reads' HO_0.out).2.2 (ji3) p445 q445
       cases e445
       replace p445 := eq_true p445
       replace q445 := eq_true q445
       go_wp2
       go_roundg k1
       case measure => have := HK1.out; omega
       case rel => exact ⟨(ji3), (by first | rfl | (simp; done) | (simp only [← hji3] <;> (first | rfl | simp)) | (simp [*]; done)), H', ⟨by have := HK1.out; omega⟩, ⟨by (with_reducible repeat (first | apply Kd.V_alloc | apply Kd.V_drewN | apply Kd.V_drew)); exact HO_0.out⟩, ⟨bz⟩⟩
      ·rw [if_neg c6] at H
       have c6b0 := beq_eq_false_iff_ne.mpr c6
       have c6b1 := bne_iff_ne.mpr c6
       by_cases c7 : 0 ≤ x3_1
       ·rw [if_pos c7] at H
        have c7b0 := eq_true c7
        have c7b1 := decide_eq_true c7
        clear c7
        by_cases c8 : x3_1 ≤ (l0.length : Int)
        ·rw [if_pos c8] at H
         have c8b0 := eq_true c8
         have c8b1 := decide_eq_true c8
         clear c8
         obtain ⟨y446, hy446⟩ : ∃ y_ : List Int, y_ = (l0.take (x3_1 : Int).toNat) := ⟨_, rfl⟩
         replace H : (some y446) = some r := by first | (rw [hy446]; with_reducible exact H) | (have H2_ := (Option.bind_some _ _).symm.trans H; rw [hy446]; with_reducible exact H2_) | (have H2_ := (Option.bind_some _ _).symm.trans H; with_reducible exact H2_) | with_reducible exact H | (rw [hy446]; exact H) | exact H
         have Ny446 := m0 hy446
         clear hy446
         obtain rfl := Option.some.inj H
         have p445 : 0 ≤ ((ji3) : Int) := od
         have q445 : (ji3) < (l0.length : Int) := od
         obtain ⟨ad445, e445, hx445_0⟩ := Kd.at_int (Kd.V_reads' HO_0.out).2.2 (ji3) p445 q445
         cases e445
         replace p445 := eq_true p445
         replace q445 := eq_true q445
         have q9 : (x3_1 : Int) ≤ ((l0.length : Int) : Int) := od
         obtain ⟨i09, hi09, _, hsz9, _⟩ := info_parts info3
         have hroom9 : l0.length ≤ c0 := (Kd.V_reads' HO_0.out).2.1
         have hC9 : Kd.F (Kd.int .i64) _ _ (some ad445) l0.length l0 := (Kd.V_at (base := w.heap.size) HO_0.out).2.2
         have hcut9 := cut_to (P := Tryd.prog) 22 3 .i64 Tryd.underlying22 hi09 (some ad445) l0.length c0 x3_1 (od) q9 hroom9
         have hr9 := Kd.F_take (m := (x3_1 : Int).toNat) hC9 (by omega)
         have hy9 : y446.length = (x3_1 : Int).toNat := (by rw [Ny446.out, List.length_take]; omega)
         rw [← Ny446.out] at hr9
         rw [← hy9] at hcut9
         have HO450 := m0 (show Kd.V (Kd.int .i64) 3 _ w.heap.size _ (.slice (some ad445) y446.length c0) y446 from Kd.V_mk (by omega) hr9)
         have HC450 := m0 (show y446.length ≤ c0 from by omega)
         clear hr9 hC9 hroom9 hi09 hsz9
         have KY9 := m0 hy9
         clear hy9
         replace q9 := eq_true q9
         go_wp2
         go_ret
         exact ⟨_, by first | rfl | (simp [errW_none, errW_some] <;> rfl) | (simp only [← hji3]; first | rfl | (simp [errW_none, errW_some] <;> rfl)) | (simp [*, errW_none, errW_some] <;> rfl), by (with_reducible repeat (first | apply Kd.V_alloc | apply Kd.V_drewN | apply Kd.V_drew)); exact HO450.out, by repeat (first | (with_reducible first | exact HB.out | apply below_alloc | apply pw_below_drewN | apply below_drew1) | exact HB.out)⟩
        ·rw [if_neg c8] at H
         exact absurd H (by simp)
       ·rw [if_neg c7] at H
        exact absurd H (by simp)
     ·rw [if_neg c5] at H
      exact absurd H (by simp)
    ·rw [if_neg c4] at H
     exact absurd H (by simp)
   ·rw [if_neg c2] at H
    have c2b0 := decide_eq_false c2
    clear c2
    by_cases c10 : 0 ≤ x3_1
    ·rw [if_pos c10] at H
     have c10b0 := eq_true c10
     have c10b1 := decide_eq_true c10
     clear c10
     by_cases c11 : x3_1 ≤ (l0.length : Int)
     ·rw [if_pos c11] at H
      have c11b0 := eq_true c11
      have c11b1 := decide_eq_true c11
      clear c11
      obtain ⟨y451, hy451⟩ : ∃ y_ : List Int, y_ = (l0.take (x3_1 : Int).toNat) := ⟨_, rfl⟩
      replace H : (some y451) = some r := by first | (rw [hy451]; with_reducible exact H) | (have H2_ := (Option.bind_some _ _).symm.trans H; rw [hy451]; with_reducible exact H2_) | (have H2_ := (Option.bind_some _ _).symm.trans H; with_reducible exact H2_) | with_reducible exact H | (rw [hy451]; exact H) | exact H
      have Ny451 := m0 hy451
      clear hy451
      obtain rfl := Option.some.inj H
      have q12 : (x3_1 : Int) ≤ ((l0.length : Int) : Int) := od
      obtain ⟨i012, hi012, _, hsz12, _⟩ := info_parts info3
      have hroom12 : l0.length ≤ c0 := (Kd.V_reads' HO_0.out).2.1
      have hC12 : Kd.F (Kd.int .i64) _ _ A0 l0.length l0 := (Kd.V_at (base := w.heap.size) HO_0.out).2.2
      have hcut12 := cut_to (P := Tryd.prog) 22 3 .i64 Tryd.underlying22 hi012 A0 l0.length c0 x3_1 (od) q12 hroom12
      have hr12 := Kd.F_take (m := (x3_1 : Int).toNat) hC12 (by omega)
      have hy12 : y451.length = (x3_1 : Int).toNat := (by rw [Ny451.out, List.length_take]; omega)
      rw [← Ny451.out] at hr12
      rw [← hy12] at hcut12
      have HO455 := m0 (show Kd.V (Kd.int .i64) 3 _ w.heap.size _ (.slice A0 y451.length c0) y451 from Kd.V_mk (by omega) hr12)
      have HC455 := m0 (show y451.length ≤ c0 from by omega)
      clear hr12 hC12 hroom12 hi012 hsz12
      have KY12 := m0 hy12
      clear hy12
      replace q12 := eq_true q12
      go_wp2
      go_ret
      exact ⟨_, by first | rfl | (simp [errW_none, errW_some] <;> rfl) | (simp [*, errW_none, errW_some] <;> rfl), by (with_reducible repeat (first | apply Kd.V_alloc | apply Kd.V_drewN | apply Kd.V_drew)); exact HO455.out, by repeat (first | (with_reducible first | exact HB.out | apply below_alloc | apply pw_below_drewN | apply below_drew1) | exact HB.out)⟩
     ·rw [if_neg c11] at H
      exact absurd H (by simp)
    ·rw [if_neg c10] at H
     exact absurd H (by simp)
end
section
def Bs_wideOf.f (k : Nat) (a0 : Int) (l1 : List Int) : Option (Int × List Int) := (Bs_trimmed.f k l1).bind fun t457 => (if (t457.length : Int) = 0 then (some (0, t457)) else (some (a0, t457)))
theorem Bs_wideOf.mono : ∀ a0 a1 k, LeO (Bs_wideOf.f k a0 a1) (Bs_wideOf.f (k + 1) a0 a1) := by
 intro a0 a1 k
 unfold Bs_wideOf.f
 repeat' with_reducible first
  | exact Bs_trimmed.mono ..
  | exact LeO.refl ..
  | exact LeO.none ..
  | refine LeO.ite ?_ ?_
  | refine LeO.bind ?_ (fun _ => ?_)
theorem Bs_wideOf.calls (k : Nat) (a0 : Int) (P1_ : Nat → Prop) (A1 : Option Addr) (c1 : Nat) (l1 : List Int) (r1 : Int) (r2 : List Int) (w : World) (hs1 : Kd.V (Kd.int .i64) 3 w w.heap.size (fun k_ => P1_ k_) (.slice A1 l1.length c1) l1) (h : Bs_wideOf.f k a0 l1 = some (r1, r2)) :
  Calls Tryd.prog 150 #[.int .i64 a0, .slice A1 l1.length c1] w fun e w' => ∃ v1_ : Value, e = .returned (.agg #[.int .i64 r1, v1_]) ∧ Kd.V (Kd.int .i64) 3 w' w.heap.size (fun k_ => (P1_ k_ ∨ w.heap.size ≤ k_)) v1_ r2 ∧ Below w.heap.size w w' := by
 have hu135 := Tryd.underlying135
 have HO1 := m0 (show Kd.V (Kd.int .i64) 3 w w.heap.size (fun k_ => (P1_ k_ ∨ w.heap.size ≤ k_)) (.slice A1 l1.length c1) l1 from Kd.V_mono hs1 (fun k_ hk => .inl hk))
 have HB := m0 (Below.refl w.heap.size w)
 have H : ((Bs_trimmed.f k l1).bind fun t457 => (if (t457.length : Int) = 0 then (some (0, t457)) else (some (a0, t457)))) = some (r1, r2) := h
 clear h
 replace H := ob H
 obtain ⟨t457, A3, H⟩ := H
 (try dsimp only at H)
 replace A3 := m0 A3
 by_cases c4 : (t457.length : Int) = 0
 ·rw [if_pos c4] at H
  have c4b0 := beq_iff_eq.mpr c4
  have c4b1 := bne_eq_false_iff_eq.mpr c4
  clear c4
  simp only [Option.some.injEq, Prod.mk.injEq] at H
  obtain ⟨rfl, rfl⟩ := H
  go_enter Tryd.func150, Tryd.ntmps150
  go_wp2_with (first | ((with_reducible refine gate_dst (N := 4) rfl ?_); refine be 4 135 #[.int .i64 0, .slice none 0 0] ?_; intro gb456 hg w5 hbox hb; replace HO1 := ve HO1 hg hb; have BK456 := m0 hbox; have GE456 := gw w hg; replace HB := sb HB hb; clear hb hbox hg) | ((with_reducible refine gate_callee (f := 167) rfl ?_); refine gl (some 6) Tryd.func167 #[.slice A1 l1.length c1] ?_; (with_reducible refine (Bs_trimmed.calls k (fun k_ => ((P1_ k_ ∨ w.heap.size ≤ k_) ∧ k_ ≠ gb456)) _ _ l1 t457 _ ?side1 A3.out).mono ?_); (case side1 => exact HO1.out); rintro e w6 ⟨v458, rfl, ho0, hb⟩; refine ⟨_, rfl, ?_⟩; replace HO1 := vb HO1 hb; have HO459 := m0 (Kd.V_lower (Kd.V_mono (ok' := fun k_ => (P1_ k_ ∨ w.heap.size ≤ k_) ∧ k_ ≠ gb456) ho0 (fun k_ hk_ => ⟨Or.elim hk_ (fun hs_ => hs_.1) (fun hn_ => (.inr (Nat.le_trans (below_size bz) hn_))), Or.elim hk_ (fun hs_ => hs_.2) (fun hn_ => (Kd.freshB (g := gb456) (o := .cells #[.int .i64 0, .slice none 0 0] 135 (0, 0)) (bk BK456.out) k_ hn_))⟩)) (below_size bz)); replace BK456 := bb BK456 hb; replace HB := sb HB hb; (try clear hb); (try clear ho0); obtain ⟨Ao7, co7, eo7⟩ := Kd.V_slice HO459.out; subst eo7; obtain ⟨_, _, _, _⟩ := b2 BK456))
  refine bodyPost_ret (results_cell_row rfl _ _ gb456 135 #[.int .i64 0, .slice Ao7 t457.length co7] (0, 0) _ rfl (bq BK456.out) Tryd.underlying135 rfl (by kernel_rfl)) rfl ?_
  exact ⟨_, by first | rfl | (simp [errW_none, errW_some] <;> rfl) | (simp [*, errW_none, errW_some] <;> rfl), by (with_reducible repeat (first | apply Kd.V_alloc | apply Kd.V_drewN | apply Kd.V_drew)); exact Kd.V_mono (Kd.V_far (p := ⟨gb456, 1, none⟩) (Kd.V_far (p := ⟨gb456, 0, none⟩) (Kd.V_mono HO459.out (fun k_ hk => (⟨hk, hk.2⟩ : _ ∧ k_ ≠ gb456))) (fun _ hk => hk.2) (.int .i64 0)) (fun _ hk => hk.2) (.slice Ao7 t457.length co7)) (fun _ hk => hk.1.1), by repeat (first | (with_reducible first | exact HB.out | apply below_alloc | apply pw_below_drewN | apply below_drew1 | refine below_set ?_ GE456.out) | exact HB.out)⟩
 ·rw [if_neg c4] at H
  have c4b0 := beq_eq_false_iff_ne.mpr c4
  have c4b1 := bne_iff_ne.mpr c4
  have c4b2 : ¬ (t457 = []) := fun h_ => c4 (by rw [h_]; rfl)
  simp only [Option.some.injEq, Prod.mk.injEq] at H
  obtain ⟨rfl, rfl⟩ := H
  go_enter Tryd.func150, Tryd.ntmps150
  go_wp2_with (first | ((with_reducible refine gate_dst (N := 4) rfl ?_); refine be 4 135 #[.int .i64 0, .slice none 0 0] ?_; intro gb456 hg w9 hbox hb; replace HO1 := ve HO1 hg hb; have BK456 := m0 hbox; have GE456 := gw w hg; replace HB := sb HB hb; clear hb hbox hg) | ((with_reducible refine gate_callee (f := 167) rfl ?_); refine gl (some 6) Tryd.func167 #[.slice A1 l1.length c1] ?_; (with_reducible refine (Bs_trimmed.calls k (fun k_ => ((P1_ k_ ∨ w.heap.size ≤ k_) ∧ k_ ≠ gb456)) _ _ l1 t457 _ ?side1 A3.out).mono ?_); (case side1 => exact HO1.out); rintro e w10 ⟨v458, rfl, ho0, hb⟩; refine ⟨_, rfl, ?_⟩; replace HO1 := vb HO1 hb; have HO459 := m0 (Kd.V_lower (Kd.V_mono (ok' := fun k_ => (P1_ k_ ∨ w.heap.size ≤ k_) ∧ k_ ≠ gb456) ho0 (fun k_ hk_ => ⟨Or.elim hk_ (fun hs_ => hs_.1) (fun hn_ => (.inr (Nat.le_trans (below_size bz) hn_))), Or.elim hk_ (fun hs_ => hs_.2) (fun hn_ => (Kd.freshB (g := gb456) (o := .cells #[.int .i64 0, .slice none 0 0] 135 (0, 0)) (bk BK456.out) k_ hn_))⟩)) (below_size bz)); replace BK456 := bb BK456 hb; replace HB := sb HB hb; (try clear hb); (try clear ho0); obtain ⟨Ao11, co11, eo11⟩ := Kd.V_slice HO459.out; subst eo11; obtain ⟨_, _, _, _⟩ := b2 BK456))
  refine bodyPost_ret (results_cell_row rfl _ _ gb456 135 #[.int .i64 a0, .slice Ao11 t457.length co11] (0, 0) _ rfl (bq BK456.out) Tryd.underlying135 rfl (by kernel_rfl)) rfl ?_
  exact ⟨_, by first | rfl | (simp [errW_none, errW_some] <;> rfl) | (simp [*, errW_none, errW_some] <;> rfl), by (with_reducible repeat (first | apply Kd.V_alloc | apply Kd.V_drewN | apply Kd.V_drew)); exact Kd.V_mono (Kd.V_far (p := ⟨gb456, 1, none⟩) (Kd.V_far (p := ⟨gb456, 0, none⟩) (Kd.V_mono HO459.out (fun k_ hk => (⟨hk, hk.2⟩ : _ ∧ k_ ≠ gb456))) (fun _ hk => hk.2) (.int .i64 a0)) (fun _ hk => hk.2) (.slice Ao11 t457.length co11)) (fun _ hk => hk.1.1), by repeat (first | (with_reducible first | exact HB.out | apply below_alloc | apply pw_below_drewN | apply below_drew1 | refine below_set ?_ GE456.out) | exact HB.out)⟩
end
end Go.Proofs.YtjnkphmcndaijaaDoor.A
