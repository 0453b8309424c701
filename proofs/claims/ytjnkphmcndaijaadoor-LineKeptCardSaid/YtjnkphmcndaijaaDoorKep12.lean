/- Walks of the program's functions (printed, made shorter), each with what it computes. -/
import Derived.Test.YtjnkphmcndaijaaDoorKep04
import Derived.Test.YtjnkphmcndaijaaDoorKep03
import Derived.Test.YtjnkphmcndaijaaDoorKep06
import Derived.Test.YtjnkphmcndaijaaDoorKep11
import Derived.Test.YtjnkphmcndaijaaDoorKep10
namespace Go.Proofs.YtjnkphmcndaijaaDoor.A
set_option maxHeartbeats 8000000
set_option maxRecDepth 100000
open Go.RowKit Go.Proofs.YtjnkphmcndaijaaDoorW.PrintWords Go.Proofs.YtjnkphmcndaijaaDoorW.PrintLast Go.Proofs.YtjnkphmcndaijaaDoorW.PrintMore
attribute [local go_sem] max2_int min2_int max_two min_two max_three min_three max_four min_four
set_option linter.unusedVariables false
set_option linter.unusedSimpArgs false
section
def line_small.f (a0_0 : Int) (a0_1 : Int) : Option (Int × Int × Int) := (line_within.f a0_0 (-1000000000) 1000000000).bind fun t283 => (if t283 = true then (if a0_1 > 1000000000 then (some (0, 0, 8)) else (some (a0_0, a0_1, 0))) else (some (0, 0, 8)))
theorem line_small.calls (a0_0 : Int) (a0_1 : Int) (r1 : Int) (r2 : Int) (r3 : Int) (w : World) (h : line_small.f a0_0 a0_1 = some (r1, r2, r3)) :
  Calls Tryd.prog 111 #[.agg #[.int .i64 a0_0, .int .i64 a0_1]] w fun e w' => e = .returned (.tuple #[.agg #[.int .i64 r1, .int .i64 r2], .int .i64 r3]) ∧ Below w.heap.size w w' := by
 have hu26 := Tryd.underlying26
 have HB := m0 (Below.refl w.heap.size w)
 have H : ((line_within.f a0_0 (-1000000000) 1000000000).bind fun t283 => (if t283 = true then (if a0_1 > 1000000000 then (some (0, 0, 8)) else (some (a0_0, a0_1, 0))) else (some (0, 0, 8)))) = some (r1, r2, r3) := h
 clear h
 replace H := ob H
 obtain ⟨t283, A20, H⟩ := H
 (try dsimp only at H)
 have A2 := m0 A20
 clear A20
 by_cases c3 : t283 = true
 ·subst c3
  rw [if_pos rfl] at H
  by_cases c4 : a0_1 > 1000000000
  ·rw [if_pos c4] at H
   have c4b0 := decide_eq_true c4
   clear c4
   simp only [Option.some.injEq, Prod.mk.injEq] at H
   obtain ⟨rfl, rfl, rfl⟩ := H
   go_enter Tryd.func111, Tryd.ntmps111
   go_wp2_with (first | ((with_reducible refine gate_dst (N := 1) rfl ?_); refine be 1 26 #[.int .i64 a0_0, .int .i64 a0_1] ?_; intro gb281 hg w5 hbox hb; have BK281 := m0 hbox; have GW281 := m0 (bg (n := w.heap.size) hg); have GE281 := m0 (bg (n := w.heap.size) hg); replace HB := sb HB hb; clear hb hbox hg) | ((with_reducible refine gate_dst (N := 2) rfl ?_); refine be 2 26 #[.int .i64 0, .int .i64 0] ?_; intro gb282 hg w6 hbox hb; have BK282 := m0 hbox; have GW282 := m0 (bg (n := w.heap.size) hg); have GE282 := m0 (bg (n := w.heap.size) hg); replace HB := sb HB hb; have NB281_282 := nl BK281 hg; have NB282_281 := ng (nl BK281 hg); replace BK281 := bb BK281 hb; clear hb hbox hg; have hnb7 := NB281_282.out; have hnc7 := NB282_281.out; obtain ⟨_, _, _, _⟩ := b2 BK281) | ((with_reducible refine gate_callee (f := 105) rfl ?_); refine gl (some 6) Tryd.func105 #[.int .i64 a0_0, .int .i64 (-1000000000), .int .i64 1000000000] ?_; (with_reducible refine (line_within.calls a0_0 (-1000000000) 1000000000 true _ A2.out).mono ?_); rintro e w' ⟨rfl, ⟨nd, rfl⟩⟩; refine ⟨_, rfl, ?_⟩; (try (rw [drewN_self w6]; generalize hq_ : World.drewN w6 _ = w6; replace BK281 := gd BK281 hq_; replace BK282 := gd BK282 hq_; replace HB := gs HB hq_; clear hq_)); obtain ⟨_, _, _, _⟩ := b2 BK281; obtain ⟨_, _, _, _⟩ := b2 BK282))
   refine bodyPost_ret (results_ct rfl _ _ gb282 26 #[.int .i64 0, .int .i64 0] (0, 0) _ rfl (bq BK282.out) Tryd.underlying26 rfl (by kernel_rfl)) rfl ?_
   exact ez
  ·rw [if_neg c4] at H
   have c4b0 := decide_eq_false c4
   clear c4
   simp only [Option.some.injEq, Prod.mk.injEq] at H
   obtain ⟨rfl, rfl, rfl⟩ := H
   go_enter Tryd.func111, Tryd.ntmps111
   go_wp2_with (first | ((with_reducible refine gate_dst (N := 1) rfl ?_); refine be 1 26 #[.int .i64 a0_0, .int .i64 a0_1] ?_; intro gb281 hg w11 hbox hb; have BK281 := m0 hbox; have GW281 := m0 (bg (n := w.heap.size) hg); have GE281 := m0 (bg (n := w.heap.size) hg); replace HB := sb HB hb; clear hb hbox hg) | ((with_reducible refine gate_dst (N := 2) rfl ?_); refine be 2 26 #[.int .i64 0, .int .i64 0] ?_; intro gb282 hg w12 hbox hb; have BK282 := m0 hbox; have GW282 := m0 (bg (n := w.heap.size) hg); have GE282 := m0 (bg (n := w.heap.size) hg); replace HB := sb HB hb; have NB281_282 := nl BK281 hg; have NB282_281 := ng (nl BK281 hg); replace BK281 := bb BK281 hb; clear hb hbox hg; have hnb13 := NB281_282.out; have hnc13 := NB282_281.out; obtain ⟨_, _, _, _⟩ := b2 BK281) | ((with_reducible refine gate_callee (f := 105) rfl ?_); refine gl (some 6) Tryd.func105 #[.int .i64 a0_0, .int .i64 (-1000000000), .int .i64 1000000000] ?_; (with_reducible refine (line_within.calls a0_0 (-1000000000) 1000000000 true _ A2.out).mono ?_); rintro e w' ⟨rfl, ⟨nd, rfl⟩⟩; refine ⟨_, rfl, ?_⟩; (try (rw [drewN_self w12]; generalize hq_ : World.drewN w12 _ = w12; replace BK281 := gd BK281 hq_; replace BK282 := gd BK282 hq_; replace HB := gs HB hq_; clear hq_)); obtain ⟨_, _, _, _⟩ := b2 BK281; obtain ⟨_, _, _, _⟩ := b2 BK282))
   refine bodyPost_ret (results_ct rfl _ _ gb282 26 #[.int .i64 a0_0, .int .i64 a0_1] (0, 0) _ rfl (bq BK282.out) Tryd.underlying26 rfl (by kernel_rfl)) rfl ?_
   exact ez
 ·replace c3 := Bool.eq_false_iff.mpr c3
  subst c3
  rw [if_neg (show ¬ (false = true) by decide)] at H
  simp only [Option.some.injEq, Prod.mk.injEq] at H
  obtain ⟨rfl, rfl, rfl⟩ := H
  go_enter Tryd.func111, Tryd.ntmps111
  go_wp2_with (first | ((with_reducible refine gate_dst (N := 1) rfl ?_); refine be 1 26 #[.int .i64 a0_0, .int .i64 a0_1] ?_; intro gb281 hg w17 hbox hb; have BK281 := m0 hbox; have GW281 := m0 (bg (n := w.heap.size) hg); have GE281 := m0 (bg (n := w.heap.size) hg); replace HB := sb HB hb; clear hb hbox hg) | ((with_reducible refine gate_dst (N := 2) rfl ?_); refine be 2 26 #[.int .i64 0, .int .i64 0] ?_; intro gb282 hg w18 hbox hb; have BK282 := m0 hbox; have GW282 := m0 (bg (n := w.heap.size) hg); have GE282 := m0 (bg (n := w.heap.size) hg); replace HB := sb HB hb; have NB281_282 := nl BK281 hg; have NB282_281 := ng (nl BK281 hg); replace BK281 := bb BK281 hb; clear hb hbox hg; have hnb19 := NB281_282.out; have hnc19 := NB282_281.out; obtain ⟨_, _, _, _⟩ := b2 BK281) | ((with_reducible refine gate_callee (f := 105) rfl ?_); refine gl (some 6) Tryd.func105 #[.int .i64 a0_0, .int .i64 (-1000000000), .int .i64 1000000000] ?_; (with_reducible refine (line_within.calls a0_0 (-1000000000) 1000000000 false _ A2.out).mono ?_); rintro e w' ⟨rfl, ⟨nd, rfl⟩⟩; refine ⟨_, rfl, ?_⟩; (try (rw [drewN_self w18]; generalize hq_ : World.drewN w18 _ = w18; replace BK281 := gd BK281 hq_; replace BK282 := gd BK282 hq_; replace HB := gs HB hq_; clear hq_)); obtain ⟨_, _, _, _⟩ := b2 BK282))
  refine bodyPost_ret (results_ct rfl _ _ gb282 26 #[.int .i64 0, .int .i64 0] (0, 0) _ rfl (bq BK282.out) Tryd.underlying26 rfl (by kernel_rfl)) rfl ?_
  exact ez
end
section
def line_SpeedAt.f (k : Nat) (a0_0 : Int) (a0_1 : Int) (a1_0 : Int) (a1_1 : Int) (a1_2 : Int) : Option (Int × Int × Int) := (line_lowestErr.f k a0_0 a0_1 1000000000).bind fun t287 => ((line_scaleErr.f a1_0 a1_1 a1_2).bind fun t288 => ((line_first.f k (([t287, t288] : List Int))).bind fun t292 => (if t292 = 0 then ((line_fraction.f k (wrap64 ((wrap64 (a0_0 - (wrap64 (a1_0 * a0_1)))) * a1_1)) (wrap64 (a0_1 * a1_2))).bind fun bt293 => ((line_small.f bt293.1 bt293.2).bind fun bt295 => (some (bt295.1, bt295.2.1, bt295.2.2)))) else (some (0, 0, t292)))))
theorem line_SpeedAt.mono : ∀ a0 a1 a2 a3 a4 k, LeO (line_SpeedAt.f k a0 a1 a2 a3 a4) (line_SpeedAt.f (k + 1) a0 a1 a2 a3 a4) := by
 intro a0 a1 a2 a3 a4 k
 unfold line_SpeedAt.f
 repeat' first
   | (with_reducible exact line_first.mono _ _)
   | (with_reducible exact line_fraction.mono _ _ _)
   | (with_reducible exact line_lowestErr.mono _ _ _ _)
   | (with_reducible exact LeO.refl _)
   | (with_reducible exact LeO.none _)
   | (with_reducible refine LeO.ite ?_ ?_)
   | (with_reducible refine LeO.bind ?_ (fun _ => ?_))
   | exact line_first.mono _ _
   | exact line_fraction.mono _ _ _
   | exact line_lowestErr.mono _ _ _ _
   | exact LeO.none _
   | refine LeO.ite ?_ ?_
   | refine LeO.bind ?_ (fun _ => ?_)
theorem line_SpeedAt.calls (k : Nat) (a0_0 : Int) (a0_1 : Int) (a1_0 : Int) (a1_1 : Int) (a1_2 : Int) (r1 : Int) (r2 : Int) (r3 : Int) (w : World) (h : line_SpeedAt.f k a0_0 a0_1 a1_0 a1_1 a1_2 = some (r1, r2, r3)) :
  Calls Tryd.prog 45 #[.agg #[.int .i64 a0_0, .int .i64 a0_1], .agg #[.int .i64 a1_0, .int .i64 a1_1, .int .i64 a1_2]] w fun e w' => e = .returned (.tuple #[.agg #[.int .i64 r1, .int .i64 r2], .int .i64 r3]) ∧ Below w.heap.size w w' := by
 have hu26 := Tryd.underlying26
 have hu63 := Tryd.underlying63
 have HB := m0 (Below.refl w.heap.size w)
 have H : ((line_lowestErr.f k a0_0 a0_1 1000000000).bind fun t287 => ((line_scaleErr.f a1_0 a1_1 a1_2).bind fun t288 => ((line_first.f k (([t287, t288] : List Int))).bind fun t292 => (if t292 = 0 then ((line_fraction.f k (wrap64 ((wrap64 (a0_0 - (wrap64 (a1_0 * a0_1)))) * a1_1)) (wrap64 (a0_1 * a1_2))).bind fun bt293 => ((line_small.f bt293.1 bt293.2).bind fun bt295 => (some (bt295.1, bt295.2.1, bt295.2.2)))) else (some (0, 0, t292)))))) = some (r1, r2, r3) := h
 clear h
 replace H := ob H
 obtain ⟨t287, A30, H⟩ := H
 (try dsimp only at H)
 have A3 := m0 A30
 clear A30
 replace H := ob H
 obtain ⟨t288, A40, H⟩ := H
 (try dsimp only at H)
 have A4 := m0 A40
 clear A40
 obtain ⟨y289, hy289⟩ : ∃ y_ : List Int, y_ = (([t287, t288] : List Int)) := ⟨_, rfl⟩
 replace H : ((line_first.f k y289).bind fun t292 => (if t292 = 0 then ((line_fraction.f k (wrap64 ((wrap64 (a0_0 - (wrap64 (a1_0 * a0_1)))) * a1_1)) (wrap64 (a0_1 * a1_2))).bind fun bt293 => ((line_small.f bt293.1 bt293.2).bind fun bt295 => (some (bt295.1, bt295.2.1, bt295.2.2)))) else (some (0, 0, t292)))) = some (r1, r2, r3) := by first | (rw [hy289]; with_reducible exact H) | (have H2_ := (Option.bind_some _ _).symm.trans H; rw [hy289]; with_reducible exact H2_) | (have H2_ := (Option.bind_some _ _).symm.trans H; with_reducible exact H2_) | with_reducible exact H | (rw [hy289]; exact H) | exact H
 have Ny289 := m0 hy289
 clear hy289
 replace H := ob H
 obtain ⟨t292, A50, H⟩ := H
 (try dsimp only at H)
 have A5 := m0 A50
 clear A50
 by_cases c6 : t292 = 0
 ·rw [if_pos c6] at H
  have c6b0 := beq_iff_eq.mpr c6
  have c6b1 := bne_eq_false_iff_eq.mpr c6
  clear c6
  replace H := ob H
  obtain ⟨⟨t293, t294⟩, A70, H⟩ := H
  (try dsimp only at H)
  have A7 := m0 A70
  clear A70
  replace H := ob H
  obtain ⟨⟨t295, t296, t297⟩, A80, H⟩ := H
  (try dsimp only at H)
  have A8 := m0 A80
  clear A80
  simp only [Option.some.injEq, Prod.mk.injEq] at H
  obtain ⟨rfl, rfl, rfl⟩ := H
  go_enter Tryd.func45, Tryd.ntmps45
  try go_wp2_with (first | ((with_reducible refine gate_dst (N := 2) rfl ?_); refine be 2 26 #[.int .i64 a0_0, .int .i64 a0_1] ?_; intro gb284 hg w9 hbox hb; have BK284 := m0 hbox; have GW284 := m0 (bg (n := w.heap.size) hg); have GE284 := m0 (bg (n := w.heap.size) hg); replace HB := sb HB hb; clear hb hbox hg) | ((with_reducible refine gate_dst (N := 3) rfl ?_); refine be 3 63 #[.int .i64 a1_0, .int .i64 a1_1, .int .i64 a1_2] ?_; intro gb285 hg w10 hbox hb; have BK285 := m0 hbox; have GW285 := m0 (bg (n := w.heap.size) hg); have GE285 := m0 (bg (n := w.heap.size) hg); replace HB := sb HB hb; have NB284_285 := nl BK284 hg; have NB285_284 := ng (nl BK284 hg); replace BK284 := bb BK284 hb; clear hb hbox hg) | ((with_reducible refine gate_dst (N := 4) rfl ?_); refine be 4 26 #[.int .i64 0, .int .i64 0] ?_; intro gb286 hg w11 hbox hb; have BK286 := m0 hbox; have GW286 := m0 (bg (n := w.heap.size) hg); have GE286 := m0 (bg (n := w.heap.size) hg); replace HB := sb HB hb; have NB284_286 := nl BK284 hg; have NB286_284 := ng (nl BK284 hg); replace BK284 := bb BK284 hb; have NB285_286 := nl BK285 hg; have NB286_285 := ng (nl BK285 hg); replace BK285 := bb BK285 hb; clear hb hbox hg))
  replace BK284 := bd BK284; replace BK285 := bd BK285; replace BK286 := bd BK286; replace HB := sd HB
  refine start_ (n := 7) (S := fun w' => w'.cell? ⟨gb284, 0, none⟩ = some (.int .i64 a0_0) ∧ w'.cell? ⟨gb284, 1, none⟩ = some (.int .i64 a0_1) ∧ w'.cell? ⟨gb285, 0, none⟩ = some (.int .i64 a1_0) ∧ w'.cell? ⟨gb285, 1, none⟩ = some (.int .i64 a1_1) ∧ w'.cell? ⟨gb285, 2, none⟩ = some (.int .i64 a1_2)) (ds := []) #[false, false, false, false, false, false, false] (by kernel_rfl) rfl rfl cz (fun hHeld => ?_)
  generalize w11.drew = w12 at BK284 BK285 BK286 HB hHeld ⊢
  refine takeZ 0 (some 7) #[true, false, false, false, false, false, false] (by kernel_rfl) hHeld ?_
  refine takeZ 2 (some 9) #[true, false, true, false, false, false, false] (by kernel_rfl) hHeld ?_
  refine oneZ 1 (some 8) #[true, true, true, false, false, false, false] (by kernel_rfl) fun K hK => ?_
  refine goes_ Tryd.func109 (by kernel_rfl) rfl #[.agg #[.int .i64 a0_0, .int .i64 a0_1], .int .i64 1000000000] (by rfl) rfl rfl mz ?_
  with_reducible refine (line_lowestErr.calls k a0_0 a0_1 1000000000 t287 _ A3.out).mono ?_
  rintro e w13 ⟨rfl, hb⟩
  refine ⟨_, rfl, ?_⟩
  replace BK284 := bb BK284 hb; replace BK285 := bb BK285 hb; replace BK286 := bb BK286 hb; replace HB := sb HB hb
  (try clear hb)
  refine hK.out _ _ cz (fun hHeld => ?_)
  clear hK K
  refine norm_ (a' := ?_) ?_ ?_
  rotate_left
  ·show Act.put _ (some 8) _ = _
   exact pz
  refine oneZ 3 (some 10) #[true, true, true, true, false, false, false] (by kernel_rfl) fun K hK => ?_
  refine goes_ Tryd.func110 (by kernel_rfl) rfl #[.agg #[.int .i64 a1_0, .int .i64 a1_1, .int .i64 a1_2]] (by rfl) rfl rfl mz ?_
  with_reducible refine (line_scaleErr.calls a1_0 a1_1 a1_2 t288 _ A4.out).mono ?_
  rintro e w14 ⟨rfl, hb⟩
  refine ⟨_, rfl, ?_⟩
  replace BK284 := bb BK284 hb; replace BK285 := bb BK285 hb; replace BK286 := bb BK286 hb; replace HB := sb HB hb
  (try clear hb)
  refine hK.out _ _ cz (fun hHeld => ?_)
  clear hK K
  refine norm_ (a' := ?_) ?_ ?_
  rotate_left
  ·show Act.put _ (some 10) _ = _
   exact pz
  refine oneZ 4 (some 11) #[true, true, true, true, true, false, false] (by kernel_rfl) fun K hK => ?_
  refine Kd.R_lit_step (Kd.int .i64) _ 31 ?hg (N := 11) ?hd (xs := ([t287, t288] : List Int)) (inner := [.int .i64 t287, .int .i64 t288]) (ok := fun _ => True) (okp := fun _ => True) ?hr ?hp (fun _ hk => hk) trivial (Below.refl _ _) (Nat.le_refl _) (by simp) ?_; (case hd => rfl); (case hg => rfl); (case hr => first | (go_simp; done) | (go_simp; rfl)); (case hp => exact (Reps.one (show Kd.M (Kd.int .i64) _ _ _ t287 [.int .i64 t287] from rfl) (Reps.one (show Kd.M (Kd.int .i64) _ _ _ t288 [.int .i64 t288] from rfl) (Reps.none _ _))))
  intro v290 w15 ho16 hb hg_ hnew_
  clear hg_ hnew_
  (first | rw [← Ny289.out] at ho16 | (simp only [Int.reduceToNat] at ho16; rw [← Ny289.out] at ho16))
  have HO291 := m0 (Kd.R_lower ho16 (below_size bz)); replace BK284 := bb BK284 hb; replace BK285 := bb BK285 hb; replace BK286 := bb BK286 hb; replace HB := sb HB hb
  clear hb ho16
  obtain ⟨Ao17, co17, eo17⟩ := Kd.R_slice HO291.out
  (first | subst eo17 | (injection eo17 with f1_ f2_ f3_; have f4_ := f1_.symm; have f5_ := f3_.symm; clear f1_ f2_ f3_; subst f4_; subst f5_))
  refine hK.out _ _ cz (fun hHeld => ?_)
  clear hK K
  refine norm_ (a' := ?_) ?_ ?_
  rotate_left
  ·show Act.put _ (some 11) _ = _
   exact pz
  refine oneZ 5 (some 12) #[true, true, true, true, true, true, false] (by kernel_rfl) fun K hK => ?_
  refine goes_ Tryd.func91 (by kernel_rfl) rfl #[.slice Ao17 y289.length co17] (by rfl) rfl rfl mz ?_
  with_reducible refine (line_first.calls k _ _ y289 t292 _ ?side1 ?side2 A5.out).mono ?_
  (case side1 => exact bc (Kd.R_reads' HO291.out).2.2)
  (case side2 => exact (Kd.R_reads' HO291.out).2.1)
  rintro e w' ⟨rfl, ⟨nd, rfl⟩⟩
  refine ⟨_, rfl, ?_⟩
  refine hK.out _ _ cz (fun hHeld => ?_)
  clear hK K
  refine norm_ (a' := ?_) ?_ ?_
  rotate_left
  ·show Act.put _ (some 12) _ = _
   exact pz
  refine pure_ (i := 6) (N := some 6) (v := ?_) (a' := ?_) #[true, true, true, true, true, true, true] rfl rfl (by kernel_rfl) (fun _ _ _ h => h) (Or.inl ⟨by rfl, ?_⟩) ?_ ?_
  rotate_left
  ·intro w'
   go_simp
   with_reducible rfl
  rotate_left
  ·exact pz
  refine done_ (by kernel_rfl) ?_
  have hnb18 := NB284_285.out
  have hnc18 := NB285_284.out
  have hnb19 := NB284_286.out
  have hnc19 := NB286_284.out
  obtain ⟨_, _, _, _⟩ := b2 BK284
  have hnb21 := NB285_286.out
  have hnc21 := NB286_285.out
  obtain ⟨_, _, _, _, _, _⟩ := b3 BK285
  try go_wp2_with (first | ((with_reducible refine gate_callee (f := 96) rfl ?_); refine gl (some 33) Tryd.func96 #[.int .i64 (wrap64 ((wrap64 (a0_0 - (wrap64 (a1_0 * a0_1)))) * a1_1)), .int .i64 (wrap64 (a0_1 * a1_2))] ?_; (with_reducible refine (line_fraction.calls k (wrap64 ((wrap64 (a0_0 - (wrap64 (a1_0 * a0_1)))) * a1_1)) (wrap64 (a0_1 * a1_2)) t293 t294 _ A7.out).mono ?_); rintro e w23 ⟨rfl, hb⟩; refine ⟨_, rfl, ?_⟩; replace HO291 := rb HO291 hb; replace BK284 := bb BK284 hb; replace BK285 := bb BK285 hb; replace BK286 := bb BK286 hb; replace HB := sb HB hb; (try clear hb)) | ((with_reducible refine gate_callee (f := 111) rfl ?_); refine gl (some 34) Tryd.func111 #[.agg #[.int .i64 t293, .int .i64 t294]] ?_; (with_reducible refine (line_small.calls t293 t294 t295 t296 t297 _ A8.out).mono ?_); rintro e w24 ⟨rfl, hb⟩; refine ⟨_, rfl, ?_⟩; replace HO291 := rb HO291 hb; replace BK284 := bb BK284 hb; replace BK285 := bb BK285 hb; replace BK286 := bb BK286 hb; replace HB := sb HB hb; (try clear hb); obtain ⟨_, _, _, _⟩ := b2 BK286))
  refine bodyPost_ret (results_ct rfl _ _ gb286 26 #[.int .i64 t295, .int .i64 t296] (0, 0) _ rfl (bq BK286.out) Tryd.underlying26 rfl (by kernel_rfl)) rfl ?_
  exact ez
 ·rw [if_neg c6] at H
  have c6b0 := beq_eq_false_iff_ne.mpr c6
  have c6b1 := bne_iff_ne.mpr c6
  simp only [Option.some.injEq, Prod.mk.injEq] at H
  obtain ⟨rfl, rfl, rfl⟩ := H
  go_enter Tryd.func45, Tryd.ntmps45
  try go_wp2_with (first | ((with_reducible refine gate_dst (N := 2) rfl ?_); refine be 2 26 #[.int .i64 a0_0, .int .i64 a0_1] ?_; intro gb284 hg w26 hbox hb; have BK284 := m0 hbox; have GW284 := m0 (bg (n := w.heap.size) hg); have GE284 := m0 (bg (n := w.heap.size) hg); replace HB := sb HB hb; clear hb hbox hg) | ((with_reducible refine gate_dst (N := 3) rfl ?_); refine be 3 63 #[.int .i64 a1_0, .int .i64 a1_1, .int .i64 a1_2] ?_; intro gb285 hg w27 hbox hb; have BK285 := m0 hbox; have GW285 := m0 (bg (n := w.heap.size) hg); have GE285 := m0 (bg (n := w.heap.size) hg); replace HB := sb HB hb; have NB284_285 := nl BK284 hg; have NB285_284 := ng (nl BK284 hg); replace BK284 := bb BK284 hb; clear hb hbox hg) | ((with_reducible refine gate_dst (N := 4) rfl ?_); refine be 4 26 #[.int .i64 0, .int .i64 0] ?_; intro gb286 hg w28 hbox hb; have BK286 := m0 hbox; have GW286 := m0 (bg (n := w.heap.size) hg); have GE286 := m0 (bg (n := w.heap.size) hg); replace HB := sb HB hb; have NB284_286 := nl BK284 hg; have NB286_284 := ng (nl BK284 hg); replace BK284 := bb BK284 hb; have NB285_286 := nl BK285 hg; have NB286_285 := ng (nl BK285 hg); replace BK285 := bb BK285 hb; clear hb hbox hg))
  replace BK284 := bd BK284; replace BK285 := bd BK285; replace BK286 := bd BK286; replace HB := sd HB
  refine start_ (n := 7) (S := fun w' => w'.cell? ⟨gb284, 0, none⟩ = some (.int .i64 a0_0) ∧ w'.cell? ⟨gb284, 1, none⟩ = some (.int .i64 a0_1) ∧ w'.cell? ⟨gb285, 0, none⟩ = some (.int .i64 a1_0) ∧ w'.cell? ⟨gb285, 1, none⟩ = some (.int .i64 a1_1) ∧ w'.cell? ⟨gb285, 2, none⟩ = some (.int .i64 a1_2)) (ds := []) #[false, false, false, false, false, false, false] (by kernel_rfl) rfl rfl cz (fun hHeld => ?_)
  generalize w28.drew = w29 at BK284 BK285 BK286 HB hHeld ⊢
  refine takeZ 0 (some 7) #[true, false, false, false, false, false, false] (by kernel_rfl) hHeld ?_
  refine takeZ 2 (some 9) #[true, false, true, false, false, false, false] (by kernel_rfl) hHeld ?_
  refine oneZ 1 (some 8) #[true, true, true, false, false, false, false] (by kernel_rfl) fun K hK => ?_
  refine goes_ Tryd.func109 (by kernel_rfl) rfl #[.agg #[.int .i64 a0_0, .int .i64 a0_1], .int .i64 1000000000] (by rfl) rfl rfl mz ?_
  with_reducible refine (line_lowestErr.calls k a0_0 a0_1 1000000000 t287 _ A3.out).mono ?_
  rintro e w30 ⟨rfl, hb⟩
  refine ⟨_, rfl, ?_⟩
  replace BK284 := bb BK284 hb; replace BK285 := bb BK285 hb; replace BK286 := bb BK286 hb; replace HB := sb HB hb
  (try clear hb)
  refine hK.out _ _ cz (fun hHeld => ?_)
  clear hK K
  refine norm_ (a' := ?_) ?_ ?_
  rotate_left
  ·show Act.put _ (some 8) _ = _
   exact pz
  refine oneZ 3 (some 10) #[true, true, true, true, false, false, false] (by kernel_rfl) fun K hK => ?_
  refine goes_ Tryd.func110 (by kernel_rfl) rfl #[.agg #[.int .i64 a1_0, .int .i64 a1_1, .int .i64 a1_2]] (by rfl) rfl rfl mz ?_
  with_reducible refine (line_scaleErr.calls a1_0 a1_1 a1_2 t288 _ A4.out).mono ?_
  rintro e w31 ⟨rfl, hb⟩
  refine ⟨_, rfl, ?_⟩
  replace BK284 := bb BK284 hb; replace BK285 := bb BK285 hb; replace BK286 := bb BK286 hb; replace HB := sb HB hb
  (try clear hb)
  refine hK.out _ _ cz (fun hHeld => ?_)
  clear hK K
  refine norm_ (a' := ?_) ?_ ?_
  rotate_left
  ·show Act.put _ (some 10) _ = _
   exact pz
  refine oneZ 4 (some 11) #[true, true, true, true, true, false, false] (by kernel_rfl) fun K hK => ?_
  refine Kd.R_lit_step (Kd.int .i64) _ 31 ?hg (N := 11) ?hd (xs := ([t287, t288] : List Int)) (inner := [.int .i64 t287, .int .i64 t288]) (ok := fun _ => True) (okp := fun _ => True) ?hr ?hp (fun _ hk => hk) trivial (Below.refl _ _) (Nat.le_refl _) (by simp) ?_; (case hd => rfl); (case hg => rfl); (case hr => first | (go_simp; done) | (go_simp; rfl)); (case hp => exact (Reps.one (show Kd.M (Kd.int .i64) _ _ _ t287 [.int .i64 t287] from rfl) (Reps.one (show Kd.M (Kd.int .i64) _ _ _ t288 [.int .i64 t288] from rfl) (Reps.none _ _))))
  intro v290 w32 ho33 hb hg_ hnew_
  clear hg_ hnew_
  (first | rw [← Ny289.out] at ho33 | (simp only [Int.reduceToNat] at ho33; rw [← Ny289.out] at ho33))
  have HO291 := m0 (Kd.R_lower ho33 (below_size bz)); replace BK284 := bb BK284 hb; replace BK285 := bb BK285 hb; replace BK286 := bb BK286 hb; replace HB := sb HB hb
  clear hb ho33
  obtain ⟨Ao34, co34, eo34⟩ := Kd.R_slice HO291.out
  (first | subst eo34 | (injection eo34 with f1_ f2_ f3_; have f4_ := f1_.symm; have f5_ := f3_.symm; clear f1_ f2_ f3_; subst f4_; subst f5_))
  refine hK.out _ _ cz (fun hHeld => ?_)
  clear hK K
  refine norm_ (a' := ?_) ?_ ?_
  rotate_left
  ·show Act.put _ (some 11) _ = _
   exact pz
  refine oneZ 5 (some 12) #[true, true, true, true, true, true, false] (by kernel_rfl) fun K hK => ?_
  refine goes_ Tryd.func91 (by kernel_rfl) rfl #[.slice Ao34 y289.length co34] (by rfl) rfl rfl mz ?_
  with_reducible refine (line_first.calls k _ _ y289 t292 _ ?side1 ?side2 A5.out).mono ?_
  (case side1 => exact bc (Kd.R_reads' HO291.out).2.2)
  (case side2 => exact (Kd.R_reads' HO291.out).2.1)
  rintro e w' ⟨rfl, ⟨nd, rfl⟩⟩
  refine ⟨_, rfl, ?_⟩
  refine hK.out _ _ cz (fun hHeld => ?_)
  clear hK K
  refine norm_ (a' := ?_) ?_ ?_
  rotate_left
  ·show Act.put _ (some 12) _ = _
   exact pz
  refine pure_ (i := 6) (N := some 6) (v := ?_) (a' := ?_) #[true, true, true, true, true, true, true] rfl rfl (by kernel_rfl) (fun _ _ _ h => h) (Or.inl ⟨by rfl, ?_⟩) ?_ ?_
  rotate_left
  ·intro w'
   go_simp
   with_reducible rfl
  rotate_left
  ·exact pz
  refine done_ (by kernel_rfl) ?_
  have hnb35 := NB286_284.out
  have hnc35 := NB284_286.out
  have hnb36 := NB286_285.out
  have hnc36 := NB285_286.out
  obtain ⟨_, _, _, _⟩ := b2 BK286
  try go_wp2
  refine bodyPost_ret (results_ct rfl _ _ gb286 26 #[.int .i64 0, .int .i64 0] (0, 0) _ rfl (bq BK286.out) Tryd.underlying26 rfl (by kernel_rfl)) rfl ?_
  exact ez
end
section
def Bs_Ints.l0 : Nat → List Int → List Int → Int → Option (Bool)
 | 0, _, _, _ => none
 | k + 1, x0, x1, x5 => if x5 < (x0.length : Int) then (if 0 ≤ x5 then (if x5 < (x1.length : Int) then (if (rd x0 x5) = (rd x1 x5) then (Bs_Ints.l0 k x0 x1 (wrap64 (x5 + 1))) else (some false)) else (none)) else (none)) else (some true)
def Bs_Ints.f (k : Nat) (l0 : List Int) (l1 : List Int) : Option (Bool) := if (l0.length : Int) = (l1.length : Int) then (Bs_Ints.l0 k l0 l1 0) else (some false)
theorem Bs_Ints.mono_l : ∀ k, (∀ y0 y1 y2, LeO (Bs_Ints.l0 k y0 y1 y2) (Bs_Ints.l0 (k + 1) y0 y1 y2))
 | 0 => fun _ _ _ r h => by simp [Bs_Ints.l0] at h
 | k + 1 => by
  have ih0 := Bs_Ints.mono_l k
  ·intro y0 y1 y2
   unfold Bs_Ints.l0
   repeat' first
   | (with_reducible exact ih0 _ _ _)
   | (with_reducible exact LeO.refl _)
   | (with_reducible exact LeO.none _)
   | (with_reducible refine LeO.ite ?_ ?_)
   | (with_reducible refine LeO.bind ?_ (fun _ => ?_))
   | exact ih0 _ _ _
   | exact LeO.none _
   | refine LeO.ite ?_ ?_
   | refine LeO.bind ?_ (fun _ => ?_)
theorem Bs_Ints.mono : ∀ a0 a1 k, LeO (Bs_Ints.f k a0 a1) (Bs_Ints.f (k + 1) a0 a1) := by
 intro a0 a1 k
 have ih0 := Bs_Ints.mono_l k
 unfold Bs_Ints.f
 repeat' first
   | (with_reducible exact ih0 _ _ _)
   | (with_reducible exact LeO.refl _)
   | (with_reducible exact LeO.none _)
   | (with_reducible refine LeO.ite ?_ ?_)
   | (with_reducible refine LeO.bind ?_ (fun _ => ?_))
   | exact ih0 _ _ _
   | exact LeO.none _
   | refine LeO.ite ?_ ?_
   | refine LeO.bind ?_ (fun _ => ?_)
theorem Bs_Ints.calls (k : Nat) (A0 : Option Addr) (c0 : Nat) (l0 : List Int) (A1 : Option Addr) (c1 : Nat) (l1 : List Int) (r : Bool) (w : World) (hr0 : Kd.C (Kd.int .i64) w A0 l0.length l0) (hc0 : l0.length ≤ c0) (hr1 : Kd.C (Kd.int .i64) w A1 l1.length l1) (hc1 : l1.length ≤ c1) (h : Bs_Ints.f k l0 l1 = some r) :
  Calls Tryd.prog 57 #[.slice A0 l0.length c0, .slice A1 l1.length c1] w fun e w' => e = .returned (.bool r) ∧ Drawn0 w w' := by
 have HR0 := m0 hr0
 have HC0 := m0 hc0
 clear hr0 hc0
 have HR1 := m0 hr1
 have HC1 := m0 hc1
 clear hr1 hc1
 have H : (if (l0.length : Int) = (l1.length : Int) then (Bs_Ints.l0 k l0 l1 0) else (some false)) = some r := h
 clear h
 by_cases c3 : (l0.length : Int) = (l1.length : Int)
 ·rw [if_pos c3] at H
  have c3b0 := beq_iff_eq.mpr c3
  have c3b1 := bne_eq_false_iff_eq.mpr c3
  have c3b2 : (l0.length == l1.length) = true := by first | simpa using c3 | (simp at c3 ⊢; omega)
  clear c3
  have H' := m0 H
  clear H
  go_enter Tryd.func57, Tryd.ntmps57
  go_wp2
  repeat (go_quiet (fail); try go_wp2)
  go_loopg [5] k (fun kq v5 w' => ∃ (x5_1 : Int), v5 = .int .i64 x5_1 ∧ Aside0 (Bs_Ints.l0 kq l0 l1 x5_1 = some r) ∧ Aside0 (kq ≤ k) ∧ Drawn0 w w')
  case atStart => exact ⟨(0), (by first | rfl | (simp; done) | (simp [*]; done)), H', ⟨Nat.le_refl _⟩, by repeat (first | exact Drawn0.refl _ | apply Drawn0.step)⟩
  case round =>
   clear H'
   try clear c1
   try clear p2
   try clear c3
   try clear c3b0
   try clear c3b1
   try clear c3b2
   obtain ⟨x5_1, rfl, HA, HK1, ⟨m1, rfl⟩⟩ := hrel
   cases gk with
   | zero => exact absurd HA.out (by simp [Bs_Ints.l0])
   | succ k1 =>
    have H := HA.out
    clear HA
    simp only [Bs_Ints.l0] at H
    by_cases c4 : x5_1 < (l0.length : Int)
    ·rw [if_pos c4] at H
     have c4b0 := decide_eq_true c4
     clear c4
     by_cases c5 : 0 ≤ x5_1
     ·rw [if_pos c5] at H
      have c5b0 := decide_eq_true c5
      clear c5
      by_cases c6 : x5_1 < (l1.length : Int)
      ·rw [if_pos c6] at H
       have c6b0 := decide_eq_true c6
       clear c6
       by_cases c7 : (rd l0 x5_1) = (rd l1 x5_1)
       ·rw [if_pos c7] at H
        have c7b0 := beq_iff_eq.mpr c7
        have c7b1 := bne_eq_false_iff_eq.mpr c7
        clear c7
        have H' := m0 H
        clear H
        have p298 : 0 ≤ (x5_1 : Int) := of_decide_eq_true (by first | (with_reducible assumption) | assumption)
        have q298 : x5_1 < (l0.length : Int) := of_decide_eq_true (by first | (with_reducible assumption) | assumption)
        obtain ⟨ad298, e298, hx298_0⟩ := Kd.at_int HR0.out x5_1 p298 q298
        cases e298
        replace p298 := eq_true p298
        replace q298 := eq_true q298
        have p299 : 0 ≤ (x5_1 : Int) := of_decide_eq_true (by first | (with_reducible assumption) | assumption)
        have q299 : x5_1 < (l1.length : Int) := of_decide_eq_true (by first | (with_reducible assumption) | assumption)
        obtain ⟨ad299, e299, hx299_0⟩ := Kd.at_int HR1.out x5_1 p299 q299
        cases e299
        replace p299 := eq_true p299
        replace q299 := eq_true q299
        go_wp2
        repeat (go_quiet (fail); try go_wp2)
        go_roundg k1
        case measure => have := HK1.out; omega
        case rel => exact ⟨(wrap64 (x5_1 + 1)), (by first | rfl | (simp; done) | (simp [*]; done)), H', ⟨by have := HK1.out; omega⟩, by repeat (first | exact Drawn0.refl _ | apply Drawn0.step)⟩
       ·rw [if_neg c7] at H
        have c7b0 := beq_eq_false_iff_ne.mpr c7
        have c7b1 := bne_iff_ne.mpr c7
        obtain rfl := Option.some.inj H
        have p298 : 0 ≤ (x5_1 : Int) := of_decide_eq_true (by first | (with_reducible assumption) | assumption)
        have q298 : x5_1 < (l0.length : Int) := of_decide_eq_true (by first | (with_reducible assumption) | assumption)
        obtain ⟨ad298, e298, hx298_0⟩ := Kd.at_int HR0.out x5_1 p298 q298
        cases e298
        replace p298 := eq_true p298
        replace q298 := eq_true q298
        have p299 : 0 ≤ (x5_1 : Int) := of_decide_eq_true (by first | (with_reducible assumption) | assumption)
        have q299 : x5_1 < (l1.length : Int) := of_decide_eq_true (by first | (with_reducible assumption) | assumption)
        obtain ⟨ad299, e299, hx299_0⟩ := Kd.at_int HR1.out x5_1 p299 q299
        cases e299
        replace p299 := eq_true p299
        replace q299 := eq_true q299
        go_wp2
        repeat (go_quiet (fail); try go_wp2)
        go_ret
        exact ⟨by first | rfl | (simp; done) | (simp [*]; done), by repeat (first | exact Drawn0.refl _ | apply Drawn0.step)⟩
      ·rw [if_neg c6] at H
       exact absurd H (by simp)
     ·rw [if_neg c5] at H
      exact absurd H (by simp)
    ·rw [if_neg c4] at H
     have c4b0 := decide_eq_false c4
     clear c4
     obtain rfl := Option.some.inj H
     go_wp2
     repeat (go_quiet (fail); try go_wp2)
     go_ret
     exact ⟨by first | rfl | (simp; done) | (simp [*]; done), by repeat (first | exact Drawn0.refl _ | apply Drawn0.step)⟩
 ·rw [if_neg c3] at H
  have c3b0 := beq_eq_false_iff_ne.mpr c3
  have c3b1 := bne_iff_ne.mpr c3
  have c3b2 : (l0.length == l1.length) = false := by first | simpa using c3 | (simp at c3 ⊢; omega)
  obtain rfl := Option.some.inj H
  go_enter Tryd.func57, Tryd.ntmps57
  go_wp2
  repeat (go_quiet (fail); try go_wp2)
  go_ret
  exact ⟨by first | rfl | (simp; done) | (simp [*]; done), by repeat (first | exact Drawn0.refl _ | apply Drawn0.step)⟩
end
section
def Lw_Noise.f  : Option (List Int) := some (([0, 1] : List Int))
theorem Lw_Noise.calls  (r : List Int) (w : World) (h : Lw_Noise.f  = some r) :
  Calls Tryd.prog 89 #[] w fun e w' => ∃ v0_ : Value, e = .returned (.agg #[v0_]) ∧ Kd.R (Kd.int .i64) 3 w' w.heap.size (fun _ => True) v0_ r ∧ Below w.heap.size w w' := by
 have hu24 := Tryd.underlying24
 have HB := m0 (Below.refl w.heap.size w)
 have H : (some (([0, 1] : List Int))) = some r := h
 clear h
 obtain ⟨y329, hy329⟩ : ∃ y_ : List Int, y_ = (([0, 1] : List Int)) := ⟨_, rfl⟩
 replace H : (some y329) = some r := by first | (rw [hy329]; with_reducible exact H) | (have H2_ := (Option.bind_some _ _).symm.trans H; rw [hy329]; with_reducible exact H2_) | (have H2_ := (Option.bind_some _ _).symm.trans H; with_reducible exact H2_) | with_reducible exact H | (rw [hy329]; exact H) | exact H
 have Ny329 := m0 hy329
 clear hy329
 obtain rfl := Option.some.inj H
 go_enter Tryd.func89, Tryd.ntmps89
 go_wp2_with (first | ((with_reducible refine gate_dst (N := 0) rfl ?_); refine be 0 24 #[.slice none 0 0] ?_; intro gb328 hg w1 hbox hb; have BK328 := m0 hbox; have GW328 := m0 (bg (n := w.heap.size) hg); have GE328 := m0 (bg (n := w.heap.size) hg); replace HB := sb HB hb; clear hb hbox hg) | ((with_reducible refine gate_dst (N := 1) rfl ?_); refine Kd.R_lit (Kd.int .i64) _ 3 ?hg (N := 1) ?hd (xs := ([0, 1] : List Int)) (inner := [.int .i64 0, .int .i64 1]) (ok := fun _ => True) (okp := fun _ => True) ?hr ?hp (fun _ hk => hk) trivial (Below.refl _ _) (Nat.le_refl _) (by simp) ?_; (case hd => rfl); (case hg => rfl); (case hr => first | (go_simp; done) | (go_simp; rfl)); (case hp => exact (Reps.one (show Kd.M (Kd.int .i64) _ _ _ 0 [.int .i64 0] from rfl) (Reps.one (show Kd.M (Kd.int .i64) _ _ _ 1 [.int .i64 1] from rfl) (Reps.none _ _)))); intro v330 w2 ho3 hb hg_ hnew_; clear hg_ hnew_; (first | rw [← Ny329.out] at ho3 | (simp only [Int.reduceToNat] at ho3; rw [← Ny329.out] at ho3)); have HO331 := m0 (Kd.R_lower ho3 (below_size bz)); replace BK328 := bb BK328 hb; replace HB := sb HB hb; clear hb ho3; obtain ⟨Ao4, co4, eo4⟩ := Kd.R_slice HO331.out; subst eo4; obtain ⟨_, _⟩ := b1 BK328))
 refine bodyPost_ret (results_cell_row rfl _ _ gb328 24 #[.slice Ao4 y329.length co4] (0, 0) _ rfl (bq BK328.out) Tryd.underlying24 rfl (by kernel_rfl)) rfl ?_
 exact ⟨_, by first | rfl | (simp [errW_none, errW_some] <;> rfl) | (simp [*, errW_none, errW_some] <;> rfl), by (with_reducible repeat (first | apply Kd.R_alloc | apply Kd.R_drewN | apply Kd.R_drew)); exact Kd.R_mono (Kd.R_far (p := ⟨gb328, 0, none⟩) (Kd.R_types HO331.out BK328.out (by decide)) (fun _ hk => hk.2) (.slice Ao4 y329.length co4)) (fun _ hk => trivial), by repeat (first | (with_reducible first | exact HB.out | apply below_alloc | apply pw_below_drewN | apply below_drew1 | refine below_set ?_ GE328.out) | exact HB.out)⟩
end
section
def Lw_Case.f  : Option (List Int × List Int × Int × Int) := (Lw_Noise.f).bind fun t336 => ((Bs_Whole.f 0).bind fun bt339 => (some ((([2, 2] : List Int)), t336, bt339.1, bt339.2)))
theorem Lw_Case.calls  (r1 : List Int) (r2 : List Int) (r3 : Int) (r4 : Int) (w : World) (h : Lw_Case.f  = some (r1, r2, r3, r4)) :
  Calls Tryd.prog 90 #[] w fun e w' => ∃ v0_ v1_ : Value, e = .returned (.agg #[v0_, v1_, .int .i64 r3, .int .i64 r4]) ∧ Kd.R (Kd.int .i64) 3 w' w.heap.size (fun k_ => some k_ ≠ (v1_ : Value).ownBlock) v0_ r1 ∧ Kd.R (Kd.int .i64) 3 w' w.heap.size (fun k_ => some k_ ≠ (v0_ : Value).ownBlock) v1_ r2 ∧ Below w.heap.size w w' := by
 have hu28 := Tryd.underlying28
 have HB := m0 (Below.refl w.heap.size w)
 have H : ((Lw_Noise.f).bind fun t336 => ((Bs_Whole.f 0).bind fun bt339 => (some ((([2, 2] : List Int)), t336, bt339.1, bt339.2)))) = some (r1, r2, r3, r4) := h
 clear h
 obtain ⟨y333, hy333⟩ : ∃ y_ : List Int, y_ = (([2, 2] : List Int)) := ⟨_, rfl⟩
 replace H : ((Lw_Noise.f).bind fun t336 => ((Bs_Whole.f 0).bind fun bt339 => (some (y333, t336, bt339.1, bt339.2)))) = some (r1, r2, r3, r4) := by first | (rw [hy333]; with_reducible exact H) | (have H2_ := (Option.bind_some _ _).symm.trans H; rw [hy333]; with_reducible exact H2_) | (have H2_ := (Option.bind_some _ _).symm.trans H; with_reducible exact H2_) | with_reducible exact H | (rw [hy333]; exact H) | exact H
 have Ny333 := m0 hy333
 clear hy333
 replace H := ob H
 obtain ⟨t336, A10, H⟩ := H
 (try dsimp only at H)
 have A1 := m0 A10
 clear A10
 replace H := ob H
 obtain ⟨⟨t339, t340⟩, A20, H⟩ := H
 (try dsimp only at H)
 have A2 := m0 A20
 clear A20
 simp only [Option.some.injEq, Prod.mk.injEq] at H
 obtain ⟨rfl, rfl, rfl, rfl⟩ := H
 go_enter Tryd.func90, Tryd.ntmps90
 go_wp2_with (first | ((with_reducible refine gate_dst (N := 0) rfl ?_); refine be 0 28 #[.slice none 0 0, .slice none 0 0, .int .i64 0, .int .i64 0] ?_; intro gb332 hg w3 hbox hb; have BK332 := m0 hbox; have GW332 := m0 (bg (n := w.heap.size) hg); have GE332 := m0 (bg (n := w.heap.size) hg); replace HB := sb HB hb; clear hb hbox hg) | ((with_reducible refine gate_dst (N := 1) rfl ?_); refine Kd.R_lit (Kd.int .i64) _ 3 ?hg (N := 1) ?hd (xs := ([2, 2] : List Int)) (inner := [.int .i64 2, .int .i64 2]) (ok := fun _ => True) (okp := fun _ => True) ?hr ?hp (fun _ hk => hk) trivial (Below.refl _ _) (Nat.le_refl _) (by simp) ?_; (case hd => rfl); (case hg => rfl); (case hr => first | (go_simp; done) | (go_simp; rfl)); (case hp => exact (Reps.one (show Kd.M (Kd.int .i64) _ _ _ 2 [.int .i64 2] from rfl) (Reps.one (show Kd.M (Kd.int .i64) _ _ _ 2 [.int .i64 2] from rfl) (Reps.none _ _)))); intro v334 w4 ho5 hb hg_ hnew_; clear hg_ hnew_; (first | rw [← Ny333.out] at ho5 | (simp only [Int.reduceToNat] at ho5; rw [← Ny333.out] at ho5)); have HO335 := m0 (Kd.R_lower ho5 (below_size bz)); replace BK332 := bb BK332 hb; replace HB := sb HB hb; clear hb ho5) | ((with_reducible refine gate_callee (f := 89) rfl ?_); refine gl (some 2) Tryd.func89 #[] ?_; (with_reducible refine (Lw_Noise.calls  t336 _ A1.out).mono ?_); rintro e w6 ⟨v337, rfl, ho0, hb⟩; refine ⟨_, rfl, ?_⟩; have HO338 := m0 (Kd.R_lower (Kd.R_new' ho0 (Kd.R_lt (br HO335.out))) (below_size bz)); replace HO335 := m0 (Kd.R_elder' (br HO335.out) (Kd.R_base ho0) hb); replace BK332 := bb BK332 hb; replace HB := sb HB hb; (try clear hb); (try clear ho0)) | ((with_reducible refine gate_callee (f := 38) rfl ?_); refine gl (some 3) Tryd.func38 #[.int .i64 0] ?_; (with_reducible refine (Bs_Whole.calls 0 t339 t340 _ A2.out).mono ?_); rintro e w7 ⟨rfl, hb⟩; refine ⟨_, rfl, ?_⟩; replace HO335 := rb HO335 hb; replace HO338 := rb HO338 hb; replace BK332 := bb BK332 hb; replace HB := sb HB hb; (try clear hb); obtain ⟨Ao8, co8, eo8⟩ := Kd.R_slice HO338.out; subst eo8; obtain ⟨Ao9, co9, eo9⟩ := Kd.R_slice HO335.out; subst eo9; obtain ⟨_, _, _, _, _, _, _, _⟩ := b4 BK332))
 refine bodyPost_ret (results_cell_row rfl _ _ gb332 28 #[.slice Ao9 y333.length co9, .slice Ao8 t336.length co8, .int .i64 t339, .int .i64 t340] (0, 0) _ rfl (bq BK332.out) Tryd.underlying28 rfl (by kernel_rfl)) rfl ?_
 exact ⟨_, _, by first | rfl | (simp [errW_none, errW_some] <;> rfl) | (simp [*, errW_none, errW_some] <;> rfl), by (with_reducible repeat (first | apply Kd.R_alloc | apply Kd.R_drewN | apply Kd.R_drew)); exact Kd.R_mono (Kd.R_far (p := ⟨gb332, 3, none⟩) (Kd.R_far (p := ⟨gb332, 2, none⟩) (Kd.R_far (p := ⟨gb332, 1, none⟩) (Kd.R_far (p := ⟨gb332, 0, none⟩) (Kd.R_types HO335.out BK332.out (by decide)) (fun _ hk => hk.2) (.slice Ao9 y333.length co9)) (fun _ hk => hk.2) (.slice Ao8 t336.length co8)) (fun _ hk => hk.2) (.int .i64 t339)) (fun _ hk => hk.2) (.int .i64 t340)) (fun _ hk => hk.1.2), by (with_reducible repeat (first | apply Kd.R_alloc | apply Kd.R_drewN | apply Kd.R_drew)); exact Kd.R_mono (Kd.R_far (p := ⟨gb332, 3, none⟩) (Kd.R_far (p := ⟨gb332, 2, none⟩) (Kd.R_far (p := ⟨gb332, 1, none⟩) (Kd.R_far (p := ⟨gb332, 0, none⟩) (Kd.R_types HO338.out BK332.out (by decide)) (fun _ hk => hk.2) (.slice Ao9 y333.length co9)) (fun _ hk => hk.2) (.slice Ao8 t336.length co8)) (fun _ hk => hk.2) (.int .i64 t339)) (fun _ hk => hk.2) (.int .i64 t340)) (fun _ hk => hk.1.2), by repeat (first | (with_reducible first | exact HB.out | apply below_alloc | apply pw_below_drewN | apply below_drew1 | refine below_set ?_ GE332.out) | exact HB.out)⟩
end
end Go.Proofs.YtjnkphmcndaijaaDoor.A
