/- Walks of the program's functions (printed, made shorter), each with what it computes. -/
import Derived.Test.YtjnkphmcndaijaaDoorBes04
import Derived.Test.YtjnkphmcndaijaaDoorBes06
import Derived.Test.YtjnkphmcndaijaaDoorBes03
import Derived.Test.YtjnkphmcndaijaaDoorBes11
import Derived.Shelf.RegionOpen
import Derived.Test.YtjnkphmcndaijaaDoorBes05
import Derived.Test.YtjnkphmcndaijaaDoorBes10
import Derived.Test.YtjnkphmcndaijaaDoorBes09
namespace Go.Proofs.YtjnkphmcndaijaaDoor.A
set_option maxHeartbeats 8000000
set_option maxRecDepth 100000
open Go.RowKit Go.Proofs.YtjnkphmcndaijaaDoorW.PrintWords Go.Proofs.YtjnkphmcndaijaaDoorW.PrintLast Go.Proofs.YtjnkphmcndaijaaDoorW.PrintMore
attribute [local go_sem] max2_int min2_int max_two min_two max_three min_three max_four min_four
set_option linter.unusedVariables false
set_option linter.unusedSimpArgs false
section
def line_small.f (a0_0 : Int) (a0_1 : Int) : Option (Int × Int × Int) := (line_within.f a0_0 (-1000000000) 1000000000).bind fun t283 => (if t283 = true then (if a0_1 > 1000000000 then (some (0, 0, 8)) else (some (a0_0, a0_1, 0))) else (some (0, 0, 8)))
theorem line_small.calls (a0_0 : Int) (a0_1 : Int) (r1 : Int) (r2 : Int) (r3 : Int) (w : World) (h : line_small.f a0_0 a0_1 = some (r1, r2, r3)) :
  Calls Tryd.prog 111 #[.agg #[.int .i64 a0_0, .int .i64 a0_1]] w fun e w' => e = .returned (.tuple #[.agg #[.int .i64 r1, .int .i64 r2], .int .i64 r3]) ∧ Below w.heap.size w w' := by
 have hu26 := Tryd.underlying26
 have HB := m0 (Below.refl w.heap.size w)
 have H : ((line_within.f a0_0 (-1000000000) 1000000000).bind fun t283 => (if t283 = true then (if a0_1 > 1000000000 then (some (0, 0, 8)) else (some (a0_0, a0_1, 0))) else (some (0, 0, 8)))) = some (r1, r2, r3) := h
 clear h
 replace H := ob H
 obtain ⟨t283, A20, H⟩ := H
 (try dsimp only at H)
 have A2 := m0 A20
 clear A20
 by_cases c3 : t283 = true
 ·subst c3
  rw [if_pos rfl] at H
  by_cases c4 : a0_1 > 1000000000
  ·rw [if_pos c4] at H
   have c4b0 := decide_eq_true c4
   clear c4
   simp only [Option.some.injEq, Prod.mk.injEq] at H
   obtain ⟨rfl, rfl, rfl⟩ := H
   go_enter Tryd.func111, Tryd.ntmps111
   go_wp2_with (first | ((with_reducible refine gate_dst (N := 1) rfl ?_); refine be 1 26 #[.int .i64 a0_0, .int .i64 a0_1] ?_; intro gb281 hg w5 hbox hb; have BK281 := m0 hbox; have GW281 := m0 (bg (n := w.heap.size) hg); have GE281 := m0 (bg (n := w.heap.size) hg); replace HB := sb HB hb; clear hb hbox hg) | ((with_reducible refine gate_dst (N := 2) rfl ?_); refine be 2 26 #[.int .i64 0, .int .i64 0] ?_; intro gb282 hg w6 hbox hb; have BK282 := m0 hbox; have GW282 := m0 (bg (n := w.heap.size) hg); have GE282 := m0 (bg (n := w.heap.size) hg); replace HB := sb HB hb; have NB281_282 := nl BK281 hg; have NB282_281 := ng (nl BK281 hg); replace BK281 := bb BK281 hb; clear hb hbox hg; have hnb7 := NB281_282.out; have hnc7 := NB282_281.out; obtain ⟨_, _, _, _⟩ := b2 BK281) | ((with_reducible refine gate_callee (f := 105) rfl ?_); refine gl (some 6) Tryd.func105 #[.int .i64 a0_0, .int .i64 (-1000000000), .int .i64 1000000000] ?_; (with_reducible refine (line_within.calls a0_0 (-1000000000) 1000000000 true _ A2.out).mono ?_); rintro e w' ⟨rfl, ⟨nd, rfl⟩⟩; refine ⟨_, rfl, ?_⟩; (try (rw [drewN_self w6]; generalize hq_ : World.drewN w6 _ = w6; replace BK281 := gd BK281 hq_; replace BK282 := gd BK282 hq_; replace HB := gs HB hq_; clear hq_)); obtain ⟨_, _, _, _⟩ := b2 BK281; obtain ⟨_, _, _, _⟩ := b2 BK282))
   refine bodyPost_ret (results_ct rfl _ _ gb282 26 #[.int .i64 0, .int .i64 0] (0, 0) _ rfl (bq BK282.out) Tryd.underlying26 rfl (by kernel_rfl)) rfl ?_
   exact ez
  ·rw [if_neg c4] at H
   have c4b0 := decide_eq_false c4
   clear c4
   simp only [Option.some.injEq, Prod.mk.injEq] at H
   obtain ⟨rfl, rfl, rfl⟩ := H
   go_enter Tryd.func111, Tryd.ntmps111
   go_wp2_with (first | ((with_reducible refine gate_dst (N := 1) rfl ?_); refine be 1 26 #[.int .i64 a0_0, .int .i64 a0_1] ?_; intro gb281 hg w11 hbox hb; have BK281 := m0 hbox; have GW281 := m0 (bg (n := w.heap.size) hg); have GE281 := m0 (bg (n := w.heap.size) hg); replace HB := sb HB hb; clear hb hbox hg) | ((with_reducible refine gate_dst (N := 2) rfl ?_); refine be 2 26 #[.int .i64 0, .int .i64 0] ?_; intro gb282 hg w12 hbox hb; have BK282 := m0 hbox; have GW282 := m0 (bg (n := w.heap.size) hg); have GE282 := m0 (bg (n := w.heap.size) hg); replace HB := sb HB hb; have NB281_282 := nl BK281 hg; have NB282_281 := ng (nl BK281 hg); replace BK281 := bb BK281 hb; clear hb hbox hg; have hnb13 := NB281_282.out; have hnc13 := NB282_281.out; obtain ⟨_, _, _, _⟩ := b2 BK281) | ((with_reducible refine gate_callee (f := 105) rfl ?_); refine gl (some 6) Tryd.func105 #[.int .i64 a0_0, .int .i64 (-1000000000), .int .i64 1000000000] ?_; (with_reducible refine (line_within.calls a0_0 (-1000000000) 1000000000 true _ A2.out).mono ?_); rintro e w' ⟨rfl, ⟨nd, rfl⟩⟩; refine ⟨_, rfl, ?_⟩; (try (rw [drewN_self w12]; generalize hq_ : World.drewN w12 _ = w12; replace BK281 := gd BK281 hq_; replace BK282 := gd BK282 hq_; replace HB := gs HB hq_; clear hq_)); obtain ⟨_, _, _, _⟩ := b2 BK281; obtain ⟨_, _, _, _⟩ := b2 BK282))
   refine bodyPost_ret (results_ct rfl _ _ gb282 26 #[.int .i64 a0_0, .int .i64 a0_1] (0, 0) _ rfl (bq BK282.out) Tryd.underlying26 rfl (by kernel_rfl)) rfl ?_
   exact ez
 ·replace c3 := Bool.eq_false_iff.mpr c3
  subst c3
  rw [if_neg (show ¬ (false = true) by decide)] at H
  simp only [Option.some.injEq, Prod.mk.injEq] at H
  obtain ⟨rfl, rfl, rfl⟩ := H
  go_enter Tryd.func111, Tryd.ntmps111
  go_wp2_with (first | ((with_reducible refine gate_dst (N := 1) rfl ?_); refine be 1 26 #[.int .i64 a0_0, .int .i64 a0_1] ?_; intro gb281 hg w17 hbox hb; have BK281 := m0 hbox; have GW281 := m0 (bg (n := w.heap.size) hg); have GE281 := m0 (bg (n := w.heap.size) hg); replace HB := sb HB hb; clear hb hbox hg) | ((with_reducible refine gate_dst (N := 2) rfl ?_); refine be 2 26 #[.int .i64 0, .int .i64 0] ?_; intro gb282 hg w18 hbox hb; have BK282 := m0 hbox; have GW282 := m0 (bg (n := w.heap.size) hg); have GE282 := m0 (bg (n := w.heap.size) hg); replace HB := sb HB hb; have NB281_282 := nl BK281 hg; have NB282_281 := ng (nl BK281 hg); replace BK281 := bb BK281 hb; clear hb hbox hg; have hnb19 := NB281_282.out; have hnc19 := NB282_281.out; obtain ⟨_, _, _, _⟩ := b2 BK281) | ((with_reducible refine gate_callee (f := 105) rfl ?_); refine gl (some 6) Tryd.func105 #[.int .i64 a0_0, .int .i64 (-1000000000), .int .i64 1000000000] ?_; (with_reducible refine (line_within.calls a0_0 (-1000000000) 1000000000 false _ A2.out).mono ?_); rintro e w' ⟨rfl, ⟨nd, rfl⟩⟩; refine ⟨_, rfl, ?_⟩; (try (rw [drewN_self w18]; generalize hq_ : World.drewN w18 _ = w18; replace BK281 := gd BK281 hq_; replace BK282 := gd BK282 hq_; replace HB := gs HB hq_; clear hq_)); obtain ⟨_, _, _, _⟩ := b2 BK282))
  refine bodyPost_ret (results_ct rfl _ _ gb282 26 #[.int .i64 0, .int .i64 0] (0, 0) _ rfl (bq BK282.out) Tryd.underlying26 rfl (by kernel_rfl)) rfl ?_
  exact ez
end
section
def line_SpeedAt.f (k : Nat) (a0_0 : Int) (a0_1 : Int) (a1_0 : Int) (a1_1 : Int) (a1_2 : Int) : Option (Int × Int × Int) := (line_lowestErr.f k a0_0 a0_1 1000000000).bind fun t287 => ((line_scaleErr.f a1_0 a1_1 a1_2).bind fun t288 => ((line_first.f k (([t287, t288] : List Int))).bind fun t292 => (if t292 = 0 then ((line_fraction.f k (wrap64 ((wrap64 (a0_0 - (wrap64 (a1_0 * a0_1)))) * a1_1)) (wrap64 (a0_1 * a1_2))).bind fun bt293 => ((line_small.f bt293.1 bt293.2).bind fun bt295 => (some (bt295.1, bt295.2.1, bt295.2.2)))) else (some (0, 0, t292)))))
theorem line_SpeedAt.mono : ∀ a0 a1 a2 a3 a4 k, LeO (line_SpeedAt.f k a0 a1 a2 a3 a4) (line_SpeedAt.f (k + 1) a0 a1 a2 a3 a4) := by
 intro a0 a1 a2 a3 a4 k
 unfold line_SpeedAt.f
 repeat' first
   | (with_reducible exact line_first.mono _ _)
   | (with_reducible exact line_fraction.mono _ _ _)
   | (with_reducible exact line_lowestErr.mono _ _ _ _)
   | (with_reducible exact LeO.refl _)
   | (with_reducible exact LeO.none _)
   | (with_reducible refine LeO.ite ?_ ?_)
   | (with_reducible refine LeO.bind ?_ (fun _ => ?_))
   | exact line_first.mono _ _
   | exact line_fraction.mono _ _ _
   | exact line_lowestErr.mono _ _ _ _
   | exact LeO.none _
   | refine LeO.ite ?_ ?_
   | refine LeO.bind ?_ (fun _ => ?_)
theorem line_SpeedAt.calls (k : Nat) (a0_0 : Int) (a0_1 : Int) (a1_0 : Int) (a1_1 : Int) (a1_2 : Int) (r1 : Int) (r2 : Int) (r3 : Int) (w : World) (h : line_SpeedAt.f k a0_0 a0_1 a1_0 a1_1 a1_2 = some (r1, r2, r3)) :
  Calls Tryd.prog 45 #[.agg #[.int .i64 a0_0, .int .i64 a0_1], .agg #[.int .i64 a1_0, .int .i64 a1_1, .int .i64 a1_2]] w fun e w' => e = .returned (.tuple #[.agg #[.int .i64 r1, .int .i64 r2], .int .i64 r3]) ∧ Below w.heap.size w w' := by
 have hu26 := Tryd.underlying26
 have hu63 := Tryd.underlying63
 have HB := m0 (Below.refl w.heap.size w)
 have H : ((line_lowestErr.f k a0_0 a0_1 1000000000).bind fun t287 => ((line_scaleErr.f a1_0 a1_1 a1_2).bind fun t288 => ((line_first.f k (([t287, t288] : List Int))).bind fun t292 => (if t292 = 0 then ((line_fraction.f k (wrap64 ((wrap64 (a0_0 - (wrap64 (a1_0 * a0_1)))) * a1_1)) (wrap64 (a0_1 * a1_2))).bind fun bt293 => ((line_small.f bt293.1 bt293.2).bind fun bt295 => (some (bt295.1, bt295.2.1, bt295.2.2)))) else (some (0, 0, t292)))))) = some (r1, r2, r3) := h
 clear h
 replace H := ob H
 obtain ⟨t287, A30, H⟩ := H
 (try dsimp only at H)
 have A3 := m0 A30
 clear A30
 replace H := ob H
 obtain ⟨t288, A40, H⟩ := H
 (try dsimp only at H)
 have A4 := m0 A40
 clear A40
 obtain ⟨y289, hy289⟩ : ∃ y_ : List Int, y_ = (([t287, t288] : List Int)) := ⟨_, rfl⟩
 replace H : ((line_first.f k y289).bind fun t292 => (if t292 = 0 then ((line_fraction.f k (wrap64 ((wrap64 (a0_0 - (wrap64 (a1_0 * a0_1)))) * a1_1)) (wrap64 (a0_1 * a1_2))).bind fun bt293 => ((line_small.f bt293.1 bt293.2).bind fun bt295 => (some (bt295.1, bt295.2.1, bt295.2.2)))) else (some (0, 0, t292)))) = some (r1, r2, r3) := by first | (rw [hy289]; with_reducible exact H) | (have H2_ := (Option.bind_some _ _).symm.trans H; rw [hy289]; with_reducible exact H2_) | (have H2_ := (Option.bind_some _ _).symm.trans H; with_reducible exact H2_) | with_reducible exact H | (rw [hy289]; exact H) | exact H
 have Ny289 := m0 hy289
 clear hy289
 replace H := ob H
 obtain ⟨t292, A50, H⟩ := H
 (try dsimp only at H)
 have A5 := m0 A50
 clear A50
 by_cases c6 : t292 = 0
 ·rw [if_pos c6] at H
  have c6b0 := beq_iff_eq.mpr c6
  have c6b1 := bne_eq_false_iff_eq.mpr c6
  clear c6
  replace H := ob H
  obtain ⟨⟨t293, t294⟩, A70, H⟩ := H
  (try dsimp only at H)
  have A7 := m0 A70
  clear A70
  replace H := ob H
  obtain ⟨⟨t295, t296, t297⟩, A80, H⟩ := H
  (try dsimp only at H)
  have A8 := m0 A80
  clear A80
  simp only [Option.some.injEq, Prod.mk.injEq] at H
  obtain ⟨rfl, rfl, rfl⟩ := H
  go_enter Tryd.func45, Tryd.ntmps45
  try go_wp2_with (first | ((with_reducible refine gate_dst (N := 2) rfl ?_); refine be 2 26 #[.int .i64 a0_0, .int .i64 a0_1] ?_; intro gb284 hg w9 hbox hb; have BK284 := m0 hbox; have GW284 := m0 (bg (n := w.heap.size) hg); have GE284 := m0 (bg (n := w.heap.size) hg); replace HB := sb HB hb; clear hb hbox hg) | ((with_reducible refine gate_dst (N := 3) rfl ?_); refine be 3 63 #[.int .i64 a1_0, .int .i64 a1_1, .int .i64 a1_2] ?_; intro gb285 hg w10 hbox hb; have BK285 := m0 hbox; have GW285 := m0 (bg (n := w.heap.size) hg); have GE285 := m0 (bg (n := w.heap.size) hg); replace HB := sb HB hb; have NB284_285 := nl BK284 hg; have NB285_284 := ng (nl BK284 hg); replace BK284 := bb BK284 hb; clear hb hbox hg) | ((with_reducible refine gate_dst (N := 4) rfl ?_); refine be 4 26 #[.int .i64 0, .int .i64 0] ?_; intro gb286 hg w11 hbox hb; have BK286 := m0 hbox; have GW286 := m0 (bg (n := w.heap.size) hg); have GE286 := m0 (bg (n := w.heap.size) hg); replace HB := sb HB hb; have NB284_286 := nl BK284 hg; have NB286_284 := ng (nl BK284 hg); replace BK284 := bb BK284 hb; have NB285_286 := nl BK285 hg; have NB286_285 := ng (nl BK285 hg); replace BK285 := bb BK285 hb; clear hb hbox hg))
  replace BK284 := bd BK284; replace BK285 := bd BK285; replace BK286 := bd BK286; replace HB := sd HB
  refine start_ (n := 7) (S := fun w' => w'.cell? ⟨gb284, 0, none⟩ = some (.int .i64 a0_0) ∧ w'.cell? ⟨gb284, 1, none⟩ = some (.int .i64 a0_1) ∧ w'.cell? ⟨gb285, 0, none⟩ = some (.int .i64 a1_0) ∧ w'.cell? ⟨gb285, 1, none⟩ = some (.int .i64 a1_1) ∧ w'.cell? ⟨gb285, 2, none⟩ = some (.int .i64 a1_2)) (ds := []) #[false, false, false, false, false, false, false] (by kernel_rfl) rfl rfl cz (fun hHeld => ?_)
  generalize w11.drew = w12 at BK284 BK285 BK286 HB hHeld ⊢
  refine takeZ 0 (some 7) #[true, false, false, false, false, false, false] (by kernel_rfl) hHeld ?_
  refine takeZ 2 (some 9) #[true, false, true, false, false, false, false] (by kernel_rfl) hHeld ?_
  refine oneZ 1 (some 8) #[true, true, true, false, false, false, false] (by kernel_rfl) fun K hK => ?_
  refine goes_ Tryd.func109 (by kernel_rfl) rfl #[.agg #[.int .i64 a0_0, .int .i64 a0_1], .int .i64 1000000000] (by rfl) rfl rfl mz ?_
  with_reducible refine (line_lowestErr.calls k a0_0 a0_1 1000000000 t287 _ A3.out).mono ?_
  rintro e w13 ⟨rfl, hb⟩
  refine ⟨_, rfl, ?_⟩
  replace BK284 := bb BK284 hb; replace BK285 := bb BK285 hb; replace BK286 := bb BK286 hb; replace HB := sb HB hb
  (try clear hb)
  refine hK.out _ _ cz (fun hHeld => ?_)
  clear hK K
  refine norm_ (a' := ?_) ?_ ?_
  rotate_left
  ·show Act.put _ (some 8) _ = _
   exact pz
  refine oneZ 3 (some 10) #[true, true, true, true, false, false, false] (by kernel_rfl) fun K hK => ?_
  refine goes_ Tryd.func110 (by kernel_rfl) rfl #[.agg #[.int .i64 a1_0, .int .i64 a1_1, .int .i64 a1_2]] (by rfl) rfl rfl mz ?_
  with_reducible refine (line_scaleErr.calls a1_0 a1_1 a1_2 t288 _ A4.out).mono ?_
  rintro e w14 ⟨rfl, hb⟩
  refine ⟨_, rfl, ?_⟩
  replace BK284 := bb BK284 hb; replace BK285 := bb BK285 hb; replace BK286 := bb BK286 hb; replace HB := sb HB hb
  (try clear hb)
  refine hK.out _ _ cz (fun hHeld => ?_)
  clear hK K
  refine norm_ (a' := ?_) ?_ ?_
  rotate_left
  ·show Act.put _ (some 10) _ = _
   exact pz
  refine oneZ 4 (some 11) #[true, true, true, true, true, false, false] (by kernel_rfl) fun K hK => ?_
  refine Kd.R_lit_step (Kd.int .i64) _ 31 ?hg (N := 11) ?hd (xs := ([t287, t288] : List Int)) (inner := [.int .i64 t287, .int .i64 t288]) (ok := fun _ => True) (okp := fun _ => True) ?hr ?hp (fun _ hk => hk) trivial (Below.refl _ _) (Nat.le_refl _) (by simp) ?_; (case hd => rfl); (case hg => rfl); (case hr => first | (go_simp; done) | (go_simp; rfl)); (case hp => exact (Reps.one (show Kd.M (Kd.int .i64) _ _ _ t287 [.int .i64 t287] from rfl) (Reps.one (show Kd.M (Kd.int .i64) _ _ _ t288 [.int .i64 t288] from rfl) (Reps.none _ _))))
  intro v290 w15 ho16 hb hg_ hnew_
  clear hg_ hnew_
  (first | rw [← Ny289.out] at ho16 | (simp only [Int.reduceToNat] at ho16; rw [← Ny289.out] at ho16))
  have HO291 := m0 (Kd.R_lower ho16 (below_size bz)); replace BK284 := bb BK284 hb; replace BK285 := bb BK285 hb; replace BK286 := bb BK286 hb; replace HB := sb HB hb
  clear hb ho16
  obtain ⟨Ao17, co17, eo17⟩ := Kd.R_slice HO291.out
  (first | subst eo17 | (injection eo17 with f1_ f2_ f3_; have f4_ := f1_.symm; have f5_ := f3_.symm; clear f1_ f2_ f3_; subst f4_; subst f5_))
  refine hK.out _ _ cz (fun hHeld => ?_)
  clear hK K
  refine norm_ (a' := ?_) ?_ ?_
  rotate_left
  ·show Act.put _ (some 11) _ = _
   exact pz
  refine oneZ 5 (some 12) #[true, true, true, true, true, true, false] (by kernel_rfl) fun K hK => ?_
  refine goes_ Tryd.func91 (by kernel_rfl) rfl #[.slice Ao17 y289.length co17] (by rfl) rfl rfl mz ?_
  with_reducible refine (line_first.calls k _ _ y289 t292 _ ?side1 ?side2 A5.out).mono ?_
  (case side1 => exact bc (Kd.R_reads' HO291.out).2.2)
  (case side2 => exact (Kd.R_reads' HO291.out).2.1)
  rintro e w' ⟨rfl, ⟨nd, rfl⟩⟩
  refine ⟨_, rfl, ?_⟩
  refine hK.out _ _ cz (fun hHeld => ?_)
  clear hK K
  refine norm_ (a' := ?_) ?_ ?_
  rotate_left
  ·show Act.put _ (some 12) _ = _
   exact pz
  refine pure_ (i := 6) (N := some 6) (v := ?_) (a' := ?_) #[true, true, true, true, true, true, true] rfl rfl (by kernel_rfl) (fun _ _ _ h => h) (Or.inl ⟨by rfl, ?_⟩) ?_ ?_
  rotate_left
  ·intro w'
   go_simp
   with_reducible rfl
  rotate_left
  ·exact pz
  refine done_ (by kernel_rfl) ?_
  have hnb18 := NB284_285.out
  have hnc18 := NB285_284.out
  have hnb19 := NB284_286.out
  have hnc19 := NB286_284.out
  obtain ⟨_, _, _, _⟩ := b2 BK284
  have hnb21 := NB285_286.out
  have hnc21 := NB286_285.out
  obtain ⟨_, _, _, _, _, _⟩ := b3 BK285
  try go_wp2_with (first | ((with_reducible refine gate_callee (f := 96) rfl ?_); refine gl (some 33) Tryd.func96 #[.int .i64 (wrap64 ((wrap64 (a0_0 - (wrap64 (a1_0 * a0_1)))) * a1_1)), .int .i64 (wrap64 (a0_1 * a1_2))] ?_; (with_reducible refine (line_fraction.calls k (wrap64 ((wrap64 (a0_0 - (wrap64 (a1_0 * a0_1)))) * a1_1)) (wrap64 (a0_1 * a1_2)) t293 t294 _ A7.out).mono ?_); rintro e w23 ⟨rfl, hb⟩; refine ⟨_, rfl, ?_⟩; replace HO291 := rb HO291 hb; replace BK284 := bb BK284 hb; replace BK285 := bb BK285 hb; replace BK286 := bb BK286 hb; replace HB := sb HB hb; (try clear hb)) | ((with_reducible refine gate_callee (f := 111) rfl ?_); refine gl (some 34) Tryd.func111 #[.agg #[.int .i64 t293, .int .i64 t294]] ?_; (with_reducible refine (line_small.calls t293 t294 t295 t296 t297 _ A8.out).mono ?_); rintro e w24 ⟨rfl, hb⟩; refine ⟨_, rfl, ?_⟩; replace HO291 := rb HO291 hb; replace BK284 := bb BK284 hb; replace BK285 := bb BK285 hb; replace BK286 := bb BK286 hb; replace HB := sb HB hb; (try clear hb); obtain ⟨_, _, _, _⟩ := b2 BK286))
  refine bodyPost_ret (results_ct rfl _ _ gb286 26 #[.int .i64 t295, .int .i64 t296] (0, 0) _ rfl (bq BK286.out) Tryd.underlying26 rfl (by kernel_rfl)) rfl ?_
  exact ez
 ·rw [if_neg c6] at H
  have c6b0 := beq_eq_false_iff_ne.mpr c6
  have c6b1 := bne_iff_ne.mpr c6
  simp only [Option.some.injEq, Prod.mk.injEq] at H
  obtain ⟨rfl, rfl, rfl⟩ := H
  go_enter Tryd.func45, Tryd.ntmps45
  try go_wp2_with (first | ((with_reducible refine gate_dst (N := 2) rfl ?_); refine be 2 26 #[.int .i64 a0_0, .int .i64 a0_1] ?_; intro gb284 hg w26 hbox hb; have BK284 := m0 hbox; have GW284 := m0 (bg (n := w.heap.size) hg); have GE284 := m0 (bg (n := w.heap.size) hg); replace HB := sb HB hb; clear hb hbox hg) | ((with_reducible refine gate_dst (N := 3) rfl ?_); refine be 3 63 #[.int .i64 a1_0, .int .i64 a1_1, .int .i64 a1_2] ?_; intro gb285 hg w27 hbox hb; have BK285 := m0 hbox; have GW285 := m0 (bg (n := w.heap.size) hg); have GE285 := m0 (bg (n := w.heap.size) hg); replace HB := sb HB hb; have NB284_285 := nl BK284 hg; have NB285_284 := ng (nl BK284 hg); replace BK284 := bb BK284 hb; clear hb hbox hg) | ((with_reducible refine gate_dst (N := 4) rfl ?_); refine be 4 26 #[.int .i64 0, .int .i64 0] ?_; intro gb286 hg w28 hbox hb; have BK286 := m0 hbox; have GW286 := m0 (bg (n := w.heap.size) hg); have GE286 := m0 (bg (n := w.heap.size) hg); replace HB := sb HB hb; have NB284_286 := nl BK284 hg; have NB286_284 := ng (nl BK284 hg); replace BK284 := bb BK284 hb; have NB285_286 := nl BK285 hg; have NB286_285 := ng (nl BK285 hg); replace BK285 := bb BK285 hb; clear hb hbox hg))
  replace BK284 := bd BK284; replace BK285 := bd BK285; replace BK286 := bd BK286; replace HB := sd HB
  refine start_ (n := 7) (S := fun w' => w'.cell? ⟨gb284, 0, none⟩ = some (.int .i64 a0_0) ∧ w'.cell? ⟨gb284, 1, none⟩ = some (.int .i64 a0_1) ∧ w'.cell? ⟨gb285, 0, none⟩ = some (.int .i64 a1_0) ∧ w'.cell? ⟨gb285, 1, none⟩ = some (.int .i64 a1_1) ∧ w'.cell? ⟨gb285, 2, none⟩ = some (.int .i64 a1_2)) (ds := []) #[false, false, false, false, false, false, false] (by kernel_rfl) rfl rfl cz (fun hHeld => ?_)
  generalize w28.drew = w29 at BK284 BK285 BK286 HB hHeld ⊢
  refine takeZ 0 (some 7) #[true, false, false, false, false, false, false] (by kernel_rfl) hHeld ?_
  refine takeZ 2 (some 9) #[true, false, true, false, false, false, false] (by kernel_rfl) hHeld ?_
  refine oneZ 1 (some 8) #[true, true, true, false, false, false, false] (by kernel_rfl) fun K hK => ?_
  refine goes_ Tryd.func109 (by kernel_rfl) rfl #[.agg #[.int .i64 a0_0, .int .i64 a0_1], .int .i64 1000000000] (by rfl) rfl rfl mz ?_
  with_reducible refine (line_lowestErr.calls k a0_0 a0_1 1000000000 t287 _ A3.out).mono ?_
  rintro e w30 ⟨rfl, hb⟩
  refine ⟨_, rfl, ?_⟩
  replace BK284 := bb BK284 hb; replace BK285 := bb BK285 hb; replace BK286 := bb BK286 hb; replace HB := sb HB hb
  (try clear hb)
  refine hK.out _ _ cz (fun hHeld => ?_)
  clear hK K
  refine norm_ (a' := ?_) ?_ ?_
  rotate_left
  ·show Act.put _ (some 8) _ = _
   exact pz
  refine oneZ 3 (some 10) #[true, true, true, true, false, false, false] (by kernel_rfl) fun K hK => ?_
  refine goes_ Tryd.func110 (by kernel_rfl) rfl #[.agg #[.int .i64 a1_0, .int .i64 a1_1, .int .i64 a1_2]] (by rfl) rfl rfl mz ?_
  with_reducible refine (line_scaleErr.calls a1_0 a1_1 a1_2 t288 _ A4.out).mono ?_
  rintro e w31 ⟨rfl, hb⟩
  refine ⟨_, rfl, ?_⟩
  replace BK284 := bb BK284 hb; replace BK285 := bb BK285 hb; replace BK286 := bb BK286 hb; replace HB := sb HB hb
  (try clear hb)
  refine hK.out _ _ cz (fun hHeld => ?_)
  clear hK K
  refine norm_ (a' := ?_) ?_ ?_
  rotate_left
  ·show Act.put _ (some 10) _ = _
   exact pz
  refine oneZ 4 (some 11) #[true, true, true, true, true, false, false] (by kernel_rfl) fun K hK => ?_
  refine Kd.R_lit_step (Kd.int .i64) _ 31 ?hg (N := 11) ?hd (xs := ([t287, t288] : List Int)) (inner := [.int .i64 t287, .int .i64 t288]) (ok := fun _ => True) (okp := fun _ => True) ?hr ?hp (fun _ hk => hk) trivial (Below.refl _ _) (Nat.le_refl _) (by simp) ?_; (case hd => rfl); (case hg => rfl); (case hr => first | (go_simp; done) | (go_simp; rfl)); (case hp => exact (Reps.one (show Kd.M (Kd.int .i64) _ _ _ t287 [.int .i64 t287] from rfl) (Reps.one (show Kd.M (Kd.int .i64) _ _ _ t288 [.int .i64 t288] from rfl) (Reps.none _ _))))
  intro v290 w32 ho33 hb hg_ hnew_
  clear hg_ hnew_
  (first | rw [← Ny289.out] at ho33 | (simp only [Int.reduceToNat] at ho33; rw [← Ny289.out] at ho33))
  have HO291 := m0 (Kd.R_lower ho33 (below_size bz)); replace BK284 := bb BK284 hb; replace BK285 := bb BK285 hb; replace BK286 := bb BK286 hb; replace HB := sb HB hb
  clear hb ho33
  obtain ⟨Ao34, co34, eo34⟩ := Kd.R_slice HO291.out
  (first | subst eo34 | (injection eo34 with f1_ f2_ f3_; have f4_ := f1_.symm; have f5_ := f3_.symm; clear f1_ f2_ f3_; subst f4_; subst f5_))
  refine hK.out _ _ cz (fun hHeld => ?_)
  clear hK K
  refine norm_ (a' := ?_) ?_ ?_
  rotate_left
  ·show Act.put _ (some 11) _ = _
   exact pz
  refine oneZ 5 (some 12) #[true, true, true, true, true, true, false] (by kernel_rfl) fun K hK => ?_
  refine goes_ Tryd.func91 (by kernel_rfl) rfl #[.slice Ao34 y289.length co34] (by rfl) rfl rfl mz ?_
  with_reducible refine (line_first.calls k _ _ y289 t292 _ ?side1 ?side2 A5.out).mono ?_
  (case side1 => exact bc (Kd.R_reads' HO291.out).2.2)
  (case side2 => exact (Kd.R_reads' HO291.out).2.1)
  rintro e w' ⟨rfl, ⟨nd, rfl⟩⟩
  refine ⟨_, rfl, ?_⟩
  refine hK.out _ _ cz (fun hHeld => ?_)
  clear hK K
  refine norm_ (a' := ?_) ?_ ?_
  rotate_left
  ·show Act.put _ (some 12) _ = _
   exact pz
  refine pure_ (i := 6) (N := some 6) (v := ?_) (a' := ?_) #[true, true, true, true, true, true, true] rfl rfl (by kernel_rfl) (fun _ _ _ h => h) (Or.inl ⟨by rfl, ?_⟩) ?_ ?_
  rotate_left
  ·intro w'
   go_simp
   with_reducible rfl
  rotate_left
  ·exact pz
  refine done_ (by kernel_rfl) ?_
  have hnb35 := NB286_284.out
  have hnc35 := NB284_286.out
  have hnb36 := NB286_285.out
  have hnc36 := NB285_286.out
  obtain ⟨_, _, _, _⟩ := b2 BK286
  try go_wp2
  refine bodyPost_ret (results_ct rfl _ _ gb286 26 #[.int .i64 0, .int .i64 0] (0, 0) _ rfl (bq BK286.out) Tryd.underlying26 rfl (by kernel_rfl)) rfl ?_
  exact ez
end
section
def Bs_Ints.l0 : Nat → List Int → List Int → Int → Option (Bool)
 | 0, _, _, _ => none
 | k + 1, x0, x1, x5 => if x5 < (x0.length : Int) then (if 0 ≤ x5 then (if x5 < (x1.length : Int) then (if (rd x0 x5) = (rd x1 x5) then (Bs_Ints.l0 k x0 x1 (wrap64 (x5 + 1))) else (some false)) else (none)) else (none)) else (some true)
def Bs_Ints.f (k : Nat) (l0 : List Int) (l1 : List Int) : Option (Bool) := if (l0.length : Int) = (l1.length : Int) then (Bs_Ints.l0 k l0 l1 0) else (some false)
theorem Bs_Ints.mono_l : ∀ k, (∀ y0 y1 y2, LeO (Bs_Ints.l0 k y0 y1 y2) (Bs_Ints.l0 (k + 1) y0 y1 y2))
 | 0 => fun _ _ _ r h => by simp [Bs_Ints.l0] at h
 | k + 1 => by
  have ih0 := Bs_Ints.mono_l k
  ·intro y0 y1 y2
   unfold Bs_Ints.l0
   repeat' first
   | (with_reducible exact ih0 _ _ _)
   | (with_reducible exact LeO.refl _)
   | (with_reducible exact LeO.none _)
   | (with_reducible refine LeO.ite ?_ ?_)
   | (with_reducible refine LeO.bind ?_ (fun _ => ?_))
   | exact ih0 _ _ _
   | exact LeO.none _
   | refine LeO.ite ?_ ?_
   | refine LeO.bind ?_ (fun _ => ?_)
theorem Bs_Ints.mono : ∀ a0 a1 k, LeO (Bs_Ints.f k a0 a1) (Bs_Ints.f (k + 1) a0 a1) := by
 intro a0 a1 k
 have ih0 := Bs_Ints.mono_l k
 unfold Bs_Ints.f
 repeat' first
   | (with_reducible exact ih0 _ _ _)
   | (with_reducible exact LeO.refl _)
   | (with_reducible exact LeO.none _)
   | (with_reducible refine LeO.ite ?_ ?_)
   | (with_reducible refine LeO.bind ?_ (fun _ => ?_))
   | exact ih0 _ _ _
   | exact LeO.none _
   | refine LeO.ite ?_ ?_
   | refine LeO.bind ?_ (fun _ => ?_)
theorem Bs_Ints.calls (k : Nat) (A0 : Option Addr) (c0 : Nat) (l0 : List Int) (A1 : Option Addr) (c1 : Nat) (l1 : List Int) (r : Bool) (w : World) (hr0 : Kd.C (Kd.int .i64) w A0 l0.length l0) (hc0 : l0.length ≤ c0) (hr1 : Kd.C (Kd.int .i64) w A1 l1.length l1) (hc1 : l1.length ≤ c1) (h : Bs_Ints.f k l0 l1 = some r) :
  Calls Tryd.prog 57 #[.slice A0 l0.length c0, .slice A1 l1.length c1] w fun e w' => e = .returned (.bool r) ∧ Drawn0 w w' := by
 have HR0 := m0 hr0
 have HC0 := m0 hc0
 clear hr0 hc0
 have HR1 := m0 hr1
 have HC1 := m0 hc1
 clear hr1 hc1
 have H : (if (l0.length : Int) = (l1.length : Int) then (Bs_Ints.l0 k l0 l1 0) else (some false)) = some r := h
 clear h
 by_cases c3 : (l0.length : Int) = (l1.length : Int)
 ·rw [if_pos c3] at H
  have c3b0 := beq_iff_eq.mpr c3
  have c3b1 := bne_eq_false_iff_eq.mpr c3
  have c3b2 : (l0.length == l1.length) = true := by first | simpa using c3 | (simp at c3 ⊢; omega)
  clear c3
  have H' := m0 H
  clear H
  go_enter Tryd.func57, Tryd.ntmps57
  go_wp2
  repeat (go_quiet (fail); try go_wp2)
  go_loopg [5] k (fun kq v5 w' => ∃ (x5_1 : Int), v5 = .int .i64 x5_1 ∧ Aside0 (Bs_Ints.l0 kq l0 l1 x5_1 = some r) ∧ Aside0 (kq ≤ k) ∧ Drawn0 w w')
  case atStart => exact ⟨(0), (by first | rfl | (simp; done) | (simp [*]; done)), H', ⟨Nat.le_refl _⟩, by repeat (first | exact Drawn0.refl _ | apply Drawn0.step)⟩
  case round =>
   clear H'
   try clear c1
   try clear p2
   try clear c3
   try clear c3b0
   try clear c3b1
   try clear c3b2
   obtain ⟨x5_1, rfl, HA, HK1, ⟨m1, rfl⟩⟩ := hrel
   cases gk with
   | zero => exact absurd HA.out (by simp [Bs_Ints.l0])
   | succ k1 =>
    have H := HA.out
    clear HA
    simp only [Bs_Ints.l0] at H
    by_cases c4 : x5_1 < (l0.length : Int)
    ·rw [if_pos c4] at H
     have c4b0 := decide_eq_true c4
     clear c4
     by_cases c5 : 0 ≤ x5_1
     ·rw [if_pos c5] at H
      have c5b0 := decide_eq_true c5
      clear c5
      by_cases c6 : x5_1 < (l1.length : Int)
      ·rw [if_pos c6] at H
       have c6b0 := decide_eq_true c6
       clear c6
       by_cases c7 : (rd l0 x5_1) = (rd l1 x5_1)
       ·rw [if_pos c7] at H
        have c7b0 := beq_iff_eq.mpr c7
        have c7b1 := bne_eq_false_iff_eq.mpr c7
        clear c7
        have H' := m0 H
        clear H
        have p298 : 0 ≤ (x5_1 : Int) := of_decide_eq_true (by first | (with_reducible assumption) | assumption)
        have q298 : x5_1 < (l0.length : Int) := of_decide_eq_true (by first | (with_reducible assumption) | assumption)
        obtain ⟨ad298, e298, hx298_0⟩ := Kd.at_int HR0.out x5_1 p298 q298
        cases e298
        replace p298 := eq_true p298
        replace q298 := eq_true q298
        have p299 : 0 ≤ (x5_1 : Int) := of_decide_eq_true (by first | (with_reducible assumption) | assumption)
        have q299 : x5_1 < (l1.length : Int) := of_decide_eq_true (by first | (with_reducible assumption) | assumption)
        obtain ⟨ad299, e299, hx299_0⟩ := Kd.at_int HR1.out x5_1 p299 q299
        cases e299
        replace p299 := eq_true p299
        replace q299 := eq_true q299
        go_wp2
        repeat (go_quiet (fail); try go_wp2)
        go_roundg k1
        case measure => have := HK1.out; omega
        case rel => exact ⟨(wrap64 (x5_1 + 1)), (by first | rfl | (simp; done) | (simp [*]; done)), H', ⟨by have := HK1.out; omega⟩, by repeat (first | exact Drawn0.refl _ | apply Drawn0.step)⟩
       ·rw [if_neg c7] at H
        have c7b0 := beq_eq_false_iff_ne.mpr c7
        have c7b1 := bne_iff_ne.mpr c7
        obtain rfl := Option.some.inj H
        have p298 : 0 ≤ (x5_1 : Int) := of_decide_eq_true (by first | (with_reducible assumption) | assumption)
        have q298 : x5_1 < (l0.length : Int) := of_decide_eq_true (by first | (with_reducible assumption) | assumption)
        obtain ⟨ad298, e298, hx298_0⟩ := Kd.at_int HR0.out x5_1 p298 q298
        cases e298
        replace p298 := eq_true p298
        replace q298 := eq_true q298
        have p299 : 0 ≤ (x5_1 : Int) := of_decide_eq_true (by first | (with_reducible assumption) | assumption)
        have q299 : x5_1 < (l1.length : Int) := of_decide_eq_true (by first | (with_reducible assumption) | assumption)
        obtain ⟨ad299, e299, hx299_0⟩ := Kd.at_int HR1.out x5_1 p299 q299
        cases e299
        replace p299 := eq_true p299
        replace q299 := eq_true q299
        go_wp2
        repeat (go_quiet (fail); try go_wp2)
        go_ret
        exact ⟨by first | rfl | (simp; done) | (simp [*]; done), by repeat (first | exact Drawn0.refl _ | apply Drawn0.step)⟩
      ·rw [if_neg c6] at H
       exact absurd H (by simp)
     ·rw [if_neg c5] at H
      exact absurd H (by simp)
    ·rw [if_neg c4] at H
     have c4b0 := decide_eq_false c4
     clear c4
     obtain rfl := Option.some.inj H
     go_wp2
     repeat (go_quiet (fail); try go_wp2)
     go_ret
     exact ⟨by first | rfl | (simp; done) | (simp [*]; done), by repeat (first | exact Drawn0.refl _ | apply Drawn0.step)⟩
 ·rw [if_neg c3] at H
  have c3b0 := beq_eq_false_iff_ne.mpr c3
  have c3b1 := bne_iff_ne.mpr c3
  have c3b2 : (l0.length == l1.length) = false := by first | simpa using c3 | (simp at c3 ⊢; omega)
  obtain rfl := Option.some.inj H
  go_enter Tryd.func57, Tryd.ntmps57
  go_wp2
  repeat (go_quiet (fail); try go_wp2)
  go_ret
  exact ⟨by first | rfl | (simp; done) | (simp [*]; done), by repeat (first | exact Drawn0.refl _ | apply Drawn0.step)⟩
end
section
def line_rate.step (k : Nat) (ls lv : List Int) (thr : Int) (j : Nat) (s : Int × Int) : Option (Int × Int) :=
 (line_noisy.f k ls lv j).bind fun row => (Sp_int_106.f k row).bind fun m => some (if thr ≤ m then wrap64 (s.1 + 1) else s.1, wrap64 (s.2 + 1))
def line_rate.f (k : Nat) (l0 l1_0 : List Int) (a2 : Int) : Option (Int × Int) :=
 (line_cases.f k l1_0 l0.length).bind fun c => if 0 ≤ c.1 then if c.1 ≤ 1000000 then (iterN (line_rate.step k l0 l1_0 a2) c.1.toNat (0, 0)).bind fun s => line_fraction.f k s.1 s.2 else none else none
theorem line_rate.mono : ∀ a0 a1 a2 k, LeO (line_rate.f k a0 a1 a2) (line_rate.f (k + 1) a0 a1 a2) := by
 intro a0 a1 a2 k
 unfold line_rate.f
 refine LeO.bind (line_cases.mono _ _ _) (fun c => ?_)
 refine LeO.ite (LeO.ite (LeO.bind (iterN_mono (fun j s => ?_) _ _) (fun s => line_fraction.mono _ _ _)) (LeO.none _)) (LeO.none _)
 unfold line_rate.step
 exact LeO.bind (line_noisy.mono _ _ _ _) (fun row => LeO.bind (Sp_int_106.mono _ _) (fun m => LeO.refl _))
attribute [local go_sem] Oper.semAt_some
theorem line_rate.calls (k : Nat) (A0 : Option Addr) (c0 : Nat) (l0 : List Int) (A1_0 : Option Addr) (c1_0 : Nat) (l1_0 : List Int) (a2 : Int) (r1 r2 : Int) (w : World) (hr0 : Kd.C (Kd.int .i64) w A0 l0.length l0) (hc0 : l0.length ≤ c0) (hr1_0 : Kd.C (Kd.int .i64) w A1_0 l1_0.length l1_0) (hc1_0 : l1_0.length ≤ c1_0) (h : line_rate.f k l0 l1_0 a2 = some (r1, r2)) :
  Calls Tryd.prog 101 #[.slice A0 l0.length c0, .agg #[.slice A1_0 l1_0.length c1_0], .int .i64 a2] w fun e w' => e = .returned (.agg #[.int .i64 r1, .int .i64 r2]) ∧ Below w.heap.size w w' := by
 unfold line_rate.f at h
 obtain ⟨⟨all, few⟩, hall, h⟩ := Option.bind_eq_some_iff.mp h
 by_cases h0 : 0 ≤ all
 case neg => rw [if_neg h0] at h; exact absurd h (by simp)
 rw [if_pos h0] at h
 by_cases hbig : all ≤ 1000000
 case neg => rw [if_neg hbig] at h; exact absurd h (by simp)
 rw [if_pos hbig] at h
 obtain ⟨⟨hits, cnt⟩, hit, hfr⟩ := Option.bind_eq_some_iff.mp h
 replace hit : iterN (line_rate.step k l0 l1_0 a2) all.toNat (0, 0) = some (hits, cnt) := hit
 replace hfr : line_fraction.f k hits cnt = some (r1, r2) := hfr
 clear h
 refine (callsIn_wide (n := 9)).1 ?_
 refine callsIn_of_wp_marks Tryd.func101 rfl trivial ?_ rfl
 simp only [Tryd.ntmps101, List.size_toArray, List.length_cons, List.length_nil, Nat.reduceAdd, Nat.reduceSub, Array.replicate_succ, Array.replicate_zero, List.push_toArray, List.append_toArray, List.nil_append, List.cons_append]
 gi_wp2_with (first | (refine ⟨trivial, ?_⟩; gi_at_call 94; refine (callsIn_wide.2 (line_each.calls_own _ _ _ _ _ _ _)).mono ?_; rintro e w' ⟨rfl, rfl⟩))
 obtain ⟨W0, hW0⟩ : ∃ W0, (((((((w.alloc (.cells #[.slice A1_0 l1_0.length c1_0] 24)).alloc (.cells #[.int .i64 a2] 3)).alloc (.cells #[.int .i64 0, .int .i64 0] 26)).alloc (.cells #[.int .i64 0] 3)).alloc (.cells #[.int .i64 0] 3)).alloc (.cells #[.slice A0 l0.length c0] 22)).alloc (.cells #[.slice A1_0 l1_0.length c1_0] 24)) = W0 := ⟨_, rfl⟩
 have hz : W0.heap.size = w.heap.size + 7 := by rw [← hW0]; simp
 have hb0 : Below w.heap.size w W0 := by rw [← hW0]; repeat (first | exact Below.refl _ _ | apply below_alloc)
 have k0 : W0.heap[w.heap.size]? = some (.cells #[.slice A1_0 l1_0.length c1_0] 24 (0, 0)) := by
  rw [← hW0]; iterate 6 apply blk_alloc
  have := blk_new w (.cells #[.slice A1_0 l1_0.length c1_0] 24 (0, 0)); simpa using this
 have k1 : W0.heap[w.heap.size + 1]? = some (.cells #[.int .i64 a2] 3 (0, 0)) := by
  rw [← hW0]; iterate 5 apply blk_alloc
  have := blk_new (w.alloc (.cells #[.slice A1_0 l1_0.length c1_0] 24)) (.cells #[.int .i64 a2] 3 (0, 0)); simpa using this
 have k2 : W0.heap[w.heap.size + 1 + 1]? = some (.cells #[.int .i64 0, .int .i64 0] 26 (0, 0)) := by
  rw [← hW0]; iterate 4 apply blk_alloc
  have := blk_new ((w.alloc (.cells #[.slice A1_0 l1_0.length c1_0] 24)).alloc (.cells #[.int .i64 a2] 3)) (.cells #[.int .i64 0, .int .i64 0] 26 (0, 0)); simpa using this
 have k3 : W0.heap[w.heap.size + 1 + 1 + 1]? = some (.cells #[.int .i64 0] 3 (0, 0)) := by
  rw [← hW0]; iterate 3 apply blk_alloc
  have := blk_new (((w.alloc (.cells #[.slice A1_0 l1_0.length c1_0] 24)).alloc (.cells #[.int .i64 a2] 3)).alloc (.cells #[.int .i64 0, .int .i64 0] 26)) (.cells #[.int .i64 0] 3 (0, 0)); simpa using this
 have k4 : W0.heap[w.heap.size + 1 + 1 + 1 + 1]? = some (.cells #[.int .i64 0] 3 (0, 0)) := by
  rw [← hW0]; iterate 2 apply blk_alloc
  have := blk_new ((((w.alloc (.cells #[.slice A1_0 l1_0.length c1_0] 24)).alloc (.cells #[.int .i64 a2] 3)).alloc (.cells #[.int .i64 0, .int .i64 0] 26)).alloc (.cells #[.int .i64 0] 3)) (.cells #[.int .i64 0] 3 (0, 0)); simpa using this
 have k5 : W0.heap[w.heap.size + 1 + 1 + 1 + 1 + 1]? = some (.cells #[.slice A0 l0.length c0] 22 (0, 0)) := by
  rw [← hW0]; iterate 1 apply blk_alloc
  have := blk_new (((((w.alloc (.cells #[.slice A1_0 l1_0.length c1_0] 24)).alloc (.cells #[.int .i64 a2] 3)).alloc (.cells #[.int .i64 0, .int .i64 0] 26)).alloc (.cells #[.int .i64 0] 3)).alloc (.cells #[.int .i64 0] 3)) (.cells #[.slice A0 l0.length c0] 22 (0, 0)); simpa using this
 have k6 : W0.heap[w.heap.size + 1 + 1 + 1 + 1 + 1 + 1]? = some (.cells #[.slice A1_0 l1_0.length c1_0] 24 (0, 0)) := by
  rw [← hW0]; iterate 0 apply blk_alloc
  have := blk_new ((((((w.alloc (.cells #[.slice A1_0 l1_0.length c1_0] 24)).alloc (.cells #[.int .i64 a2] 3)).alloc (.cells #[.int .i64 0, .int .i64 0] 26)).alloc (.cells #[.int .i64 0] 3)).alloc (.cells #[.int .i64 0] 3)).alloc (.cells #[.slice A0 l0.length c0] 22)) (.cells #[.slice A1_0 l1_0.length c1_0] 24 (0, 0)); simpa using this
 rw [hW0]
 clear hW0
 have hstep := fun (j : Nat) (hj : (j : Int) < all) => iterN_pre hit (show j ≤ all.toNat by omega)
 have hrow : ∀ j : Nat, (j : Int) < all → line_noisy.f k l0 l1_0 j = some ((line_noisy.f k l0 l1_0 j).getD []) := fun j hj => by
  obtain ⟨q, hq⟩ := hstep j hj
  obtain ⟨q', hq', _⟩ := iterN_at hit (show j < all.toNat by omega) hq
  obtain ⟨row, hr, _⟩ := Option.bind_eq_some_iff.mp hq'
  rw [hr]; rfl
 have hY := line_each.yields 8 k (by decide) A0 A1_0 c0 c1_0 l0 l1_0 all few (fun j => (line_noisy.f k l0 l1_0 j).getD []) w (w.heap.size + 1 + 1 + 1 + 1 + 1 + 1) (w.heap.size + 1 + 1 + 1 + 1 + 1) W0 hb0 ((blk_cell k6 0).trans rfl) ((blk_cell k5 0).trans rfl) hr0 hc0 hr1_0 hc1_0 hall h0 hbig hrow
 have HIT := m0 hit
 have HFR := m0 hfr
 have HY := m0 hY
 clear hit hfr hstep hrow hY
 refine wpIn_rangeN rfl (by decide) (gf := 131) (lb := #[.pointer (some ⟨w.heap.size + 1 + 1 + 1 + 1 + 1 + 1, 0, none⟩), .pointer (some ⟨w.heap.size + 1 + 1 + 1 + 1 + 1, 0, none⟩)]) rfl trivial (enters_of Tryd.func131 (by kernel_rfl) rfl) HY.out
  (line_each.Rd_putObj) (fun h k => h.trans k) (fun W l o o' hl h hc hw => line_each.Kp_putObj (w := W0) (v1 := undef) (v2 := undef) (by omega) W l o o' hl h hc hw (by omega) (by omega)) (Below.refl _ _) (fun _ _ => rfl)
  (fun j W => (∃ s : Int × Int, iterN (line_rate.step k l0 l1_0 a2) j (0, 0) = some s ∧ W.heap[w.heap.size + 1 + 1 + 1]? = some (.cells #[.int .i64 s.1] 3 (0, 0)) ∧ W.heap[w.heap.size + 1 + 1 + 1 + 1]? = some (.cells #[.int .i64 s.2] 3 (0, 0)) ∧ W.heap[w.heap.size + 1]? = some (.cells #[.int .i64 a2] 3 (0, 0)) ∧ W.heap[w.heap.size + 1 + 1]? = some (.cells #[.int .i64 0, .int .i64 0] 26 (0, 0)) ∧ W0.heap.size ≤ W.heap.size) ∧ Below w.heap.size w W)
  (fun _ _ _ => False)
  (OwnFrom.and (fun j A B row hs hg hr => by
   obtain ⟨s, h1, h2, h3, h4, h5, h6⟩ := hs
   exact ⟨s, h1, blk_own h2 hg hr, blk_own h3 hg hr, blk_own h4 hg hr, blk_own h5 hg hr, Nat.le_trans h6 hg.size⟩) (ownFrom_below (Nat.le_refl _) (by omega)))
  (fun _ _ _ _ _ hs _ _ => hs)
  ⟨⟨(0, 0), rfl, k3, k4, k1, k2, Nat.le_refl _⟩, hb0⟩
  (fun j x => { tmps := #[.slice A0 l0.length c0, .agg #[.slice A1_0 l1_0.length c1_0], .int .i64 a2, undef, .pointer (some ⟨w.heap.size, 0, none⟩), .pointer (some ⟨w.heap.size + 1, 0, none⟩), .pointer (some ⟨w.heap.size + 1 + 1, 0, none⟩), .pointer (some ⟨w.heap.size + 1 + 1 + 1, 0, none⟩), .pointer (some ⟨w.heap.size + 1 + 1 + 1 + 1, 0, none⟩), undef, x, .slice A0 l0.length c0, .agg #[.slice A1_0 l1_0.length c1_0], .func (.func 131) #[] #[.pointer (some ⟨w.heap.size + 1 + 1 + 1 + 1 + 1 + 1, 0, none⟩), .pointer (some ⟨w.heap.size + 1 + 1 + 1 + 1 + 1, 0, none⟩)], .int .i64 (j : Int), x, undef, undef, undef, undef, undef, undef, undef, undef, undef, undef, undef], defers := [] }) ?assign ?body ?done ?stop
 case assign =>
  intro l j x W K hK
  gi_wp2
  exact hK
 case stop =>
  rintro D c j W _ _ h _
  exact h.elim
 case body =>
  rintro l j x W ⟨⟨⟨s1, s2⟩, hs, h3, h4, h1, h2, h6⟩, hB⟩ ⟨A, c, hx, hc, hC, hm⟩ hj
  obtain ⟨q', hq', hq1⟩ := iterN_at HIT.out hj hs
  obtain ⟨row, hr, hq'⟩ := Option.bind_eq_some_iff.mp hq'
  obtain ⟨m, hmx, hq'⟩ := Option.bind_eq_some_iff.mp hq'
  have er : (line_noisy.f k l0 l1_0 (j : Int)).getD [] = row := by rw [hr]; rfl
  simp only [er] at hx hc hC
  subst hx
  obtain rfl := Option.some.inj hq'
  have H3 := m0 h3
  have H4 := m0 h4
  have H1 := m0 h1
  have H2 := m0 h2
  have HBB := m0 hB
  have H6 := m0 h6
  have HC := m0 hC
  have HCC := m0 hc
  have HM := m0 hm
  have HMX := m0 hmx
  have HQ1 := m0 hq1
  have HZ := m0 hz
  have c4 : W.cell? ⟨w.heap.size + 1 + 1 + 1 + 1, 0, none⟩ = some (.int .i64 s2) := (blk_cell h4 0).trans rfl
  have f4 := blk_frozen h4 0
  clear h1 h2 h3 h4 hB h6 hC hc hm hmx hq1 hq' hs hr er hz k0 k1 k2 k3 k4 k5 k6 hb0 hall HIT HFR HY hr0 hr1_0 hc0 hc1_0 hj
  have hmo : Tryd.prog.follows .mixedOrders = true := by kernel_rfl
  have c1_ : W.cell? ⟨w.heap.size + 1, 0, none⟩ = some (.int .i64 a2) := (blk_cell H1.out 0).trans rfl
  have hcall : ∀ W5 : World, W5.heap = (W.setCell ⟨w.heap.size + 1 + 1 + 1 + 1, 0, none⟩ (.int .i64 (wrap64 (s2 + 1)))).heap → W5.os = W.os → W5.tape = W.tape → W5.output = W.output → Calls Tryd.prog 106 #[.slice A row.length c] W5 fun e w5 => e = .returned (.int .i64 m) ∧ w5.cell? ⟨w.heap.size + 1, 0, none⟩ = some (.int .i64 a2) ∧ w5.cell? ⟨w.heap.size + 1 + 1 + 1, 0, none⟩ = some (.int .i64 s1) ∧ w5.frozen? ⟨w.heap.size + 1 + 1 + 1, 0, none⟩ = false ∧ Aside0 (w5.heap[w.heap.size + 1 + 1 + 1]? = some (.cells #[.int .i64 s1] 3 (0, 0)) ∧ w5.heap[w.heap.size + 1 + 1 + 1 + 1]? = some (.cells #[.int .i64 (wrap64 (s2 + 1))] 3 (0, 0)) ∧ w5.heap[w.heap.size + 1]? = some (.cells #[.int .i64 a2] 3 (0, 0)) ∧ w5.heap[w.heap.size + 1 + 1]? = some (.cells #[.int .i64 0, .int .i64 0] 26 (0, 0)) ∧ Below w.heap.size w w5 ∧ KeepsOthers W w5 ∧ line_each.Kp w.heap.size (w.heap.size + 1 + 1 + 1 + 1 + 1 + 1) (w.heap.size + 1 + 1 + 1 + 1 + 1) W w5 ∧ W0.heap.size ≤ w5.heap.size) := fun W5 hh ho ht hp => by
   have ha := HZ.out
   have hb6 := H6.out
   have keep : ∀ g : Nat, g ≠ w.heap.size + 1 + 1 + 1 + 1 → W5.heap[g]? = W.heap[g]? := fun g hg => by rw [hh]; exact heap_setCell_ne hg
   refine (Sp_int_106.calls k A c row m W5 (C_blocks HC.out (fun ad e => keep _ (by have := HM.out ad e; omega))) HCC.out HMX.out).mono ?_
   rintro e w5 ⟨rfl, hb⟩
   have g3 := blk_below ((keep _ (by omega)).trans H3.out) hb
   have g1 := blk_below ((keep _ (by omega)).trans H1.out) hb
   have g2 := blk_below ((keep _ (by omega)).trans H2.out) hb
   have g4 := blk_below (w := W5) (g := w.heap.size + 1 + 1 + 1 + 1) (by rw [hh]; exact blk_put H4.out 0 _ rfl) hb
   have hsz : W5.heap.size = W.heap.size := by rw [hh]; simp [World.setCell]
   have hbb : Below w.heap.size W W5 := ⟨ho, ht, hp, by omega, fun g hg => keep g (by omega)⟩
   have hko : KeepsOthers W W5 := ⟨by omega, fun g o hg hcell => by
    by_cases e : g = w.heap.size + 1 + 1 + 1 + 1
    ·rw [e, H4.out] at hg; cases hg; cases hcell
    ·exact (keep g e).trans hg⟩
   have hkp : line_each.Kp w.heap.size (w.heap.size + 1 + 1 + 1 + 1 + 1 + 1) (w.heap.size + 1 + 1 + 1 + 1 + 1) W W5 := ⟨hbb, World.cell?_of_block (keep (w.heap.size + 1 + 1 + 1 + 1 + 1 + 1) (by omega)), World.cell?_of_block (keep (w.heap.size + 1 + 1 + 1 + 1 + 1) (by omega))⟩
   exact ⟨rfl, (blk_cell g1 0).trans rfl, (blk_cell g3 0).trans rfl, blk_frozen g3 0, ⟨g3, g4, g1, g2, (HBB.out.trans hbb).trans (hb.mono (by omega)), hko.trans (others_below hb), hkp.below (by omega) (by omega) (by omega) hb, by have := hb.size; omega⟩⟩
  have HCALL := m0 hcall
  generalize hLEFT : leftN _ _ _ _ _ = LEFT
  have hyes : ∀ (w5 : World) (a : Act), a2 ≤ m → Aside0 (w5.heap[w.heap.size + 1 + 1 + 1]? = some (.cells #[.int .i64 s1] 3 (0, 0)) ∧ w5.heap[w.heap.size + 1 + 1 + 1 + 1]? = some (.cells #[.int .i64 (wrap64 (s2 + 1))] 3 (0, 0)) ∧ w5.heap[w.heap.size + 1]? = some (.cells #[.int .i64 a2] 3 (0, 0)) ∧ w5.heap[w.heap.size + 1 + 1]? = some (.cells #[.int .i64 0, .int .i64 0] 26 (0, 0)) ∧ Below w.heap.size w w5 ∧ KeepsOthers W w5 ∧ line_each.Kp w.heap.size (w.heap.size + 1 + 1 + 1 + 1 + 1 + 1) (w.heap.size + 1 + 1 + 1 + 1 + 1) W w5 ∧ W0.heap.size ≤ w5.heap.size) → LEFT Exit.normal a (w5.setCell ⟨w.heap.size + 1 + 1 + 1, 0, none⟩ (.int .i64 (wrap64 (s1 + 1)))) := by
   rintro w5 a ht ⟨p3, p4, p1, p2, pB, pK, pKp, pz⟩
   rw [← hLEFT]
   refine ⟨pK.trans (KeepsOthers.setCell _ _ _), pKp.setCell (by omega) (by omega) (by omega), ⟨_, HQ1.out, ?_, blk_ne_set p4 (by omega), blk_ne_set p1 (by omega), blk_ne_set p2 (by omega), ?_⟩, pB.setCell (p := ⟨w.heap.size + 1 + 1 + 1, 0, none⟩) (by show w.heap.size ≤ w.heap.size + 1 + 1 + 1; omega) _⟩
   ·rw [if_pos ht]; exact blk_put p3 0 _ rfl
   ·simpa [World.setCell] using pz
  have hno : ∀ (w5 : World) (a : Act), ¬ a2 ≤ m → Aside0 (w5.heap[w.heap.size + 1 + 1 + 1]? = some (.cells #[.int .i64 s1] 3 (0, 0)) ∧ w5.heap[w.heap.size + 1 + 1 + 1 + 1]? = some (.cells #[.int .i64 (wrap64 (s2 + 1))] 3 (0, 0)) ∧ w5.heap[w.heap.size + 1]? = some (.cells #[.int .i64 a2] 3 (0, 0)) ∧ w5.heap[w.heap.size + 1 + 1]? = some (.cells #[.int .i64 0, .int .i64 0] 26 (0, 0)) ∧ Below w.heap.size w w5 ∧ KeepsOthers W w5 ∧ line_each.Kp w.heap.size (w.heap.size + 1 + 1 + 1 + 1 + 1 + 1) (w.heap.size + 1 + 1 + 1 + 1 + 1) W w5 ∧ W0.heap.size ≤ w5.heap.size) → LEFT Exit.normal a w5 := by
   rintro w5 a ht ⟨p3, p4, p1, p2, pB, pK, pKp, pz⟩
   rw [← hLEFT]
   refine ⟨pK, pKp, ⟨_, HQ1.out, ?_, p4, p1, p2, pz⟩, pB⟩
   rw [if_neg ht]; exact p3
  have HYES := m0 hyes
  have HNO := m0 hno
  clear hyes hno hcall hLEFT
  gi_wp2
  gi_region_with_o (refine ⟨trivial, ?_⟩; gi_at_call 106; refine (CallsIn.inRound l (callsIn_wide.2 (HCALL.out _ (by rfl) (by rfl) (by rfl) (by rfl)))).mono ?_; rintro e w5 ⟨rfl, g1, g3, f3, HX⟩)
  all_goals gi_wp2
  all_goals (try go_bits)
  all_goals first | exact HYES.out _ _ (by assumption) HX | exact HNO.out _ _ (by first | assumption | (have : m < a2 := (by assumption); omega)) HX
 case done =>
  rintro D W hD ⟨⟨s, hs, h3, h4, h1, h2, h6⟩, hB⟩ hK
  rw [HIT.out] at hs
  cases hs
  have H2 := m0 h2
  have HBB := m0 hB
  have HZ := m0 hz
  have H6 := m0 h6
  have HK := m0 hK
  have HD := m0 hD
  have c3 : W.cell? ⟨w.heap.size + 1 + 1 + 1, 0, none⟩ = some (.int .i64 hits) := (blk_cell h3 0).trans rfl
  have c4 : W.cell? ⟨w.heap.size + 1 + 1 + 1 + 1, 0, none⟩ = some (.int .i64 cnt) := (blk_cell h4 0).trans rfl
  clear h1 h2 h3 h4 hB h6 hz k0 k1 k2 k3 k4 k5 k6 hb0 hall HIT HY hr0 hr1_0 hc0 hc1_0 hK hD
  gi_wp2_with (first | (refine ⟨trivial, ?_⟩; gi_at_call 96; refine (callsIn_wide.2 (line_fraction.calls k hits cnt r1 r2 W HFR.out)).mono ?_; rintro e w5 ⟨rfl, hb⟩; have g2 := blk_below H2.out hb; have z0 : w5.cell? ⟨w.heap.size + 1 + 1, 0, none⟩ = some (.int .i64 0) := (blk_cell g2 0).trans rfl; have z1 : w5.cell? ⟨w.heap.size + 1 + 1, 1, none⟩ = some (.int .i64 0) := (blk_cell g2 1).trans rfl; have f0 := blk_frozen g2 0; have f1 := blk_frozen g2 1; have HB5 := m0 hb; have G2 := m0 g2; clear hb g2))
  have hK5 : w5.heap[D]? = some (.deferred (some [])) := blk_below HK.out HB5.out
  have hZ := HZ.out
  have hD := HD.out
  have hK6 : ((w5.setCell ⟨w.heap.size + 1 + 1, 0, none⟩ (.int .i64 r1)).setCell ⟨w.heap.size + 1 + 1, 1, none⟩ (.int .i64 r2)).heap[D]? = some (.deferred (some [])) := blk_ne_set (blk_ne_set hK5 (by omega)) (by omega)
  refine ⟨by simp, .inl ⟨_, _, rfl, run_takeDeferred hK6, ?_⟩⟩
  have b1 : Below w.heap.size w ((w5.setCell ⟨w.heap.size + 1 + 1, 0, none⟩ (.int .i64 r1)).setCell ⟨w.heap.size + 1 + 1, 1, none⟩ (.int .i64 r2)) :=
   ((HBB.out.trans (HB5.out.mono HBB.out.size)).setCell (p := ⟨w.heap.size + 1 + 1, 0, none⟩) (by show w.heap.size ≤ w.heap.size + 1 + 1; omega) _).setCell (p := ⟨w.heap.size + 1 + 1, 1, none⟩) (by show w.heap.size ≤ w.heap.size + 1 + 1; omega) _
  exact ⟨.agg #[.int .i64 r1, .int .i64 r2], results_cell_row rfl _ _ (w.heap.size + 1 + 1) 26 #[.int .i64 r1, .int .i64 r2] (0, 0) _ rfl ((World.putObj_heap_other (by omega)).trans (blk_put (cs := #[.int .i64 r1, .int .i64 0]) (blk_put (cs := #[.int .i64 0, .int .i64 0]) G2.out 0 _ rfl) 1 _ rfl)) Tryd.underlying26 rfl (by kernel_rfl), rfl, b1.trans (belowK_b (w := w) (Nat.le_refl _) _ D _ _ (by omega) hK6 rfl rfl)⟩
end
section
def line_openNoise.f (k : Nat) (l0_0 : List Int) (a1 : Int) : Option (List Int × Int) := (line_CheckNoise.f l0_0).bind fun bt301 => ((line_within.f a1 1 16).bind fun t303 => ((line_unless.f t303 2).bind fun t304 => ((line_first.f k (([bt301.2, t304] : List Int))).bind fun t308 => (if t308 = 0 then ((line_cases.f k l0_0 a1).bind fun bt309 => (if 0 ≤ a1 then (if (a1 : Int).toNat ≤ 35184372088832 then ((line_unless.f bt309.2 8).bind fun t314 => (some ((List.replicate (a1 : Int).toNat 0), t314))) else (none)) else (none))) else (some (([] : List Int), t308))))))
theorem line_openNoise.mono : ∀ a0 a1 k, LeO (line_openNoise.f k a0 a1) (line_openNoise.f (k + 1) a0 a1) := by
 intro a0 a1 k
 unfold line_openNoise.f
 repeat' first
   | (with_reducible exact line_cases.mono _ _ _)
   | (with_reducible exact line_first.mono _ _)
   | (with_reducible exact LeO.refl _)
   | (with_reducible exact LeO.none _)
   | (with_reducible refine LeO.ite ?_ ?_)
   | (with_reducible refine LeO.bind ?_ (fun _ => ?_))
   | exact line_cases.mono _ _ _
   | exact line_first.mono _ _
   | exact LeO.none _
   | refine LeO.ite ?_ ?_
   | refine LeO.bind ?_ (fun _ => ?_)
theorem line_openNoise.calls (k : Nat) (A0_0 : Option Addr) (c0_0 : Nat) (l0_0 : List Int) (a1 : Int) (r1 : List Int) (r2 : Int) (w : World) (hr0_0 : Kd.C (Kd.int .i64) w A0_0 l0_0.length l0_0) (hc0_0 : l0_0.length ≤ c0_0) (h : line_openNoise.f k l0_0 a1 = some (r1, r2)) :
  Calls Tryd.prog 129 #[.agg #[.slice A0_0 l0_0.length c0_0], .int .i64 a1] w fun e w' => ∃ v0_ : Value, e = .returned (.tuple #[v0_, .int .i64 r2]) ∧ Kd.R (Kd.int .i64) 3 w' w.heap.size (fun _ => True) v0_ r1 ∧ Below w.heap.size w w' := by
 have hu24 := Tryd.underlying24
 have HR0_0 := m0 hr0_0
 have HC0_0 := m0 hc0_0
 clear hr0_0 hc0_0
 have HB := m0 (Below.refl w.heap.size w)
 have H : ((line_CheckNoise.f l0_0).bind fun bt301 => ((line_within.f a1 1 16).bind fun t303 => ((line_unless.f t303 2).bind fun t304 => ((line_first.f k (([bt301.2, t304] : List Int))).bind fun t308 => (if t308 = 0 then ((line_cases.f k l0_0 a1).bind fun bt309 => (if 0 ≤ a1 then (if (a1 : Int).toNat ≤ 35184372088832 then ((line_unless.f bt309.2 8).bind fun t314 => (some ((List.replicate (a1 : Int).toNat 0), t314))) else (none)) else (none))) else (some (([] : List Int), t308))))))) = some (r1, r2) := h
 clear h
 replace H := ob H
 obtain ⟨⟨t301, t302⟩, A30, H⟩ := H
 (try dsimp only at H)
 have A3 := m0 A30
 clear A30
 replace H := ob H
 obtain ⟨t303, A40, H⟩ := H
 (try dsimp only at H)
 have A4 := m0 A40
 clear A40
 replace H := ob H
 obtain ⟨t304, A50, H⟩ := H
 (try dsimp only at H)
 have A5 := m0 A50
 clear A50
 obtain ⟨y305, hy305⟩ : ∃ y_ : List Int, y_ = (([t302, t304] : List Int)) := ⟨_, rfl⟩
 replace H : ((line_first.f k y305).bind fun t308 => (if t308 = 0 then ((line_cases.f k l0_0 a1).bind fun bt309 => (if 0 ≤ a1 then (if (a1 : Int).toNat ≤ 35184372088832 then ((line_unless.f bt309.2 8).bind fun t314 => (some ((List.replicate (a1 : Int).toNat 0), t314))) else (none)) else (none))) else (some (([] : List Int), t308)))) = some (r1, r2) := by first | (rw [hy305]; with_reducible exact H) | (have H2_ := (Option.bind_some _ _).symm.trans H; rw [hy305]; with_reducible exact H2_) | (have H2_ := (Option.bind_some _ _).symm.trans H; with_reducible exact H2_) | with_reducible exact H | (rw [hy305]; exact H) | exact H
 have Ny305 := m0 hy305
 clear hy305
 replace H := ob H
 obtain ⟨t308, A60, H⟩ := H
 (try dsimp only at H)
 have A6 := m0 A60
 clear A60
 by_cases c7 : t308 = 0
 ·rw [if_pos c7] at H
  have c7b0 := beq_iff_eq.mpr c7
  have c7b1 := bne_eq_false_iff_eq.mpr c7
  clear c7
  replace H := ob H
  obtain ⟨⟨t309, t310⟩, A80, H⟩ := H
  (try dsimp only at H)
  have A8 := m0 A80
  clear A80
  by_cases c9 : 0 ≤ a1
  ·rw [if_pos c9] at H
   have c9b0 := eq_true c9
   have c9b1 := decide_eq_true c9
   clear c9
   by_cases c10 : (a1 : Int).toNat ≤ 35184372088832
   ·rw [if_pos c10] at H
    have c10b0 := eq_true c10
    have c10b1 := decide_eq_true c10
    clear c10
    obtain ⟨y311, hy311⟩ : ∃ y_ : List Int, y_ = (List.replicate (a1 : Int).toNat 0) := ⟨_, rfl⟩
    replace H : ((line_unless.f t310 8).bind fun t314 => (some (y311, t314))) = some (r1, r2) := by first | (rw [hy311]; with_reducible exact H) | (have H2_ := (Option.bind_some _ _).symm.trans H; rw [hy311]; with_reducible exact H2_) | (have H2_ := (Option.bind_some _ _).symm.trans H; with_reducible exact H2_) | with_reducible exact H | (rw [hy311]; exact H) | exact H
    have Ny311 := m0 hy311
    clear hy311
    replace H := ob H
    obtain ⟨t314, A110, H⟩ := H
    (try dsimp only at H)
    have A11 := m0 A110
    clear A110
    simp only [Option.some.injEq, Prod.mk.injEq] at H
    obtain ⟨rfl, rfl⟩ := H
    go_enter Tryd.func129, Tryd.ntmps129
    try go_wp2_with (first | ((with_reducible refine gate_dst (N := 2) rfl ?_); refine be 2 24 #[.slice A0_0 l0_0.length c0_0] ?_; intro gb300 hg w12 hbox hb; have BK300 := m0 hbox; have GW300 := m0 (bg (n := w.heap.size) hg); have GE300 := m0 (bg (n := w.heap.size) hg); replace HB := sb HB hb; clear hb hbox hg; obtain ⟨_, _⟩ := b1 BK300) | ((with_reducible refine gate_callee (f := 51) rfl ?_); refine gl (some 12) Tryd.func51 #[.agg #[.slice A0_0 l0_0.length c0_0]] ?_; (with_reducible refine (line_CheckNoise.calls _ _ l0_0 t301 t302 _ ?side1 ?side2 A3.out).mono ?_); (case side1 => exact cb HR0_0 HB); (case side2 => exact HC0_0.out); rintro e w14 ⟨rfl, hb⟩; refine ⟨_, rfl, ?_⟩; replace BK300 := bb BK300 hb; replace HB := sb HB hb; (try clear hb)) | ((with_reducible refine gate_callee (f := 105) rfl ?_); refine gl (some 17) Tryd.func105 #[.int .i64 a1, .int .i64 1, .int .i64 16] ?_; (with_reducible refine (line_within.calls a1 1 16 t303 _ A4.out).mono ?_); rintro e w' ⟨rfl, ⟨nd, rfl⟩⟩; refine ⟨_, rfl, ?_⟩) | ((with_reducible refine gate_callee (f := 93) rfl ?_); refine gl (some 18) Tryd.func93 #[.bool t303, .int .i64 2] ?_; (with_reducible refine (line_unless.calls t303 2 t304 _ A5.out).mono ?_); rintro e w' ⟨rfl, ⟨nd, rfl⟩⟩; refine ⟨_, rfl, ?_⟩) | ((with_reducible refine gate_dst (N := 19) rfl ?_); refine Kd.R_lit (Kd.int .i64) _ 31 ?hg (N := 19) ?hd (xs := ([t302, t304] : List Int)) (inner := [.int .i64 t302, .int .i64 t304]) (ok := fun _ => True) (okp := fun _ => True) ?hr ?hp (fun _ hk => hk) trivial (Below.refl _ _) (Nat.le_refl _) (by simp) ?_; (case hd => rfl); (case hg => rfl); (case hr => first | (go_simp; done) | (go_simp; rfl)); (case hp => exact (Reps.one (show Kd.M (Kd.int .i64) _ _ _ t302 [.int .i64 t302] from rfl) (Reps.one (show Kd.M (Kd.int .i64) _ _ _ t304 [.int .i64 t304] from rfl) (Reps.none _ _)))); intro v306 w15 ho16 hb hg_ hnew_; clear hg_ hnew_; (first | rw [← Ny305.out] at ho16 | (simp only [Int.reduceToNat] at ho16; rw [← Ny305.out] at ho16)); have HO307 := m0 (Kd.R_lower ho16 (below_size bz)); replace BK300 := bb BK300 hb; replace HB := sb HB hb; clear hb ho16; obtain ⟨Ao17, co17, eo17⟩ := Kd.R_slice HO307.out; subst eo17) | ((with_reducible refine gate_callee (f := 91) rfl ?_); refine gl (some 20) Tryd.func91 #[.slice Ao17 y305.length co17] ?_; (with_reducible refine (line_first.calls k _ _ y305 t308 _ ?side1 ?side2 A6.out).mono ?_); (case side1 => exact bc (Kd.R_reads' HO307.out).2.2); (case side2 => exact (Kd.R_reads' HO307.out).2.1); rintro e w' ⟨rfl, ⟨nd, rfl⟩⟩; refine ⟨_, rfl, ?_⟩; obtain ⟨_, _⟩ := b1 BK300) | ((with_reducible refine gate_callee (f := 121) rfl ?_); refine gl (some 27) Tryd.func121 #[.agg #[.slice A0_0 l0_0.length c0_0], .int .i64 a1] ?_; (with_reducible refine (line_cases.calls k _ _ l0_0 a1 t309 t310 _ ?side1 ?side2 A8.out).mono ?_); (case side1 => repeat (first | exact (Kd.C_below HR0_0.out bz) | (with_reducible refine Kd.C_alloc ?_ _) | (with_reducible refine Kd.C_drewN ?_ _) | (with_reducible refine Kd.C_drew ?_))); (case side2 => exact HC0_0.out); rintro e w19 ⟨rfl, hb⟩; refine ⟨_, rfl, ?_⟩; replace HO307 := rb HO307 hb; replace BK300 := bb BK300 hb; replace HB := sb HB hb; (try clear hb)))
    replace HO307 := m0 (Kd.R_drew HO307.out); replace BK300 := bd BK300; replace HB := sd HB
    refine start_ (n := 6) (S := fun w' => True) (ds := []) #[false, false, false, false, false, false] (by kernel_rfl) rfl rfl trivial (fun hHeld => ?_)
    generalize w19.drew = w20 at HO307 BK300 HB hHeld ⊢
    refine pure_ (i := 0) (N := some 30) (v := ?_) (a' := ?_) #[true, false, false, false, false, false] rfl rfl (by kernel_rfl) (fun _ _ _ h => h) (Or.inl ⟨by rfl, ?_⟩) ?_ ?_
    rotate_left
    ·intro w'
     go_simp
     with_reducible rfl
    rotate_left
    ·exact pz
    refine pure_ (i := 2) (N := some 32) (v := ?_) (a' := ?_) #[true, false, true, false, false, false] rfl rfl (by kernel_rfl) (fun _ _ _ h => h) (Or.inl ⟨by rfl, ?_⟩) ?_ ?_
    rotate_left
    ·intro w'
     go_simp
     with_reducible rfl
    rotate_left
    ·exact pz
    refine join_ (σ := Value) 2 #[true, true, true, true, false, false] (fun s_ => [(31, s_), (33, .int .i64 t314)]) (fun s_ w' => (Kd.R (Kd.int .i64) 31 w' w.heap.size (fun _ => True) (.slice Ao17 y305.length co17) y305) ∧ (Kd.R (Kd.int .i64) 3 w' w.heap.size (fun _ => True) s_ y311) ∧ (w'.heap[gb300]? = some (.cells #[.slice A0_0 l0_0.length c0_0] 24 (0, 0))) ∧ (Below w.heap.size w w')) ?_ ?_
    rotate_left
    ·intro hCont
     refine two_ (i := 1) (j := 3) (Ni := some 31) (Nj := some 33) #[true, true, true, false, false, false] #[true, false, true, true, false, false] rfl rfl rfl rfl (by kernel_rfl) (by decide) (by decide) (fun K hK => ?_) (fun K hK => ?_)
     ·skip
      refine Kd.R_make_step (Kd.int .i64) _ 3 (by rfl) (N := 31) rfl 22 _ _ rfl a1 rfl rfl Tryd.underlying22 (.int .i64 0) 8 info3 rfl (by decide) (by omega) 0 (ok := fun _ => True) (okp := fun _ => True) rfl (fun _ hk => hk) trivial (of_decide_eq_true (by first | (with_reducible assumption) | assumption)) (Nat.le_trans (Nat.mul_le_mul_right _ (of_decide_eq_true (by first | (with_reducible assumption) | assumption) : a1.toNat ≤ 35184372088832)) (by omega)) (Below.refl _ _) (Nat.le_refl _) ?_
      intro v312 w21 ho22 hb hg_ hnew_
      clear hg_ hnew_
      (first | rw [← Ny311.out] at ho22 | (simp only [Int.reduceToNat] at ho22; rw [← Ny311.out] at ho22))
      replace HO307 := rb HO307 hb; have HO313 := m0 (Kd.R_lower ho22 (below_size bz)); replace BK300 := bb BK300 hb; replace HB := sb HB hb
      clear hb ho22
      refine hK.out _ _ trivial (fun hHeld => ?_)
      clear hK K
      refine norm_ (a' := ?_) ?_ ?_
      rotate_left
      ·show Act.put _ (some 31) _ = _
       exact pz
      refine oneZ 3 (some 33) #[true, true, true, true, false, false] (by kernel_rfl) fun K hK => ?_
      refine goes_ Tryd.func93 (by kernel_rfl) rfl #[.bool t310, .int .i64 8] (by rfl) rfl rfl mz ?_
      with_reducible refine (line_unless.calls t310 8 t314 _ A11.out).mono ?_
      rintro e w' ⟨rfl, ⟨nd, rfl⟩⟩
      refine ⟨_, rfl, ?_⟩
      refine hK.out _ _ trivial (fun hHeld => ?_)
      clear hK K
      refine norm_ (a' := ?_) ?_ ?_
      rotate_left
      ·show Act.put _ (some 33) _ = _
       exact pz
      exact norm_ (by simp only [putAll, Act.put, List.setIfInBounds_toArray, List.set_cons_zero, List.set_cons_succ]) (hCont (v312) _ ⟨(br HO307.out), (br HO313.out), (bk BK300.out), bz⟩)
     ·skip
      refine goes_ Tryd.func93 (by kernel_rfl) rfl #[.bool t310, .int .i64 8] (by rfl) rfl rfl mz ?_
      with_reducible refine (line_unless.calls t310 8 t314 _ A11.out).mono ?_
      rintro e w' ⟨rfl, ⟨nd, rfl⟩⟩
      refine ⟨_, rfl, ?_⟩
      refine hK.out _ _ trivial (fun hHeld => ?_)
      clear hK K
      refine norm_ (a' := ?_) ?_ ?_
      rotate_left
      ·show Act.put _ (some 33) _ = _
       exact pz
      refine oneZ 1 (some 31) #[true, true, true, true, false, false] (by kernel_rfl) fun K hK => ?_
      refine Kd.R_make_step (Kd.int .i64) _ 3 (by rfl) (N := 31) rfl 22 _ _ rfl a1 rfl rfl Tryd.underlying22 (.int .i64 0) 8 info3 rfl (by decide) (by omega) 0 (ok := fun _ => True) (okp := fun _ => True) rfl (fun _ hk => hk) trivial (of_decide_eq_true (by first | (with_reducible assumption) | assumption)) (Nat.le_trans (Nat.mul_le_mul_right _ (of_decide_eq_true (by first | (with_reducible assumption) | assumption) : a1.toNat ≤ 35184372088832)) (by omega)) (Below.refl _ _) (Nat.le_refl _) ?_
      intro v312 w21 ho22 hb hg_ hnew_
      clear hg_ hnew_
      (first | rw [← Ny311.out] at ho22 | (simp only [Int.reduceToNat] at ho22; rw [← Ny311.out] at ho22))
      replace HO307 := rb HO307 hb; have HO313 := m0 (Kd.R_lower ho22 (below_size bz)); replace BK300 := bb BK300 hb; replace HB := sb HB hb
      clear hb ho22
      refine hK.out _ _ trivial (fun hHeld => ?_)
      clear hK K
      refine norm_ (a' := ?_) ?_ ?_
      rotate_left
      ·show Act.put _ (some 31) _ = _
       exact pz
      exact norm_ (by simp only [putAll, Act.put, List.setIfInBounds_toArray, List.set_cons_zero, List.set_cons_succ]) (hCont (v312) _ ⟨(br HO307.out), (br HO313.out), (bk BK300.out), bz⟩)
    rintro v312 w23 ⟨h0_, h1_, h2_, h3_⟩
    have n0_ : Aside0 (Kd.R (Kd.int .i64) 31 w23 w.heap.size (fun _ => True) (.slice Ao17 y305.length co17) y305) := ⟨h0_⟩
    have n1_ : Aside0 (Kd.R (Kd.int .i64) 3 w23 w.heap.size (fun _ => True) v312 y311) := ⟨h1_⟩
    have n2_ : Aside0 (w23.heap[gb300]? = some (.cells #[.slice A0_0 l0_0.length c0_0] 24 (0, 0))) := ⟨h2_⟩
    have n3_ : Aside0 (Below w.heap.size w w23) := ⟨h3_⟩
    clear HO307
    clear BK300
    clear HB
    clear h0_ h1_ h2_ h3_
    have HO307 := n0_
    have HO313 := n1_
    have BK300 := n2_
    have HB := n3_
    clear n0_ n1_ n2_ n3_
    have hHeld := trivial
    refine norm_ (a' := ?_) ?_ ?_
    rotate_left
    ·simp only [putAll, Act.put, List.setIfInBounds_toArray, List.set_cons_zero, List.set_cons_succ]
     rfl
    refine pure_ (i := 4) (N := some 4) (v := ?_) (a' := ?_) #[true, true, true, true, true, false] rfl rfl (by kernel_rfl) (fun _ _ _ h => h) (Or.inl ⟨by rfl, ?_⟩) ?_ ?_
    rotate_left
    ·intro w'
     go_simp
     with_reducible rfl
    rotate_left
    ·exact pz
    refine pure_ (i := 5) (N := some 5) (v := ?_) (a' := ?_) #[true, true, true, true, true, true] rfl rfl (by kernel_rfl) (fun _ _ _ h => h) (Or.inl ⟨by rfl, ?_⟩) ?_ ?_
    rotate_left
    ·intro w'
     go_simp
     with_reducible rfl
    rotate_left
    ·exact pz
    refine done_ (by kernel_rfl) ?_
    try go_wp2
    go_ret2
    exact ⟨_, by first | rfl | (simp [errW_none, errW_some] <;> rfl) | (simp [*, errW_none, errW_some] <;> rfl), by (with_reducible repeat (first | apply Kd.R_alloc | apply Kd.R_drewN | apply Kd.R_drew)); exact HO313.out, by repeat (first | (with_reducible first | exact HB.out | apply below_alloc | apply pw_below_drewN | apply below_drew1 | refine below_set ?_ GE300.out) | exact HB.out)⟩
   ·rw [if_neg c10] at H
    exact absurd H (by simp)
  ·rw [if_neg c9] at H
   exact absurd H (by simp)
 ·rw [if_neg c7] at H
  have c7b0 := beq_eq_false_iff_ne.mpr c7
  have c7b1 := bne_iff_ne.mpr c7
  simp only [Option.some.injEq, Prod.mk.injEq] at H
  obtain ⟨rfl, rfl⟩ := H
  go_enter Tryd.func129, Tryd.ntmps129
  go_wp2_with (first | ((with_reducible refine gate_dst (N := 2) rfl ?_); refine be 2 24 #[.slice A0_0 l0_0.length c0_0] ?_; intro gb300 hg w24 hbox hb; have BK300 := m0 hbox; have GW300 := m0 (bg (n := w.heap.size) hg); have GE300 := m0 (bg (n := w.heap.size) hg); replace HB := sb HB hb; clear hb hbox hg; obtain ⟨_, _⟩ := b1 BK300) | ((with_reducible refine gate_callee (f := 51) rfl ?_); refine gl (some 12) Tryd.func51 #[.agg #[.slice A0_0 l0_0.length c0_0]] ?_; (with_reducible refine (line_CheckNoise.calls _ _ l0_0 t301 t302 _ ?side1 ?side2 A3.out).mono ?_); (case side1 => exact cb HR0_0 HB); (case side2 => exact HC0_0.out); rintro e w26 ⟨rfl, hb⟩; refine ⟨_, rfl, ?_⟩; replace BK300 := bb BK300 hb; replace HB := sb HB hb; (try clear hb)) | ((with_reducible refine gate_callee (f := 105) rfl ?_); refine gl (some 17) Tryd.func105 #[.int .i64 a1, .int .i64 1, .int .i64 16] ?_; (with_reducible refine (line_within.calls a1 1 16 t303 _ A4.out).mono ?_); rintro e w' ⟨rfl, ⟨nd, rfl⟩⟩; refine ⟨_, rfl, ?_⟩) | ((with_reducible refine gate_callee (f := 93) rfl ?_); refine gl (some 18) Tryd.func93 #[.bool t303, .int .i64 2] ?_; (with_reducible refine (line_unless.calls t303 2 t304 _ A5.out).mono ?_); rintro e w' ⟨rfl, ⟨nd, rfl⟩⟩; refine ⟨_, rfl, ?_⟩) | ((with_reducible refine gate_dst (N := 19) rfl ?_); refine Kd.R_lit (Kd.int .i64) _ 31 ?hg (N := 19) ?hd (xs := ([t302, t304] : List Int)) (inner := [.int .i64 t302, .int .i64 t304]) (ok := fun _ => True) (okp := fun _ => True) ?hr ?hp (fun _ hk => hk) trivial (Below.refl _ _) (Nat.le_refl _) (by simp) ?_; (case hd => rfl); (case hg => rfl); (case hr => first | (go_simp; done) | (go_simp; rfl)); (case hp => exact (Reps.one (show Kd.M (Kd.int .i64) _ _ _ t302 [.int .i64 t302] from rfl) (Reps.one (show Kd.M (Kd.int .i64) _ _ _ t304 [.int .i64 t304] from rfl) (Reps.none _ _)))); intro v306 w27 ho28 hb hg_ hnew_; clear hg_ hnew_; (first | rw [← Ny305.out] at ho28 | (simp only [Int.reduceToNat] at ho28; rw [← Ny305.out] at ho28)); have HO307 := m0 (Kd.R_lower ho28 (below_size bz)); replace BK300 := bb BK300 hb; replace HB := sb HB hb; clear hb ho28; obtain ⟨Ao29, co29, eo29⟩ := Kd.R_slice HO307.out; subst eo29) | ((with_reducible refine gate_callee (f := 91) rfl ?_); refine gl (some 20) Tryd.func91 #[.slice Ao29 y305.length co29] ?_; (with_reducible refine (line_first.calls k _ _ y305 t308 _ ?side1 ?side2 A6.out).mono ?_); (case side1 => exact bc (Kd.R_reads' HO307.out).2.2); (case side2 => exact (Kd.R_reads' HO307.out).2.1); rintro e w' ⟨rfl, ⟨nd, rfl⟩⟩; refine ⟨_, rfl, ?_⟩))
  go_ret2
  exact ⟨_, by first | rfl | (simp [errW_none, errW_some] <;> rfl) | (simp [*, errW_none, errW_some] <;> rfl), by first | exact Kd.R_nil _ _ _ _ _ | exact Kd.N_nil _ _ _ _ _ | exact Kd.V_nil _ _ _ _ _ | exact Kd.Q_nil _ _ _ _ _ | exact Kd.S_nil _ _ _ _ _, by repeat (first | (with_reducible first | exact HB.out | apply below_alloc | apply pw_below_drewN | apply below_drew1 | refine below_set ?_ GE300.out) | exact HB.out)⟩
end
section
def line_FalseRate.f (k : Nat) (l0_0 : List Int) (a1 : Int) (a2 : Int) : Option (Int × Int × Int) := (line_openNoise.f k l0_0 a1).bind fun bt317 => ((line_thresholdErr.f a2).bind fun t321 => ((line_first.f k (([bt317.2, t321] : List Int))).bind fun t325 => (if t325 = 0 then ((line_rate.f k bt317.1 l0_0 a2).bind fun bt326 => (some (bt326.1, bt326.2, 0))) else (some (0, 0, t325)))))
theorem line_FalseRate.mono : ∀ a0 a1 a2 k, LeO (line_FalseRate.f k a0 a1 a2) (line_FalseRate.f (k + 1) a0 a1 a2) := by
 intro a0 a1 a2 k
 unfold line_FalseRate.f
 repeat' first
   | (with_reducible exact line_first.mono _ _)
   | (with_reducible exact line_openNoise.mono _ _ _)
   | (with_reducible exact line_rate.mono _ _ _ _)
   | (with_reducible exact LeO.refl _)
   | (with_reducible exact LeO.none _)
   | (with_reducible refine LeO.ite ?_ ?_)
   | (with_reducible refine LeO.bind ?_ (fun _ => ?_))
   | exact line_first.mono _ _
   | exact line_openNoise.mono _ _ _
   | exact line_rate.mono _ _ _ _
   | exact LeO.none _
   | refine LeO.ite ?_ ?_
   | refine LeO.bind ?_ (fun _ => ?_)
theorem line_FalseRate.calls (k : Nat) (A0_0 : Option Addr) (c0_0 : Nat) (l0_0 : List Int) (a1 : Int) (a2 : Int) (r1 : Int) (r2 : Int) (r3 : Int) (w : World) (hr0_0 : Kd.C (Kd.int .i64) w A0_0 l0_0.length l0_0) (hc0_0 : l0_0.length ≤ c0_0) (h : line_FalseRate.f k l0_0 a1 a2 = some (r1, r2, r3)) :
  Calls Tryd.prog 83 #[.agg #[.slice A0_0 l0_0.length c0_0], .int .i64 a1, .int .i64 a2] w fun e w' => e = .returned (.tuple #[.agg #[.int .i64 r1, .int .i64 r2], .int .i64 r3]) ∧ Below w.heap.size w w' := by
 have hu24 := Tryd.underlying24
 have hu26 := Tryd.underlying26
 have HR0_0 := m0 hr0_0
 have HC0_0 := m0 hc0_0
 clear hr0_0 hc0_0
 have HB := m0 (Below.refl w.heap.size w)
 have H : ((line_openNoise.f k l0_0 a1).bind fun bt317 => ((line_thresholdErr.f a2).bind fun t321 => ((line_first.f k (([bt317.2, t321] : List Int))).bind fun t325 => (if t325 = 0 then ((line_rate.f k bt317.1 l0_0 a2).bind fun bt326 => (some (bt326.1, bt326.2, 0))) else (some (0, 0, t325)))))) = some (r1, r2, r3) := h
 clear h
 replace H := ob H
 obtain ⟨⟨t317, t320⟩, A40, H⟩ := H
 (try dsimp only at H)
 have A4 := m0 A40
 clear A40
 replace H := ob H
 obtain ⟨t321, A50, H⟩ := H
 (try dsimp only at H)
 have A5 := m0 A50
 clear A50
 obtain ⟨y322, hy322⟩ : ∃ y_ : List Int, y_ = (([t320, t321] : List Int)) := ⟨_, rfl⟩
 replace H : ((line_first.f k y322).bind fun t325 => (if t325 = 0 then ((line_rate.f k t317 l0_0 a2).bind fun bt326 => (some (bt326.1, bt326.2, 0))) else (some (0, 0, t325)))) = some (r1, r2, r3) := by first | (rw [hy322]; with_reducible exact H) | (have H2_ := (Option.bind_some _ _).symm.trans H; rw [hy322]; with_reducible exact H2_) | (have H2_ := (Option.bind_some _ _).symm.trans H; with_reducible exact H2_) | with_reducible exact H | (rw [hy322]; exact H) | exact H
 have Ny322 := m0 hy322
 clear hy322
 replace H := ob H
 obtain ⟨t325, A60, H⟩ := H
 (try dsimp only at H)
 have A6 := m0 A60
 clear A60
 by_cases c7 : t325 = 0
 ·rw [if_pos c7] at H
  have c7b0 := beq_iff_eq.mpr c7
  have c7b1 := bne_eq_false_iff_eq.mpr c7
  clear c7
  replace H := ob H
  obtain ⟨⟨t326, t327⟩, A80, H⟩ := H
  (try dsimp only at H)
  have A8 := m0 A80
  clear A80
  simp only [Option.some.injEq, Prod.mk.injEq] at H
  obtain ⟨rfl, rfl, rfl⟩ := H
  go_enter Tryd.func83, Tryd.ntmps83
  go_wp2_with (first | ((with_reducible refine gate_dst (N := 3) rfl ?_); refine be 3 24 #[.slice A0_0 l0_0.length c0_0] ?_; intro gb315 hg w9 hbox hb; have BK315 := m0 hbox; have GW315 := m0 (bg (n := w.heap.size) hg); have GE315 := m0 (bg (n := w.heap.size) hg); replace HB := sb HB hb; clear hb hbox hg) | ((with_reducible refine gate_dst (N := 6) rfl ?_); refine be 6 26 #[.int .i64 0, .int .i64 0] ?_; intro gb316 hg w10 hbox hb; have BK316 := m0 hbox; have GW316 := m0 (bg (n := w.heap.size) hg); have GE316 := m0 (bg (n := w.heap.size) hg); replace HB := sb HB hb; have NB315_316 := nl BK315 hg; have NB316_315 := ng (nl BK315 hg); replace BK315 := bb BK315 hb; clear hb hbox hg; have hnb11 := NB315_316.out; have hnc11 := NB316_315.out; obtain ⟨_, _⟩ := b1 BK315) | ((with_reducible refine gate_callee (f := 129) rfl ?_); refine gl (some 13) Tryd.func129 #[.agg #[.slice A0_0 l0_0.length c0_0], .int .i64 a1] ?_; (with_reducible refine (line_openNoise.calls k _ _ l0_0 a1 t317 t320 _ ?side1 ?side2 A4.out).mono ?_); (case side1 => exact cb HR0_0 HB); (case side2 => exact HC0_0.out); rintro e w13 ⟨v318, rfl, ho0, hb⟩; refine ⟨_, rfl, ?_⟩; have HO319 := m0 (Kd.R_lower ho0 (below_size bz)); replace BK315 := bb BK315 hb; replace BK316 := bb BK316 hb; replace HB := sb HB hb; (try clear hb); (try clear ho0)) | ((with_reducible refine gate_callee (f := 100) rfl ?_); refine gl (some 18) Tryd.func100 #[.int .i64 a2] ?_; (with_reducible refine (line_thresholdErr.calls a2 t321 _ A5.out).mono ?_); rintro e w' ⟨rfl, ⟨nd, rfl⟩⟩; refine ⟨_, rfl, ?_⟩; (try (rw [drewN_self w13]; generalize hq_ : World.drewN w13 _ = w13; replace HO319 := gr HO319 hq_; replace BK315 := gd BK315 hq_; replace BK316 := gd BK316 hq_; replace HB := gs HB hq_; clear hq_))) | ((with_reducible refine gate_dst (N := 19) rfl ?_); refine Kd.R_lit (Kd.int .i64) _ 31 ?hg (N := 19) ?hd (xs := ([t320, t321] : List Int)) (inner := [.int .i64 t320, .int .i64 t321]) (ok := fun _ => True) (okp := fun _ => True) ?hr ?hp (fun _ hk => hk) trivial (Below.refl _ _) (Nat.le_refl _) (by simp) ?_; (case hd => rfl); (case hg => rfl); (case hr => first | (go_simp; done) | (go_simp; rfl)); (case hp => exact (Reps.one (show Kd.M (Kd.int .i64) _ _ _ t320 [.int .i64 t320] from rfl) (Reps.one (show Kd.M (Kd.int .i64) _ _ _ t321 [.int .i64 t321] from rfl) (Reps.none _ _)))); intro v323 w14 ho15 hb hg_ hnew_; clear hg_ hnew_; (first | rw [← Ny322.out] at ho15 | (simp only [Int.reduceToNat] at ho15; rw [← Ny322.out] at ho15)); replace HO319 := rb HO319 hb; have HO324 := m0 (Kd.R_lower ho15 (below_size bz)); replace BK315 := bb BK315 hb; replace BK316 := bb BK316 hb; replace HB := sb HB hb; clear hb ho15; obtain ⟨Ao16, co16, eo16⟩ := Kd.R_slice HO324.out; subst eo16) | ((with_reducible refine gate_callee (f := 91) rfl ?_); refine gl (some 20) Tryd.func91 #[.slice Ao16 y322.length co16] ?_; (with_reducible refine (line_first.calls k _ _ y322 t325 _ ?side1 ?side2 A6.out).mono ?_); (case side1 => exact bc (Kd.R_reads' HO324.out).2.2); (case side2 => exact (Kd.R_reads' HO324.out).2.1); rintro e w' ⟨rfl, ⟨nd, rfl⟩⟩; refine ⟨_, rfl, ?_⟩; (try (rw [drewN_self w14]; generalize hq_ : World.drewN w14 _ = w14; replace HO319 := gr HO319 hq_; replace HO324 := gr HO324 hq_; replace BK315 := gd BK315 hq_; replace BK316 := gd BK316 hq_; replace HB := gs HB hq_; clear hq_)); obtain ⟨_, _⟩ := b1 BK315; obtain ⟨Ao18, co18, eo18⟩ := Kd.R_slice HO319.out; subst eo18) | ((with_reducible refine gate_callee (f := 101) rfl ?_); refine gl (some 28) Tryd.func101 #[.slice Ao18 t317.length co18, .agg #[.slice A0_0 l0_0.length c0_0], .int .i64 a2] ?_; (with_reducible refine (line_rate.calls k _ _ t317 _ _ l0_0 a2 t326 t327 _ ?side1 ?side2 ?side3 ?side4 A8.out).mono ?_); (case side1 => exact bc (Kd.R_reads' HO319.out).2.2); (case side2 => exact (Kd.R_reads' HO319.out).2.1); (case side3 => exact cb HR0_0 HB); (case side4 => exact HC0_0.out); rintro e w19 ⟨rfl, hb⟩; refine ⟨_, rfl, ?_⟩; replace HO319 := rb HO319 hb; replace HO324 := rb HO324 hb; replace BK315 := bb BK315 hb; replace BK316 := bb BK316 hb; replace HB := sb HB hb; (try clear hb); obtain ⟨_, _, _, _⟩ := b2 BK316))
  refine bodyPost_ret (results_ct rfl _ _ gb316 26 #[.int .i64 t326, .int .i64 t327] (0, 0) _ rfl (bq BK316.out) Tryd.underlying26 rfl (by kernel_rfl)) rfl ?_
  exact ez
 ·rw [if_neg c7] at H
  have c7b0 := beq_eq_false_iff_ne.mpr c7
  have c7b1 := bne_iff_ne.mpr c7
  simp only [Option.some.injEq, Prod.mk.injEq] at H
  obtain ⟨rfl, rfl, rfl⟩ := H
  go_enter Tryd.func83, Tryd.ntmps83
  go_wp2_with (first | ((with_reducible refine gate_dst (N := 3) rfl ?_); refine be 3 24 #[.slice A0_0 l0_0.length c0_0] ?_; intro gb315 hg w21 hbox hb; have BK315 := m0 hbox; have GW315 := m0 (bg (n := w.heap.size) hg); have GE315 := m0 (bg (n := w.heap.size) hg); replace HB := sb HB hb; clear hb hbox hg) | ((with_reducible refine gate_dst (N := 6) rfl ?_); refine be 6 26 #[.int .i64 0, .int .i64 0] ?_; intro gb316 hg w22 hbox hb; have BK316 := m0 hbox; have GW316 := m0 (bg (n := w.heap.size) hg); have GE316 := m0 (bg (n := w.heap.size) hg); replace HB := sb HB hb; have NB315_316 := nl BK315 hg; have NB316_315 := ng (nl BK315 hg); replace BK315 := bb BK315 hb; clear hb hbox hg; have hnb23 := NB315_316.out; have hnc23 := NB316_315.out; obtain ⟨_, _⟩ := b1 BK315) | ((with_reducible refine gate_callee (f := 129) rfl ?_); refine gl (some 13) Tryd.func129 #[.agg #[.slice A0_0 l0_0.length c0_0], .int .i64 a1] ?_; (with_reducible refine (line_openNoise.calls k _ _ l0_0 a1 t317 t320 _ ?side1 ?side2 A4.out).mono ?_); (case side1 => exact cb HR0_0 HB); (case side2 => exact HC0_0.out); rintro e w25 ⟨v318, rfl, ho0, hb⟩; refine ⟨_, rfl, ?_⟩; have HO319 := m0 (Kd.R_lower ho0 (below_size bz)); replace BK315 := bb BK315 hb; replace BK316 := bb BK316 hb; replace HB := sb HB hb; (try clear hb); (try clear ho0)) | ((with_reducible refine gate_callee (f := 100) rfl ?_); refine gl (some 18) Tryd.func100 #[.int .i64 a2] ?_; (with_reducible refine (line_thresholdErr.calls a2 t321 _ A5.out).mono ?_); rintro e w' ⟨rfl, ⟨nd, rfl⟩⟩; refine ⟨_, rfl, ?_⟩; (try (rw [drewN_self w25]; generalize hq_ : World.drewN w25 _ = w25; replace HO319 := gr HO319 hq_; replace BK315 := gd BK315 hq_; replace BK316 := gd BK316 hq_; replace HB := gs HB hq_; clear hq_))) | ((with_reducible refine gate_dst (N := 19) rfl ?_); refine Kd.R_lit (Kd.int .i64) _ 31 ?hg (N := 19) ?hd (xs := ([t320, t321] : List Int)) (inner := [.int .i64 t320, .int .i64 t321]) (ok := fun _ => True) (okp := fun _ => True) ?hr ?hp (fun _ hk => hk) trivial (Below.refl _ _) (Nat.le_refl _) (by simp) ?_; (case hd => rfl); (case hg => rfl); (case hr => first | (go_simp; done) | (go_simp; rfl)); (case hp => exact (Reps.one (show Kd.M (Kd.int .i64) _ _ _ t320 [.int .i64 t320] from rfl) (Reps.one (show Kd.M (Kd.int .i64) _ _ _ t321 [.int .i64 t321] from rfl) (Reps.none _ _)))); intro v323 w26 ho27 hb hg_ hnew_; clear hg_ hnew_; (first | rw [← Ny322.out] at ho27 | (simp only [Int.reduceToNat] at ho27; rw [← Ny322.out] at ho27)); replace HO319 := rb HO319 hb; have HO324 := m0 (Kd.R_lower ho27 (below_size bz)); replace BK315 := bb BK315 hb; replace BK316 := bb BK316 hb; replace HB := sb HB hb; clear hb ho27; obtain ⟨Ao28, co28, eo28⟩ := Kd.R_slice HO324.out; subst eo28) | ((with_reducible refine gate_callee (f := 91) rfl ?_); refine gl (some 20) Tryd.func91 #[.slice Ao28 y322.length co28] ?_; (with_reducible refine (line_first.calls k _ _ y322 t325 _ ?side1 ?side2 A6.out).mono ?_); (case side1 => exact bc (Kd.R_reads' HO324.out).2.2); (case side2 => exact (Kd.R_reads' HO324.out).2.1); rintro e w' ⟨rfl, ⟨nd, rfl⟩⟩; refine ⟨_, rfl, ?_⟩; (try (rw [drewN_self w26]; generalize hq_ : World.drewN w26 _ = w26; replace HO319 := gr HO319 hq_; replace HO324 := gr HO324 hq_; replace BK315 := gd BK315 hq_; replace BK316 := gd BK316 hq_; replace HB := gs HB hq_; clear hq_)); obtain ⟨_, _, _, _⟩ := b2 BK316))
  refine bodyPost_ret (results_ct rfl _ _ gb316 26 #[.int .i64 0, .int .i64 0] (0, 0) _ rfl (bq BK316.out) Tryd.underlying26 rfl (by kernel_rfl)) rfl ?_
  exact ez
end
section
def Lw_Noise.f  : Option (List Int) := some (([0, 1] : List Int))
theorem Lw_Noise.calls  (r : List Int) (w : World) (h : Lw_Noise.f  = some r) :
  Calls Tryd.prog 89 #[] w fun e w' => ∃ v0_ : Value, e = .returned (.agg #[v0_]) ∧ Kd.R (Kd.int .i64) 3 w' w.heap.size (fun _ => True) v0_ r ∧ Below w.heap.size w w' := by
 have hu24 := Tryd.underlying24
 have HB := m0 (Below.refl w.heap.size w)
 have H : (some (([0, 1] : List Int))) = some r := h
 clear h
 obtain ⟨y329, hy329⟩ : ∃ y_ : List Int, y_ = (([0, 1] : List Int)) := ⟨_, rfl⟩
 replace H : (some y329) = some r := by first | (rw [hy329]; with_reducible exact H) | (have H2_ := (Option.bind_some _ _).symm.trans H; rw [hy329]; with_reducible exact H2_) | (have H2_ := (Option.bind_some _ _).symm.trans H; with_reducible exact H2_) | with_reducible exact H | (rw [hy329]; exact H) | exact H
 have Ny329 := m0 hy329
 clear hy329
 obtain rfl := Option.some.inj H
 go_enter Tryd.func89, Tryd.ntmps89
 go_wp2_with (first | ((with_reducible refine gate_dst (N := 0) rfl ?_); refine be 0 24 #[.slice none 0 0] ?_; intro gb328 hg w1 hbox hb; have BK328 := m0 hbox; have GW328 := m0 (bg (n := w.heap.size) hg); have GE328 := m0 (bg (n := w.heap.size) hg); replace HB := sb HB hb; clear hb hbox hg) | ((with_reducible refine gate_dst (N := 1) rfl ?_); refine Kd.R_lit (Kd.int .i64) _ 3 ?hg (N := 1) ?hd (xs := ([0, 1] : List Int)) (inner := [.int .i64 0, .int .i64 1]) (ok := fun _ => True) (okp := fun _ => True) ?hr ?hp (fun _ hk => hk) trivial (Below.refl _ _) (Nat.le_refl _) (by simp) ?_; (case hd => rfl); (case hg => rfl); (case hr => first | (go_simp; done) | (go_simp; rfl)); (case hp => exact (Reps.one (show Kd.M (Kd.int .i64) _ _ _ 0 [.int .i64 0] from rfl) (Reps.one (show Kd.M (Kd.int .i64) _ _ _ 1 [.int .i64 1] from rfl) (Reps.none _ _)))); intro v330 w2 ho3 hb hg_ hnew_; clear hg_ hnew_; (first | rw [← Ny329.out] at ho3 | (simp only [Int.reduceToNat] at ho3; rw [← Ny329.out] at ho3)); have HO331 := m0 (Kd.R_lower ho3 (below_size bz)); replace BK328 := bb BK328 hb; replace HB := sb HB hb; clear hb ho3; obtain ⟨Ao4, co4, eo4⟩ := Kd.R_slice HO331.out; subst eo4; obtain ⟨_, _⟩ := b1 BK328))
 refine bodyPost_ret (results_cell_row rfl _ _ gb328 24 #[.slice Ao4 y329.length co4] (0, 0) _ rfl (bq BK328.out) Tryd.underlying24 rfl (by kernel_rfl)) rfl ?_
 exact ⟨_, by first | rfl | (simp [errW_none, errW_some] <;> rfl) | (simp [*, errW_none, errW_some] <;> rfl), by (with_reducible repeat (first | apply Kd.R_alloc | apply Kd.R_drewN | apply Kd.R_drew)); exact Kd.R_mono (Kd.R_far (p := ⟨gb328, 0, none⟩) (Kd.R_types HO331.out BK328.out (by decide)) (fun _ hk => hk.2) (.slice Ao4 y329.length co4)) (fun _ hk => trivial), by repeat (first | (with_reducible first | exact HB.out | apply below_alloc | apply pw_below_drewN | apply below_drew1 | refine below_set ?_ GE328.out) | exact HB.out)⟩
end
section
def Lw_Case.f  : Option (List Int × List Int × Int × Int) := (Lw_Noise.f).bind fun t336 => ((Bs_Whole.f 0).bind fun bt339 => (some ((([2, 2] : List Int)), t336, bt339.1, bt339.2)))
theorem Lw_Case.calls  (r1 : List Int) (r2 : List Int) (r3 : Int) (r4 : Int) (w : World) (h : Lw_Case.f  = some (r1, r2, r3, r4)) :
  Calls Tryd.prog 90 #[] w fun e w' => ∃ v0_ v1_ : Value, e = .returned (.agg #[v0_, v1_, .int .i64 r3, .int .i64 r4]) ∧ Kd.R (Kd.int .i64) 3 w' w.heap.size (fun k_ => some k_ ≠ (v1_ : Value).ownBlock) v0_ r1 ∧ Kd.R (Kd.int .i64) 3 w' w.heap.size (fun k_ => some k_ ≠ (v0_ : Value).ownBlock) v1_ r2 ∧ Below w.heap.size w w' := by
 have hu28 := Tryd.underlying28
 have HB := m0 (Below.refl w.heap.size w)
 have H : ((Lw_Noise.f).bind fun t336 => ((Bs_Whole.f 0).bind fun bt339 => (some ((([2, 2] : List Int)), t336, bt339.1, bt339.2)))) = some (r1, r2, r3, r4) := h
 clear h
 obtain ⟨y333, hy333⟩ : ∃ y_ : List Int, y_ = (([2, 2] : List Int)) := ⟨_, rfl⟩
 replace H : ((Lw_Noise.f).bind fun t336 => ((Bs_Whole.f 0).bind fun bt339 => (some (y333, t336, bt339.1, bt339.2)))) = some (r1, r2, r3, r4) := by first | (rw [hy333]; with_reducible exact H) | (have H2_ := (Option.bind_some _ _).symm.trans H; rw [hy333]; with_reducible exact H2_) | (have H2_ := (Option.bind_some _ _).symm.trans H; with_reducible exact H2_) | with_reducible exact H | (rw [hy333]; exact H) | exact H
 have Ny333 := m0 hy333
 clear hy333
 replace H := ob H
 obtain ⟨t336, A10, H⟩ := H
 (try dsimp only at H)
 have A1 := m0 A10
 clear A10
 replace H := ob H
 obtain ⟨⟨t339, t340⟩, A20, H⟩ := H
 (try dsimp only at H)
 have A2 := m0 A20
 clear A20
 simp only [Option.some.injEq, Prod.mk.injEq] at H
 obtain ⟨rfl, rfl, rfl, rfl⟩ := H
 go_enter Tryd.func90, Tryd.ntmps90
 go_wp2_with (first | ((with_reducible refine gate_dst (N := 0) rfl ?_); refine be 0 28 #[.slice none 0 0, .slice none 0 0, .int .i64 0, .int .i64 0] ?_; intro gb332 hg w3 hbox hb; have BK332 := m0 hbox; have GW332 := m0 (bg (n := w.heap.size) hg); have GE332 := m0 (bg (n := w.heap.size) hg); replace HB := sb HB hb; clear hb hbox hg) | ((with_reducible refine gate_dst (N := 1) rfl ?_); refine Kd.R_lit (Kd.int .i64) _ 3 ?hg (N := 1) ?hd (xs := ([2, 2] : List Int)) (inner := [.int .i64 2, .int .i64 2]) (ok := fun _ => True) (okp := fun _ => True) ?hr ?hp (fun _ hk => hk) trivial (Below.refl _ _) (Nat.le_refl _) (by simp) ?_; (case hd => rfl); (case hg => rfl); (case hr => first | (go_simp; done) | (go_simp; rfl)); (case hp => exact (Reps.one (show Kd.M (Kd.int .i64) _ _ _ 2 [.int .i64 2] from rfl) (Reps.one (show Kd.M (Kd.int .i64) _ _ _ 2 [.int .i64 2] from rfl) (Reps.none _ _)))); intro v334 w4 ho5 hb hg_ hnew_; clear hg_ hnew_; (first | rw [← Ny333.out] at ho5 | (simp only [Int.reduceToNat] at ho5; rw [← Ny333.out] at ho5)); have HO335 := m0 (Kd.R_lower ho5 (below_size bz)); replace BK332 := bb BK332 hb; replace HB := sb HB hb; clear hb ho5) | ((with_reducible refine gate_callee (f := 89) rfl ?_); refine gl (some 2) Tryd.func89 #[] ?_; (with_reducible refine (Lw_Noise.calls  t336 _ A1.out).mono ?_); rintro e w6 ⟨v337, rfl, ho0, hb⟩; refine ⟨_, rfl, ?_⟩; have HO338 := m0 (Kd.R_lower (Kd.R_new' ho0 (Kd.R_lt (br HO335.out))) (below_size bz)); replace HO335 := m0 (Kd.R_elder' (br HO335.out) (Kd.R_base ho0) hb); replace BK332 := bb BK332 hb; replace HB := sb HB hb; (try clear hb); (try clear ho0)) | ((with_reducible refine gate_callee (f := 38) rfl ?_); refine gl (some 3) Tryd.func38 #[.int .i64 0] ?_; (with_reducible refine (Bs_Whole.calls 0 t339 t340 _ A2.out).mono ?_); rintro e w7 ⟨rfl, hb⟩; refine ⟨_, rfl, ?_⟩; replace HO335 := rb HO335 hb; replace HO338 := rb HO338 hb; replace BK332 := bb BK332 hb; replace HB := sb HB hb; (try clear hb); obtain ⟨Ao8, co8, eo8⟩ := Kd.R_slice HO338.out; subst eo8; obtain ⟨Ao9, co9, eo9⟩ := Kd.R_slice HO335.out; subst eo9; obtain ⟨_, _, _, _, _, _, _, _⟩ := b4 BK332))
 refine bodyPost_ret (results_cell_row rfl _ _ gb332 28 #[.slice Ao9 y333.length co9, .slice Ao8 t336.length co8, .int .i64 t339, .int .i64 t340] (0, 0) _ rfl (bq BK332.out) Tryd.underlying28 rfl (by kernel_rfl)) rfl ?_
 exact ⟨_, _, by first | rfl | (simp [errW_none, errW_some] <;> rfl) | (simp [*, errW_none, errW_some] <;> rfl), by (with_reducible repeat (first | apply Kd.R_alloc | apply Kd.R_drewN | apply Kd.R_drew)); exact Kd.R_mono (Kd.R_far (p := ⟨gb332, 3, none⟩) (Kd.R_far (p := ⟨gb332, 2, none⟩) (Kd.R_far (p := ⟨gb332, 1, none⟩) (Kd.R_far (p := ⟨gb332, 0, none⟩) (Kd.R_types HO335.out BK332.out (by decide)) (fun _ hk => hk.2) (.slice Ao9 y333.length co9)) (fun _ hk => hk.2) (.slice Ao8 t336.length co8)) (fun _ hk => hk.2) (.int .i64 t339)) (fun _ hk => hk.2) (.int .i64 t340)) (fun _ hk => hk.1.2), by (with_reducible repeat (first | apply Kd.R_alloc | apply Kd.R_drewN | apply Kd.R_drew)); exact Kd.R_mono (Kd.R_far (p := ⟨gb332, 3, none⟩) (Kd.R_far (p := ⟨gb332, 2, none⟩) (Kd.R_far (p := ⟨gb332, 1, none⟩) (Kd.R_far (p := ⟨gb332, 0, none⟩) (Kd.R_types HO338.out BK332.out (by decide)) (fun _ hk => hk.2) (.slice Ao9 y333.length co9)) (fun _ hk => hk.2) (.slice Ao8 t336.length co8)) (fun _ hk => hk.2) (.int .i64 t339)) (fun _ hk => hk.2) (.int .i64 t340)) (fun _ hk => hk.1.2), by repeat (first | (with_reducible first | exact HB.out | apply below_alloc | apply pw_below_drewN | apply below_drew1 | refine below_set ?_ GE332.out) | exact HB.out)⟩
end
end Go.Proofs.YtjnkphmcndaijaaDoor.A
