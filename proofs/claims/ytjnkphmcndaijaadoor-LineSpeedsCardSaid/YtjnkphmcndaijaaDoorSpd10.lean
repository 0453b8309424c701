/- Walks of the program's functions (printed, made shorter), each with what it computes. -/
import Derived.Test.YtjnkphmcndaijaaDoorSpd04
import Derived.Test.YtjnkphmcndaijaaDoorSpd09
import Derived.Test.YtjnkphmcndaijaaDoorSpd03
import Derived.Test.YtjnkphmcndaijaaDoorSpd07
import Derived.Shelf.Abstract
namespace Go.Proofs.YtjnkphmcndaijaaDoor.A
set_option maxHeartbeats 8000000
set_option maxRecDepth 100000
open Go.RowKit Go.Proofs.YtjnkphmcndaijaaDoorW.PrintWords Go.Proofs.YtjnkphmcndaijaaDoorW.PrintLast Go.Proofs.YtjnkphmcndaijaaDoorW.PrintMore
attribute [local go_sem] max2_int min2_int max_two min_two max_three min_three max_four min_four
set_option linter.unusedVariables false
set_option linter.unusedSimpArgs false
section
def L_WorstOf.f (k : Nat) (l0_0 : List Int) (l0_1 : List Int) (a0_2 : Int) (a0_3 : Int) (a1 : Int) : Option (Int × Int × Int × Int) := (L_CheckCase.f k l0_0 l0_1 a0_2 a0_3).bind fun t215 => ((L_kindErr.f a1).bind fun t216 => ((L_first.f k (([t215, t216] : List Int))).bind fun t220 => (if t220 = 0 then ((L_worst.f k l0_0 l0_1 a0_2 a0_3 a1).bind fun bt221 => (some (bt221.1, bt221.2.1, bt221.2.2, 0))) else (none))))
theorem L_WorstOf.mono : ∀ a0 a1 a2 a3 a4 k, LeO (L_WorstOf.f k a0 a1 a2 a3 a4) (L_WorstOf.f (k + 1) a0 a1 a2 a3 a4) := by
 intro a0 a1 a2 a3 a4 k
 unfold L_WorstOf.f
 repeat' with_reducible first
  | exact L_CheckCase.mono ..
  | exact L_first.mono ..
  | exact L_worst.mono ..
  | exact LeO.refl ..
  | exact LeO.none ..
  | refine LeO.ite ?_ ?_
  | refine LeO.bind ?_ (fun _ => ?_)
theorem L_WorstOf.calls (k : Nat) (A0_0 : Option Addr) (c0_0 : Nat) (l0_0 : List Int) (A0_1 : Option Addr) (c0_1 : Nat) (l0_1 : List Int) (a0_2 : Int) (a0_3 : Int) (a1 : Int) (r1 : Int) (r2 : Int) (r3 : Int) (r4 : Int) (w : World) (hr0_0 : Kd.C (Kd.int .i64) w A0_0 l0_0.length l0_0) (hc0_0 : l0_0.length ≤ c0_0) (hr0_1 : Kd.C (Kd.int .i64) w A0_1 l0_1.length l0_1) (hc0_1 : l0_1.length ≤ c0_1) (hG : EstG w) (h : L_WorstOf.f k l0_0 l0_1 a0_2 a0_3 a1 = some (r1, r2, r3, r4)) :
  Calls Tryd.prog 22 #[.agg #[.slice A0_0 l0_0.length c0_0, .slice A0_1 l0_1.length c0_1, .int .i64 a0_2, .int .i64 a0_3], .int .i64 a1] w fun e w' => e = .returned (.tuple #[.agg #[.int .i64 r1, .int .i64 r2, .int .i64 r3], .int .i64 r4]) ∧ Below w.heap.size w w' := by
 have hu28 := Tryd.underlying28
 have hu36 := Tryd.underlying36
 have HG := m0 hG
 clear hG
 have HR0_0 := m0 hr0_0
 have HC0_0 := m0 hc0_0
 clear hr0_0 hc0_0
 have HR0_1 := m0 hr0_1
 have HC0_1 := m0 hc0_1
 clear hr0_1 hc0_1
 have HB := m0 (Below.refl w.heap.size w)
 have H : ((L_CheckCase.f k l0_0 l0_1 a0_2 a0_3).bind fun t215 => ((L_kindErr.f a1).bind fun t216 => ((L_first.f k (([t215, t216] : List Int))).bind fun t220 => (if t220 = 0 then ((L_worst.f k l0_0 l0_1 a0_2 a0_3 a1).bind fun bt221 => (some (bt221.1, bt221.2.1, bt221.2.2, 0))) else (none))))) = some (r1, r2, r3, r4) := h
 clear h
 replace H := ob H
 obtain ⟨t215, A3, H⟩ := H
 (try dsimp only at H)
 replace A3 := m0 A3
 replace H := ob H
 obtain ⟨t216, A4, H⟩ := H
 (try dsimp only at H)
 replace A4 := m0 A4
 obtain ⟨y217, hy217⟩ : ∃ y_ : List Int, y_ = (([t215, t216] : List Int)) := ⟨_, rfl⟩
 replace H : ((L_first.f k y217).bind fun t220 => (if t220 = 0 then ((L_worst.f k l0_0 l0_1 a0_2 a0_3 a1).bind fun bt221 => (some (bt221.1, bt221.2.1, bt221.2.2, 0))) else (none))) = some (r1, r2, r3, r4) := by first | (rw [hy217]; with_reducible exact H) | (have H2_ := (Option.bind_some _ _).symm.trans H; rw [hy217]; with_reducible exact H2_) | (have H2_ := (Option.bind_some _ _).symm.trans H; with_reducible exact H2_) | with_reducible exact H | (rw [hy217]; exact H) | exact H
 have Ny217 := m0 hy217
 clear hy217
 replace H := ob H
 obtain ⟨t220, A5, H⟩ := H
 (try dsimp only at H)
 replace A5 := m0 A5
 by_cases c6 : t220 = 0
 ·rw [if_pos c6] at H
  have c6b0 := beq_iff_eq.mpr c6
  have c6b1 := bne_eq_false_iff_eq.mpr c6
  clear c6
  replace H := ob H
  obtain ⟨⟨t221, t222, t223⟩, A7, H⟩ := H
  (try dsimp only at H)
  replace A7 := m0 A7
  simp only [Option.some.injEq, Prod.mk.injEq] at H
  obtain ⟨rfl, rfl, rfl, rfl⟩ := H
  go_enter Tryd.func22, Tryd.ntmps22
  go_wp2_with (first | ((with_reducible refine gate_dst (N := 2) rfl ?_); refine be 2 28 #[.slice A0_0 l0_0.length c0_0, .slice A0_1 l0_1.length c0_1, .int .i64 a0_2, .int .i64 a0_3] ?_; intro gb213 hg w8 hbox hb; have BK213 := m0 hbox; have GE213 := gw w hg; replace HB := sb HB hb; clear hb hbox hg) | ((with_reducible refine gate_dst (N := 4) rfl ?_); refine be 4 36 #[.int .i64 0, .int .i64 0, .int .i64 0] ?_; intro gb214 hg w9 hbox hb; have BK214 := m0 hbox; have GE214 := gw w hg; replace HB := sb HB hb; have NB213_214 := nl BK213 hg; have NB214_213 := ng (nl BK213 hg); replace BK213 := bb BK213 hb; clear hb hbox hg; have hnb10 := NB213_214.out; have hnc10 := NB214_213.out; obtain ⟨_, _, _, _, _, _, _, _⟩ := b4 BK213) | ((with_reducible refine gate_callee (f := 53) rfl ?_); refine gl (some 8) Tryd.func53 #[.agg #[.slice A0_0 l0_0.length c0_0, .slice A0_1 l0_1.length c0_1, .int .i64 a0_2, .int .i64 a0_3]] ?_; (with_reducible refine (L_CheckCase.calls k _ _ l0_0 _ _ l0_1 a0_2 a0_3 t215 _ ?side1 ?side2 ?side3 ?side4 A3.out).mono ?_); (case side1 => exact cb HR0_0 HB); (case side2 => exact HC0_0.out); (case side3 => exact cb HR0_1 HB); (case side4 => exact HC0_1.out); rintro e w12 ⟨rfl, hb⟩; refine ⟨_, rfl, ?_⟩; replace BK213 := bb BK213 hb; replace BK214 := bb BK214 hb; replace HB := sb HB hb; (try clear hb)) | ((with_reducible refine gate_callee (f := 92) rfl ?_); refine gl (some 10) Tryd.func92 #[.int .i64 a1] ?_; (with_reducible refine (L_kindErr.calls a1 t216 _ A4.out).mono ?_); rintro e w' ⟨rfl, ⟨nd, rfl⟩⟩; refine ⟨_, rfl, ?_⟩; (try (rw [drewN_self w12]; generalize hq_ : World.drewN w12 _ = w12; replace BK213 := gd BK213 hq_; replace BK214 := gd BK214 hq_; replace HB := gs HB hq_; clear hq_))) | ((with_reducible refine gate_dst (N := 11) rfl ?_); refine Kd.R_lit (Kd.int .i64) _ 31 ?hg (N := 11) ?hd (xs := ([t215, t216] : List Int)) (inner := [.int .i64 t215, .int .i64 t216]) (ok := fun _ => True) (okp := fun _ => True) ?hr ?hp (fun _ hk => hk) trivial (Below.refl _ _) (Nat.le_refl _) (by simp) ?_; (case hd => rfl); (case hg => rfl); (case hr => first | (go_simp; done) | (go_simp; rfl)); (case hp => exact (Reps.one (show Kd.M (Kd.int .i64) _ _ _ t215 [.int .i64 t215] from rfl) (Reps.one (show Kd.M (Kd.int .i64) _ _ _ t216 [.int .i64 t216] from rfl) (Reps.none _ _)))); intro v218 w13 ho14 hb hg_ hnew_; clear hg_ hnew_; (first | rw [← Ny217.out] at ho14 | (simp only [Int.reduceToNat] at ho14; rw [← Ny217.out] at ho14)); have HO219 := m0 (Kd.R_lower ho14 (below_size bz)); replace BK213 := bb BK213 hb; replace BK214 := bb BK214 hb; replace HB := sb HB hb; clear hb ho14; obtain ⟨Ao15, co15, eo15⟩ := Kd.R_slice HO219.out; subst eo15) | ((with_reducible refine gate_callee (f := 91) rfl ?_); refine gl (some 12) Tryd.func91 #[.slice Ao15 y217.length co15] ?_; (with_reducible refine (L_first.calls k _ _ y217 t220 _ ?side1 ?side2 A5.out).mono ?_); (case side1 => exact bc (Kd.R_reads' HO219.out).2.2); (case side2 => exact (Kd.R_reads' HO219.out).2.1); rintro e w' ⟨rfl, ⟨nd, rfl⟩⟩; refine ⟨_, rfl, ?_⟩; (try (rw [drewN_self w13]; generalize hq_ : World.drewN w13 _ = w13; replace HO219 := gr HO219 hq_; replace BK213 := gd BK213 hq_; replace BK214 := gd BK214 hq_; replace HB := gs HB hq_; clear hq_)); obtain ⟨_, _, _, _, _, _, _, _⟩ := b4 BK213) | ((with_reducible refine gate_callee (f := 97) rfl ?_); refine gl (some 19) Tryd.func97 #[.agg #[.slice A0_0 l0_0.length c0_0, .slice A0_1 l0_1.length c0_1, .int .i64 a0_2, .int .i64 a0_3], .int .i64 a1] ?_; (with_reducible refine (L_worst.calls k _ _ l0_0 _ _ l0_1 a0_2 a0_3 a1 t221 t222 t223 _ ?side1 ?side2 ?side3 ?side4 ?side5 A7.out).mono ?_); (case side1 => exact cb HR0_0 HB); (case side2 => exact HC0_0.out); (case side3 => exact cb HR0_1 HB); (case side4 => exact HC0_1.out); (case side5 => exact EstG.below HG.out bz); rintro e w17 ⟨rfl, hb⟩; refine ⟨_, rfl, ?_⟩; replace HO219 := rb HO219 hb; replace BK213 := bb BK213 hb; replace BK214 := bb BK214 hb; replace HB := sb HB hb; (try clear hb); obtain ⟨_, _, _, _, _, _⟩ := b3 BK214))
  refine bodyPost_ret (results_ct rfl _ _ gb214 36 #[.int .i64 t221, .int .i64 t222, .int .i64 t223] (0, 0) _ rfl (bq BK214.out) Tryd.underlying36 rfl (by kernel_rfl)) rfl ?_
  exact ez
 ·rw [if_neg c6] at H
  have c6b0 := beq_eq_false_iff_ne.mpr c6
  have c6b1 := bne_iff_ne.mpr c6
  exact absurd H (by simp)
end
section
def L_open.f (l0 : List Int) : Option (List Int × Int) := (L_CheckSpectrum.f l0).bind fun bt224 => (some (l0, bt224.2))
theorem L_open.calls (P0_ : Nat → Prop) (A0 : Option Addr) (c0 : Nat) (l0 : List Int) (r1 : List Int) (r2 : Int) (w : World) (hs0 : Kd.V (Kd.int .i64) 3 w w.heap.size (fun k_ => P0_ k_) (.slice A0 l0.length c0) l0) (h : L_open.f l0 = some (r1, r2)) :
  Calls Tryd.prog 102 #[.slice A0 l0.length c0] w fun e w' => ∃ v0_ : Value, e = .returned (.tuple #[v0_, .int .i64 r2]) ∧ Kd.V (Kd.int .i64) 3 w' w.heap.size (fun k_ => (P0_ k_ ∨ w.heap.size ≤ k_)) v0_ r1 ∧ Below w.heap.size w w' := by
 have HO0 := m0 (show Kd.V (Kd.int .i64) 3 w w.heap.size (fun k_ => (P0_ k_ ∨ w.heap.size ≤ k_)) (.slice A0 l0.length c0) l0 from Kd.V_mono hs0 (fun k_ hk => .inl hk))
 have HB := m0 (Below.refl w.heap.size w)
 have H : ((L_CheckSpectrum.f l0).bind fun bt224 => (some (l0, bt224.2))) = some (r1, r2) := h
 clear h
 replace H := ob H
 obtain ⟨⟨t224, t225⟩, A2, H⟩ := H
 (try dsimp only at H)
 replace A2 := m0 A2
 simp only [Option.some.injEq, Prod.mk.injEq] at H
 obtain ⟨rfl, rfl⟩ := H
 go_enter Tryd.func102, Tryd.ntmps102
 go_wp2_with (first | ((with_reducible refine gate_callee (f := 75) rfl ?_); refine gl (some 8) Tryd.func75 #[.slice A0 l0.length c0] ?_; (with_reducible refine (L_CheckSpectrum.calls _ _ l0 t224 t225 _ ?side1 ?side2 A2.out).mono ?_); (case side1 => exact bc (Kd.V_reads' HO0.out).2.2); (case side2 => exact (Kd.V_reads' HO0.out).2.1); rintro e w3 ⟨rfl, hb⟩; refine ⟨_, rfl, ?_⟩; replace HO0 := vb HO0 hb; replace HB := sb HB hb; (try clear hb)))
 go_ret2
 exact ⟨_, by first | rfl | (simp [errW_none, errW_some] <;> rfl) | (simp [*, errW_none, errW_some] <;> rfl), by (with_reducible repeat (first | apply Kd.V_alloc | apply Kd.V_drewN | apply Kd.V_drew)); exact HO0.out, by repeat (first | (with_reducible first | exact HB.out | apply below_alloc | apply pw_below_drewN | apply below_drew1) | exact HB.out)⟩
end
section
def L_Estimated.f (k : Nat) (l0 : List Int) (a1 : Int) : Option (Int × Int × Int) := (L_open.f l0).bind fun bt227 => ((L_kindErr.f a1).bind fun t231 => ((L_first.f k (([bt227.2, t231] : List Int))).bind fun t235 => (if t235 = 0 then ((Sp_estimate.f k bt227.1 a1).bind fun bt236 => (some (bt236.1, bt236.2, 0))) else (none))))
theorem L_Estimated.mono : ∀ a0 a1 k, LeO (L_Estimated.f k a0 a1) (L_Estimated.f (k + 1) a0 a1) := by
 intro a0 a1 k
 unfold L_Estimated.f
 repeat' with_reducible first
  | exact L_first.mono ..
  | exact Sp_estimate.mono ..
  | exact LeO.refl ..
  | exact LeO.none ..
  | refine LeO.ite ?_ ?_
  | refine LeO.bind ?_ (fun _ => ?_)
theorem L_Estimated.calls (k : Nat) (A0 : Option Addr) (c0 : Nat) (l0 : List Int) (a1 : Int) (r1 : Int) (r2 : Int) (r3 : Int) (w : World) (hr0 : Kd.C (Kd.int .i64) w A0 l0.length l0) (hc0 : l0.length ≤ c0) (hG : EstG w) (h : L_Estimated.f k l0 a1 = some (r1, r2, r3)) :
  Calls Tryd.prog 34 #[.slice A0 l0.length c0, .int .i64 a1] w fun e w' => e = .returned (.tuple #[.agg #[.int .i64 r1, .int .i64 r2], .int .i64 r3]) ∧ Below w.heap.size w w' := by
 have hu26 := Tryd.underlying26
 have HG := m0 hG
 clear hG
 have HR0 := m0 hr0
 have HC0 := m0 hc0
 clear hr0 hc0
 have HB := m0 (Below.refl w.heap.size w)
 have H : ((L_open.f l0).bind fun bt227 => ((L_kindErr.f a1).bind fun t231 => ((L_first.f k (([bt227.2, t231] : List Int))).bind fun t235 => (if t235 = 0 then ((Sp_estimate.f k bt227.1 a1).bind fun bt236 => (some (bt236.1, bt236.2, 0))) else (none))))) = some (r1, r2, r3) := h
 clear h
 replace H := ob H
 obtain ⟨⟨t227, t230⟩, A3, H⟩ := H
 (try dsimp only at H)
 replace A3 := m0 A3
 replace H := ob H
 obtain ⟨t231, A4, H⟩ := H
 (try dsimp only at H)
 replace A4 := m0 A4
 obtain ⟨y232, hy232⟩ : ∃ y_ : List Int, y_ = (([t230, t231] : List Int)) := ⟨_, rfl⟩
 replace H : ((L_first.f k y232).bind fun t235 => (if t235 = 0 then ((Sp_estimate.f k t227 a1).bind fun bt236 => (some (bt236.1, bt236.2, 0))) else (none))) = some (r1, r2, r3) := by first | (rw [hy232]; with_reducible exact H) | (have H2_ := (Option.bind_some _ _).symm.trans H; rw [hy232]; with_reducible exact H2_) | (have H2_ := (Option.bind_some _ _).symm.trans H; with_reducible exact H2_) | with_reducible exact H | (rw [hy232]; exact H) | exact H
 have Ny232 := m0 hy232
 clear hy232
 replace H := ob H
 obtain ⟨t235, A5, H⟩ := H
 (try dsimp only at H)
 replace A5 := m0 A5
 by_cases c6 : t235 = 0
 ·rw [if_pos c6] at H
  have c6b0 := beq_iff_eq.mpr c6
  have c6b1 := bne_eq_false_iff_eq.mpr c6
  clear c6
  replace H := ob H
  obtain ⟨⟨t236, t237⟩, A7, H⟩ := H
  (try dsimp only at H)
  replace A7 := m0 A7
  simp only [Option.some.injEq, Prod.mk.injEq] at H
  obtain ⟨rfl, rfl, rfl⟩ := H
  go_enter Tryd.func34, Tryd.ntmps34
  go_wp2_with (first | ((with_reducible refine gate_dst (N := 4) rfl ?_); refine be 4 26 #[.int .i64 0, .int .i64 0] ?_; intro gb226 hg w8 hbox hb; have BK226 := m0 hbox; have GW226 := gw w hg; have GE226 := gw w hg; replace HB := sb HB hb; clear hb hbox hg) | ((with_reducible refine gate_callee (f := 102) rfl ?_); refine gl (some 10) Tryd.func102 #[.slice A0 l0.length c0] ?_; (with_reducible refine (L_open.calls (fun k_ => k_ < w.heap.size) _ _ l0 t227 t230 _ ?side1 A3.out).mono ?_); (case side1 => exact Kd.V_mk HC0.out (Kd.F_below (Kd.C_F (Kd.heap_int .i64) HR0.out) bz)); rintro e w9 ⟨v228, rfl, ho0, hb⟩; refine ⟨_, rfl, ?_⟩; have HO229 := m0 (Kd.V_lower (Kd.V_mono (ok' := fun k_ => k_ ≠ gb226) ho0 (fun k_ hk_ => Or.elim hk_ (fun hs_ => fun e_ => Nat.not_le.2 hs_ (by rw [e_]; exact GW226.out)) (fun hn_ => (Kd.freshB (g := gb226) (o := .cells #[.int .i64 0, .int .i64 0] 26 (0, 0)) (bk BK226.out) k_ hn_)))) (below_size bz)); replace BK226 := bb BK226 hb; replace HB := sb HB hb; (try clear hb); (try clear ho0)) | ((with_reducible refine gate_callee (f := 92) rfl ?_); refine gl (some 15) Tryd.func92 #[.int .i64 a1] ?_; (with_reducible refine (L_kindErr.calls a1 t231 _ A4.out).mono ?_); rintro e w' ⟨rfl, ⟨nd, rfl⟩⟩; refine ⟨_, rfl, ?_⟩; (try (rw [drewN_self w9]; generalize hq_ : World.drewN w9 _ = w9; have n0_ : Aside0 (Kd.V (Kd.int .i64) 3 w9 w.heap.size (fun k_ => k_ ≠ gb226) v228 t227) := ⟨by rw [← hq_]; exact (by (with_reducible repeat (first | apply Kd.V_alloc | apply Kd.V_drewN | apply Kd.V_drew)); exact HO229.out)⟩; have n1_ := gd BK226 hq_; have n2_ := gs HB hq_; clear HO229 BK226 HB hq_; have HO229 := n0_; have BK226 := n1_; have HB := n2_; clear n0_ n1_ n2_))) | ((with_reducible refine gate_dst (N := 16) rfl ?_); refine Kd.R_lit (Kd.int .i64) _ 31 ?hg (N := 16) ?hd (xs := ([t230, t231] : List Int)) (inner := [.int .i64 t230, .int .i64 t231]) (ok := fun _ => True) (okp := fun _ => True) ?hr ?hp (fun _ hk => hk) trivial (Below.refl _ _) (Nat.le_refl _) (by simp) ?_; (case hd => rfl); (case hg => rfl); (case hr => first | (go_simp; done) | (go_simp; rfl)); (case hp => exact (Reps.one (show Kd.M (Kd.int .i64) _ _ _ t230 [.int .i64 t230] from rfl) (Reps.one (show Kd.M (Kd.int .i64) _ _ _ t231 [.int .i64 t231] from rfl) (Reps.none _ _)))); intro v233 w10 ho11 hb hg_ hnew_; clear hg_ hnew_; (first | rw [← Ny232.out] at ho11 | (simp only [Int.reduceToNat] at ho11; rw [← Ny232.out] at ho11)); replace HO229 := m0 (Kd.V_elder' (by (with_reducible repeat (first | apply Kd.V_alloc | apply Kd.V_drewN | apply Kd.V_drew)); exact HO229.out) (Kd.R_base ho11) hb); have HO234 := m0 (Kd.R_lower ho11 (below_size bz)); replace BK226 := bb BK226 hb; replace HB := sb HB hb; clear hb ho11; obtain ⟨Ao12, co12, eo12⟩ := Kd.R_slice HO234.out; subst eo12) | ((with_reducible refine gate_callee (f := 91) rfl ?_); refine gl (some 17) Tryd.func91 #[.slice Ao12 y232.length co12] ?_; (with_reducible refine (L_first.calls k _ _ y232 t235 _ ?side1 ?side2 A5.out).mono ?_); (case side1 => exact bc (Kd.R_reads' HO234.out).2.2); (case side2 => exact (Kd.R_reads' HO234.out).2.1); rintro e w' ⟨rfl, ⟨nd, rfl⟩⟩; refine ⟨_, rfl, ?_⟩; (try (rw [drewN_self w10]; generalize hq_ : World.drewN w10 _ = w10; have n0_ : Aside0 (Kd.V (Kd.int .i64) 3 w10 w.heap.size (fun k_ => some k_ ≠ (.slice Ao12 y232.length co12 : Value).ownBlock ∧ k_ ≠ gb226) v228 t227) := ⟨by rw [← hq_]; exact (by (with_reducible repeat (first | apply Kd.V_alloc | apply Kd.V_drewN | apply Kd.V_drew)); exact Kd.V_mono HO229.out (fun _ hk => ⟨hk.2, hk.1⟩))⟩; have n1_ := gr HO234 hq_; have n2_ := gd BK226 hq_; have n3_ := gs HB hq_; clear HO229 HO234 BK226 HB hq_; have HO229 := n0_; have HO234 := n1_; have BK226 := n2_; have HB := n3_; clear n0_ n1_ n2_ n3_)); obtain ⟨Ao13, co13, eo13⟩ := Kd.V_slice HO229.out; subst eo13) | ((with_reducible refine gate_callee (f := 95) rfl ?_); refine gl (some 24) Tryd.func95 #[.slice Ao13 t227.length co13, .int .i64 a1] ?_; (with_reducible refine (Sp_estimate.calls k _ _ t227 a1 t236 t237 _ ?side1 ?side2 ?side3 A7.out).mono ?_); (case side1 => exact bc (Kd.V_reads' HO229.out).2.2); (case side2 => exact (Kd.V_reads' HO229.out).2.1); (case side3 => exact EstG.below HG.out bz); rintro e w14 ⟨rfl, hb⟩; refine ⟨_, rfl, ?_⟩; replace HO229 := vb HO229 hb; replace HO234 := rb HO234 hb; replace BK226 := bb BK226 hb; replace HB := sb HB hb; (try clear hb); obtain ⟨_, _, _, _⟩ := b2 BK226))
  refine bodyPost_ret (results_ct rfl _ _ gb226 26 #[.int .i64 t236, .int .i64 t237] (0, 0) _ rfl (bq BK226.out) Tryd.underlying26 rfl (by kernel_rfl)) rfl ?_
  exact ez
 ·rw [if_neg c6] at H
  have c6b0 := beq_eq_false_iff_ne.mpr c6
  have c6b1 := bne_iff_ne.mpr c6
  exact absurd H (by simp)
end
section
def Bs_Whole.f (a0 : Int) : Option (Int × Int) := some (a0, 1)
theorem Bs_Whole.calls (a0 : Int) (r1 : Int) (r2 : Int) (w : World) (h : Bs_Whole.f a0 = some (r1, r2)) :
  Calls Tryd.prog 38 #[.int .i64 a0] w fun e w' => e = .returned (.agg #[.int .i64 r1, .int .i64 r2]) ∧ Below w.heap.size w w' := by
 have hu26 := Tryd.underlying26
 have HB := m0 (Below.refl w.heap.size w)
 have H : (some (a0, 1)) = some (r1, r2) := h
 clear h
 simp only [Option.some.injEq, Prod.mk.injEq] at H
 obtain ⟨rfl, rfl⟩ := H
 go_enter Tryd.func38, Tryd.ntmps38
 go_wp2_with (first | ((with_reducible refine gate_dst (N := 2) rfl ?_); refine be 2 26 #[.int .i64 0, .int .i64 0] ?_; intro gb238 hg w2 hbox hb; have BK238 := m0 hbox; have GE238 := gw w hg; replace HB := sb HB hb; clear hb hbox hg; obtain ⟨_, _, _, _⟩ := b2 BK238))
 refine bodyPost_ret (results_cell_row rfl _ _ gb238 26 #[.int .i64 a0, .int .i64 1] (0, 0) _ rfl (bq BK238.out) Tryd.underlying26 rfl (by kernel_rfl)) rfl ?_
 exact ez
end
section
def Bs_Size.f (a0 : Int) : Option (Int) := some (mx a0 (wrap64 (-a0)))
theorem Bs_Size.calls (a0 : Int) (r : Int) (w : World) (h : Bs_Size.f a0 = some r) :
  Calls Tryd.prog 40 #[.int .i64 a0] w fun e w' => e = .returned (.int .i64 r) ∧ Below w.heap.size w w' := by
 have HB := m0 (Below.refl w.heap.size w)
 have H : (some (mx a0 (wrap64 (-a0)))) = some r := h
 clear h
 obtain ⟨ji2, hji2⟩ : ∃ j_ : Int, (mx a0 (wrap64 (-a0))) = j_ := ⟨_, rfl⟩
 replace H : (some ji2) = some r := by first | (rw [hji2] at H; exact H) | (simp only [hji2] at H ⊢; exact H)
 have hji2_ : (if a0 < (wrap64 (-a0)) then (wrap64 (-a0)) else a0) = ji2 := hji2
 obtain rfl := Option.some.inj H
 go_enter Tryd.func40, Tryd.ntmps40
 go_wp2
 go_ret
 exact ⟨by first | rfl | (simp [errW_none, errW_some] <;> rfl) | (simp only [← hji2]; first | rfl | (simp [errW_none, errW_some] <;> rfl)) | (simp [*, errW_none, errW_some] <;> rfl), by repeat (first | (with_reducible first | exact HB.out | apply below_alloc | apply pw_below_drewN | apply below_drew1) | exact HB.out)⟩
end
section
def Bs_Gcd.l0 : Nat → Int → Int → Option (Int)
 | 0, _, _ => none
 | k + 1, x0, x1 => if x1 = 0 then ((Bs_Size.f x0).bind fun t239 => (some t239)) else (Bs_Gcd.l0 k x1 (Int.tmod x0 x1))
def Bs_Gcd.f (k : Nat) (a0 : Int) (a1 : Int) : Option (Int) := Bs_Gcd.l0 k a0 a1
theorem Bs_Gcd.mono_l : ∀ k, (∀ y0 y1, LeO (Bs_Gcd.l0 k y0 y1) (Bs_Gcd.l0 (k + 1) y0 y1))
 | 0 => fun _ _ r h => by simp [Bs_Gcd.l0] at h
 | k + 1 => by
  have ih0 := Bs_Gcd.mono_l k
  ·intro y0 y1
   unfold Bs_Gcd.l0
   repeat' with_reducible first
    | exact ih0 ..
    | exact LeO.refl ..
    | exact LeO.none ..
    | refine LeO.ite ?_ ?_
    | refine LeO.bind ?_ (fun _ => ?_)
theorem Bs_Gcd.mono : ∀ a0 a1 k, LeO (Bs_Gcd.f k a0 a1) (Bs_Gcd.f (k + 1) a0 a1) := by
 intro a0 a1 k
 have ih0 := Bs_Gcd.mono_l k
 unfold Bs_Gcd.f
 repeat' with_reducible first
  | exact ih0 ..
  | exact LeO.refl ..
  | exact LeO.none ..
  | refine LeO.ite ?_ ?_
  | refine LeO.bind ?_ (fun _ => ?_)
theorem Bs_Gcd.calls (k : Nat) (a0 : Int) (a1 : Int) (r : Int) (w : World) (h : Bs_Gcd.f k a0 a1 = some r) :
  Calls Tryd.prog 104 #[.int .i64 a0, .int .i64 a1] w fun e w' => e = .returned (.int .i64 r) ∧ Below w.heap.size w w' := by
 have HB := m0 (Below.refl w.heap.size w)
 have H : (Bs_Gcd.l0 k a0 a1) = some r := h
 clear h
 have H' := m0 H
 clear H
 go_enter Tryd.func104, Tryd.ntmps104
 go_wp2
 repeat (go_quiet (fail); try go_wp2)
 go_loopg [0, 1] k (fun kq v0 v1 w' => ∃ (x0_1 : Int) (x1_1 : Int), v0 = .int .i64 x0_1 ∧ v1 = .int .i64 x1_1 ∧ Aside0 (Bs_Gcd.l0 kq x0_1 x1_1 = some r) ∧ Aside0 (kq ≤ k) ∧ Aside0 (Below w.heap.size w w'))
 case atStart => exact ⟨(a0), (a1), (by first | rfl | (simp; done) | (simp [*]; done)), (by first | rfl | (simp; done) | (simp [*]; done)), H', ⟨Nat.le_refl _⟩, ⟨bz⟩⟩
 case round =>
  clear H'
  obtain ⟨x0_1, x1_1, rfl, rfl, HA, HK1, HB⟩ := hrel
  cases gk with
  | zero => exact absurd HA.out (by simp [Bs_Gcd.l0])
  | succ k1 =>
   have H := HA.out
   clear HA
   simp only [Bs_Gcd.l0] at H
   by_cases c3 : x1_1 = 0
   ·rw [if_pos c3] at H
    have c3b0 := beq_iff_eq.mpr c3
    have c3b1 := bne_eq_false_iff_eq.mpr c3
    clear c3
    replace H := ob H
    obtain ⟨t239, A4, H⟩ := H
    (try dsimp only at H)
    replace A4 := m0 A4
    obtain rfl := Option.some.inj H
    go_wp2_with (first | (go_at_call 40; (with_reducible refine (Bs_Size.calls x0_1 t239 _ A4.out).mono ?_); rintro e w5 ⟨rfl, hb⟩; replace HB := sb HB hb; (try clear hb)))
    repeat (go_quiet (first | (go_at_call 40; (with_reducible refine (Bs_Size.calls x0_1 t239 _ A4.out).mono ?_); rintro e w5 ⟨rfl, hb⟩; replace HB := sb HB hb; (try clear hb))); try go_wp2_with (first | (go_at_call 40; (with_reducible refine (Bs_Size.calls x0_1 t239 _ A4.out).mono ?_); rintro e w5 ⟨rfl, hb⟩; replace HB := sb HB hb; (try clear hb))))
    go_ret
    exact ez
   ·rw [if_neg c3] at H
    have c3b0 := beq_eq_false_iff_ne.mpr c3
    have c3b1 := bne_iff_ne.mpr c3
    have H' := m0 H
    clear H
    go_wp2
    repeat (go_quiet (fail); try go_wp2)
    go_roundg k1
    case measure => have := HK1.out; omega
    case rel => exact ⟨(x1_1), (Int.tmod x0_1 x1_1), (by first | rfl | (simp; done) | (simp [*]; done)), (by first | rfl | (simp; done) | (simp [*]; done)), H', ⟨by have := HK1.out; omega⟩, ⟨bz⟩⟩
end
section
def Bs_Lowest.f (k : Nat) (a0 : Int) (a1 : Int) : Option (Int × Int) := (Bs_Gcd.f k a0 a1).bind fun t241 => (if a1 < 0 then (if (wrap64 (-t241)) = 0 then (none) else (some (wrap64 (Int.tdiv a0 (wrap64 (-t241))), wrap64 (Int.tdiv a1 (wrap64 (-t241)))))) else (if t241 = 0 then (none) else (some (wrap64 (Int.tdiv a0 t241), wrap64 (Int.tdiv a1 t241)))))
theorem Bs_Lowest.mono : ∀ a0 a1 k, LeO (Bs_Lowest.f k a0 a1) (Bs_Lowest.f (k + 1) a0 a1) := by
 intro a0 a1 k
 unfold Bs_Lowest.f
 repeat' with_reducible first
  | exact Bs_Gcd.mono ..
  | exact LeO.refl ..
  | exact LeO.none ..
  | refine LeO.ite ?_ ?_
  | refine LeO.bind ?_ (fun _ => ?_)
def Bs_Lowest.T4 : Bool × List (List Nat × List Nat) := (true, [([], []), ([], []), ([0, 1], [0, 1]), ([], []), ([], []), ([3, 4], [3, 4]), ([2, 5], [2, 5]), ([6, 0, 1, 2, 3, 4, 5, 6], [6])])
def Bs_Lowest.B4 : List Nat := [0, 0, 3, 0, 0, 24, 63, 127]
theorem Bs_Lowest.tab4 : rtab .any (opsOf Tryd.f41 4) = Bs_Lowest.T4 := by kernel_rfl
theorem Bs_Lowest.bits4 : waitsOk Bs_Lowest.T4.2 Bs_Lowest.B4 = true := by kernel_rfl
theorem Bs_Lowest.calls (k : Nat) (a0 : Int) (a1 : Int) (r1 : Int) (r2 : Int) (w : World) (h : Bs_Lowest.f k a0 a1 = some (r1, r2)) :
  Calls Tryd.prog 41 #[.int .i64 a0, .int .i64 a1] w fun e w' => e = .returned (.agg #[.int .i64 r1, .int .i64 r2]) ∧ Below w.heap.size w w' := by
 have hu26 := Tryd.underlying26
 have HB := m0 (Below.refl w.heap.size w)
 have H : ((Bs_Gcd.f k a0 a1).bind fun t241 => (if a1 < 0 then (if (wrap64 (-t241)) = 0 then (none) else (some (wrap64 (Int.tdiv a0 (wrap64 (-t241))), wrap64 (Int.tdiv a1 (wrap64 (-t241)))))) else (if t241 = 0 then (none) else (some (wrap64 (Int.tdiv a0 t241), wrap64 (Int.tdiv a1 t241)))))) = some (r1, r2) := h
 clear h
 replace H := ob H
 obtain ⟨t241, A3, H⟩ := H
 (try dsimp only at H)
 replace A3 := m0 A3
 by_cases c4 : a1 < 0
 ·rw [if_pos c4] at H
  have c4b0 := decide_eq_true c4
  clear c4
  by_cases c5 : (wrap64 (-t241)) = 0
  ·rw [if_pos c5] at H
   exact absurd H (by simp)
  ·rw [if_neg c5] at H
   have c5b0 := beq_eq_false_iff_ne.mpr c5
   have c5b1 := bne_iff_ne.mpr c5
   simp only [Option.some.injEq, Prod.mk.injEq] at H
   obtain ⟨rfl, rfl⟩ := H
   go_enter Tryd.func41, Tryd.ntmps41
   try go_wp2_with (first | ((with_reducible refine gate_dst (N := 4) rfl ?_); refine be 4 26 #[.int .i64 0, .int .i64 0] ?_; intro gb240 hg w6 hbox hb; have BK240 := m0 hbox; have GE240 := gw w hg; replace HB := sb HB hb; clear hb hbox hg) | ((with_reducible refine gate_callee (f := 104) rfl ?_); refine gl (some 8) Tryd.func104 #[.int .i64 a0, .int .i64 a1] ?_; (with_reducible refine (Bs_Gcd.calls k a0 a1 t241 _ A3.out).mono ?_); rintro e w7 ⟨rfl, hb⟩; refine ⟨_, rfl, ?_⟩; replace BK240 := bb BK240 hb; replace HB := sb HB hb; (try clear hb)))
   replace BK240 := bd BK240; replace HB := sd HB
   refine start_ (n := 8) (S := fun w' => True) (ds := []) #[false, false, false, false, false, false, false, false] (by kernel_rfl) rfl rfl trivial (fun hH => ?_); refine with_tabW Bs_Lowest.tab4 Bs_Lowest.bits4 (fun HT_ HW_ => ?_)
   generalize w7.drew = w8 at BK240 HB hH ⊢
   refine pZ 0 (some 13) #[true, false, false, false, false, false, false, false] HT_ ?_
   refine pZ 1 (some 14) #[true, true, false, false, false, false, false, false] HT_ ?_
   refine pZ 2 (some 15) #[true, true, true, false, false, false, false, false] HT_ ?_
   refine pZ 3 (some 16) #[true, true, true, true, false, false, false, false] HT_ ?_
   refine pZ 4 (some 17) #[true, true, true, true, true, false, false, false] HT_ ?_
   refine pZ 5 (some 18) #[true, true, true, true, true, true, false, false] HT_ ?_
   refine pZ 6 (some 19) #[true, true, true, true, true, true, true, false] HT_ ?_
   refine oneZ 7 (none) #[true, true, true, true, true, true, true, true] (one_of HT_.out (by kernel_rfl)) fun K hK => ?_
   have hs9 : w8.cell? ⟨gb240, 0, none⟩ = some (.int .i64 0) := (blk_cell BK240.out 0).trans rfl
   have hfs9 := blk_frozen BK240.out 0
   have hs10 : w8.cell? ⟨gb240, 1, none⟩ = some (.int .i64 0) := (blk_cell BK240.out 1).trans rfl
   have hfs10 := blk_frozen BK240.out 1
   refine skip_ (w1 := ?_) (by rfl) rfl ?_ ?_
   rotate_left
   ·go_simp
    rfl
   refine hK.out _ _ trivial (fun hH => ?_)
   clear hK K
   refine done_ (done_of HT_.out (by kernel_rfl)) ?_
   try go_wp2
   refine bodyPost_ret (results_cell_row rfl _ _ gb240 26 #[.int .i64 (wrap64 (Int.tdiv a0 (wrap64 (-t241)))), .int .i64 (wrap64 (Int.tdiv a1 (wrap64 (-t241))))] (0, 0) _ rfl (bq BK240.out) Tryd.underlying26 rfl (by kernel_rfl)) rfl ?_
   exact ez
 ·rw [if_neg c4] at H
  have c4b0 := decide_eq_false c4
  clear c4
  by_cases c11 : t241 = 0
  ·rw [if_pos c11] at H
   exact absurd H (by simp)
  ·rw [if_neg c11] at H
   have c11b0 := beq_eq_false_iff_ne.mpr c11
   have c11b1 := bne_iff_ne.mpr c11
   simp only [Option.some.injEq, Prod.mk.injEq] at H
   obtain ⟨rfl, rfl⟩ := H
   go_enter Tryd.func41, Tryd.ntmps41
   try go_wp2_with (first | ((with_reducible refine gate_dst (N := 4) rfl ?_); refine be 4 26 #[.int .i64 0, .int .i64 0] ?_; intro gb240 hg w12 hbox hb; have BK240 := m0 hbox; have GE240 := gw w hg; replace HB := sb HB hb; clear hb hbox hg) | ((with_reducible refine gate_callee (f := 104) rfl ?_); refine gl (some 8) Tryd.func104 #[.int .i64 a0, .int .i64 a1] ?_; (with_reducible refine (Bs_Gcd.calls k a0 a1 t241 _ A3.out).mono ?_); rintro e w13 ⟨rfl, hb⟩; refine ⟨_, rfl, ?_⟩; replace BK240 := bb BK240 hb; replace HB := sb HB hb; (try clear hb)))
   replace BK240 := bd BK240; replace HB := sd HB
   refine start_ (n := 8) (S := fun w' => True) (ds := []) #[false, false, false, false, false, false, false, false] (by kernel_rfl) rfl rfl trivial (fun hH => ?_); refine with_tabW Bs_Lowest.tab4 Bs_Lowest.bits4 (fun HT_ HW_ => ?_)
   generalize w13.drew = w14 at BK240 HB hH ⊢
   refine pZ 0 (some 13) #[true, false, false, false, false, false, false, false] HT_ ?_
   refine pZ 1 (some 14) #[true, true, false, false, false, false, false, false] HT_ ?_
   refine pZ 2 (some 15) #[true, true, true, false, false, false, false, false] HT_ ?_
   refine pZ 3 (some 16) #[true, true, true, true, false, false, false, false] HT_ ?_
   refine pZ 4 (some 17) #[true, true, true, true, true, false, false, false] HT_ ?_
   refine pZ 5 (some 18) #[true, true, true, true, true, true, false, false] HT_ ?_
   refine pZ 6 (some 19) #[true, true, true, true, true, true, true, false] HT_ ?_
   refine oneZ 7 (none) #[true, true, true, true, true, true, true, true] (one_of HT_.out (by kernel_rfl)) fun K hK => ?_
   have hs15 : w14.cell? ⟨gb240, 0, none⟩ = some (.int .i64 0) := (blk_cell BK240.out 0).trans rfl
   have hfs15 := blk_frozen BK240.out 0
   have hs16 : w14.cell? ⟨gb240, 1, none⟩ = some (.int .i64 0) := (blk_cell BK240.out 1).trans rfl
   have hfs16 := blk_frozen BK240.out 1
   refine skip_ (w1 := ?_) (by rfl) rfl ?_ ?_
   rotate_left
   ·go_simp
    rfl
   refine hK.out _ _ trivial (fun hH => ?_)
   clear hK K
   refine done_ (done_of HT_.out (by kernel_rfl)) ?_
   try go_wp2
   refine bodyPost_ret (results_cell_row rfl _ _ gb240 26 #[.int .i64 (wrap64 (Int.tdiv a0 t241)), .int .i64 (wrap64 (Int.tdiv a1 t241))] (0, 0) _ rfl (bq BK240.out) Tryd.underlying26 rfl (by kernel_rfl)) rfl ?_
   exact ez
end
section
def L_thresholdErr.f (a0 : Int) : Option (Int) := (L_within.f a0 0 11000).bind fun t242 => ((L_unless.f t242 2).bind fun t243 => (some t243))
theorem L_thresholdErr.calls (a0 : Int) (r : Int) (w : World) (h : L_thresholdErr.f a0 = some r) :
  Calls Tryd.prog 100 #[.int .i64 a0] w fun e w' => e = .returned (.int .i64 r) ∧ Drawn0 w w' := by
 have H : ((L_within.f a0 0 11000).bind fun t242 => ((L_unless.f t242 2).bind fun t243 => (some t243))) = some r := h
 clear h
 replace H := ob H
 obtain ⟨t242, A2, H⟩ := H
 (try dsimp only at H)
 replace A2 := m0 A2
 replace H := ob H
 obtain ⟨t243, A3, H⟩ := H
 (try dsimp only at H)
 replace A3 := m0 A3
 obtain rfl := Option.some.inj H
 go_enter Tryd.func100, Tryd.ntmps100
 go_wp2_with (first | ((with_reducible refine gate_callee (f := 105) rfl ?_); refine gl (some 4) Tryd.func105 #[.int .i64 a0, .int .i64 0, .int .i64 11000] ?_; (with_reducible refine (L_within.calls a0 0 11000 t242 _ A2.out).mono ?_); rintro e w' ⟨rfl, ⟨nd, rfl⟩⟩; refine ⟨_, rfl, ?_⟩) | ((with_reducible refine gate_callee (f := 93) rfl ?_); refine gl (some 5) Tryd.func93 #[.bool t242, .int .i64 2] ?_; (with_reducible refine (L_unless.calls t242 2 t243 _ A3.out).mono ?_); rintro e w' ⟨rfl, ⟨nd, rfl⟩⟩; refine ⟨_, rfl, ?_⟩))
 go_ret
 exact ⟨by first | rfl | (simp; done) | (simp [*]; done), by repeat (first | exact Drawn0.refl _ | apply Drawn0.step)⟩
end
section
theorem Sp_int_133.own (g : Nat) (lb : Array Value) (eg : ∀ args w, (callFunc g args).run Tryd.prog w = .ok (.enter g args) w) (p : Int → Bool) (A0 : Option Addr) (c0 : Nat) (l0 : List Int) (w : World) (hp : PredI g lb p w) (hr0 : Kd.C (Kd.int .i64) w A0 l0.length l0) :
  Calls Tryd.prog 133 #[.slice A0 l0.length c0, .func (.func g) #[] lb] w fun e w' => e = .returned (.int .i64 (idxF p l0)) ∧ Drawn0 w w' := by
 have HR0 := m0 hr0
 have HL := m0 (show (l0.length : Int) ≤ 9223372036854775807 from by have := hr0.2.1; omega)
 clear hr0
 have hpAt : ∀ (x : Int) (q : Nat), Calls Tryd.prog g (#[.int .i64 x] ++ lb) (w.drewN q) fun e w' => e = .returned (.bool (p x)) ∧ ∃ q', w' = (w.drewN q).drewN q' := fun x q => hp _ x (pw_below_drewN (Below.refl _ w) q)
 have HP := m0 hpAt
 clear hpAt hp
 go_enter Tryd.func133, Tryd.ntmps133
 go_wp2
 go_loopg [5, 8] l0.length (fun gg _ s8 wr => ∃ x : Int, s8 = .int .i64 x ∧ Aside0 (0 ≤ x ∧ x ≤ l0.length ∧ (l0.length : Int) - x ≤ gg ∧ ∀ j : Nat, (j : Int) < x → p (rd l0 j) = false) ∧ Drawn0 w wr)
 case atStart => exact ⟨0, rfl, ⟨by omega, by omega, by omega, fun j hj => by omega⟩, Drawn0.refl _⟩
 case round =>
  obtain ⟨x, rfl, HA, ⟨q, rfl⟩⟩ := hrel
  by_cases hlt : x < (l0.length : Int)
  ·obtain ⟨ad, e, hx⟩ := Kd.at_int HR0.out x HA.out.1 hlt
   cases e
   have c1 : decide (x < (l0.length : Int)) = true := decide_eq_true hlt
   have p1 := eq_true HA.out.1
   have q1 := eq_true hlt
   clear hlt
   have hcall := HP.out (rd l0 x)
   cases hq : p (rd l0 x) with
   | true =>
    rw [hq] at hcall
    have HQ := m0 hq
    have HC := m0 hcall
    clear hq hcall
    go_wp2_with (go_at_fn g; refine (HC.out _).mono ?_; rintro e w' ⟨rfl, q', rfl⟩)
    go_ret
    refine ⟨?_, ⟨⟨_, rfl⟩⟩⟩
    obtain ⟨h0, h1, h2, h3⟩ := HA.out
    have hc := of_decide_eq_true c1
    have hn : ((x.toNat : Nat) : Int) = x := by omega
    exact ret_int (by rw [idxF_hit p l0 x.toNat (by omega) (by rw [hn]; exact HQ.out) (fun j hj => h3 j (by omega)), hn])
   | false =>
    rw [hq] at hcall
    have HQ := m0 hq
    have HC := m0 hcall
    clear hq hcall
    go_wp2_with (go_at_fn g; refine (HC.out _).mono ?_; rintro e w' ⟨rfl, q', rfl⟩)
    obtain ⟨h0, h1, h2, h3⟩ := HA.out
    have hc := of_decide_eq_true c1
    have hL := HL.out
    go_roundg (l0.length - (x + 1)).toNat
    case measure => omega
    case rel =>
     refine ⟨wrap64 (x + 1), rfl, ⟨?_⟩, ⟨⟨_, rfl⟩⟩⟩
     have e1 : wrap64 (x + 1) = x + 1 := by unfold wrap64; omega
     rw [e1]
     refine ⟨by omega, by omega, by omega, fun j hj => ?_⟩
     by_cases e : (j : Int) = x
     ·rw [e]; exact HQ.out
     ·exact h3 j (by omega)
  ·have c1 : decide (x < (l0.length : Int)) = false := decide_eq_false hlt
   have HN := m0 hlt
   clear hlt
   go_wp2
   go_ret
   refine ⟨?_, ⟨⟨q, rfl⟩⟩⟩
   obtain ⟨h0, h1, h2, h3⟩ := HA.out
   have := HN.out
   exact ret_int (idxF_miss p l0 (fun j hj => h3 j (by omega))).symm
end
section
theorem Sp_int_107.own (g : Nat) (lb : Array Value) (eg : ∀ args w, (callFunc g args).run Tryd.prog w = .ok (.enter g args) w) (p : Int → Bool) (A0 : Option Addr) (c0 : Nat) (l0 : List Int) (w : World) (hp : PredI g lb p w) (hr0 : Kd.C (Kd.int .i64) w A0 l0.length l0) :
  Calls Tryd.prog 107 #[.slice A0 l0.length c0, .func (.func g) #[] lb] w fun e w' => e = .returned (.bool (l0.any p)) ∧ Drawn0 w w' := by
 have HC := m0 ((Sp_int_133.own g lb eg p A0 c0 l0 w hp hr0).mono fun e w' h => (⟨h.1, h.2.out⟩ : e = .returned (.int .i64 (idxF p l0)) ∧ ∃ q, w' = w.drewN q))
 rw [← idxF_any]
 clear hp hr0
 go_enter Tryd.func107, Tryd.ntmps107
 go_wp2_with (first | (go_at_call 133; refine HC.out.mono ?_; rintro e w' ⟨rfl, q, rfl⟩))
 go_ret
 exact ⟨rfl, ⟨⟨q, rfl⟩⟩⟩
theorem detections_pred {B : Nat} {n : Int} {w : World} (hc : w.cell? ⟨B, 0, none⟩ = some (.int .i64 n)) : PredI 108 #[.pointer (some ⟨B, 0, none⟩)] (fun m => decide (n ≤ m)) w := by
 intro W x hb
 have hc' := pw_cell_below hb hc
 clear hc hb
 go_enter Tryd.func108, Tryd.ntmps108
 go_wp2
 go_ret
 exact ⟨rfl, 0, rfl⟩
def L_ContainsFunc_ge.f (l0 : List Int) (n : Int) : Option Bool := some (l0.any fun m => decide (n ≤ m))
theorem L_ContainsFunc_ge.calls (A0 : Option Addr) (c0 : Nat) (l0 : List Int) (B : Nat) (n : Int) (r : Bool) (w : World) (hr0 : Kd.C (Kd.int .i64) w A0 l0.length l0) (hc0 : l0.length ≤ c0) (hb : w.heap[B]? = some (.cells #[.int .i64 n] 3 (0, 0))) (h : L_ContainsFunc_ge.f l0 n = some r) :
  Calls Tryd.prog 107 #[.slice A0 l0.length c0, .func (.func 108) #[] #[.pointer (some ⟨B, 0, none⟩)]] w fun e w' => e = .returned (.bool r) ∧ Drawn0 w w' := by
 obtain rfl := Option.some.inj h
 exact Sp_int_107.own _ _ (enters_of Tryd.func108 (by kernel_rfl) rfl) _ A0 c0 l0 w (detections_pred ((blk_cell hb 0).trans rfl)) hr0
end
end Go.Proofs.YtjnkphmcndaijaaDoor.A
