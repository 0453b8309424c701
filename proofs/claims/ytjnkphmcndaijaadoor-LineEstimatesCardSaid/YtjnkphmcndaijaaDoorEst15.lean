/- Walks of the program's functions (printed, made shorter), each with what it computes. -/
import Derived.Test.YtjnkphmcndaijaaDoorEst04
import Derived.Test.YtjnkphmcndaijaaDoorEst06
import Derived.Test.YtjnkphmcndaijaaDoorEst03
import Derived.Test.YtjnkphmcndaijaaDoorEst13
import Derived.Test.YtjnkphmcndaijaaDoorEst14
namespace Go.Proofs.YtjnkphmcndaijaaDoor.A
set_option maxHeartbeats 8000000
set_option maxRecDepth 100000
open Go.RowKit Go.Proofs.YtjnkphmcndaijaaDoorW.PrintWords Go.Proofs.YtjnkphmcndaijaaDoorW.PrintLast Go.Proofs.YtjnkphmcndaijaaDoorW.PrintMore
attribute [local go_sem] max2_int min2_int max_two min_two max_three min_three max_four min_four
set_option linter.unusedVariables false
set_option linter.unusedSimpArgs false
section
def line_CentroidIn.f (k : Nat) (l0 : List Int) (a1 : Int) : Option (Int × Int × Int) := (line_open.f l0).bind fun bt1099 => ((line_within.f a1 0 16).bind fun t1103 => ((line_unless.f t1103 2).bind fun t1104 => ((line_first.f k (([bt1099.2, t1104] : List Int))).bind fun t1108 => (if t1108 = 0 then ((Sp_peak.f k bt1099.1).bind fun t1109 => (if 0 ≤ t1109 then (if t1109 < (bt1099.1.length : Int) then (if (rd bt1099.1 t1109) = 0 then (some (0, 0, 11)) else ((Sp_centroid.f k bt1099.1 (mx 0 (wrap64 (t1109 - a1))) (mn (bt1099.1.length : Int) (wrap64 ((wrap64 (t1109 + a1)) + 1)))).bind fun bt1111 => (some (bt1111.1, bt1111.2, 0)))) else (none)) else (none))) else (some (0, 0, t1108))))))
theorem line_CentroidIn.mono : ∀ a0 a1 k, LeO (line_CentroidIn.f k a0 a1) (line_CentroidIn.f (k + 1) a0 a1) := by
 intro a0 a1 k
 unfold line_CentroidIn.f
 repeat' first
   | (with_reducible exact line_first.mono _ _)
   | (with_reducible exact Sp_centroid.mono _ _ _ _)
   | (with_reducible exact Sp_peak.mono _ _)
   | (with_reducible exact LeO.refl _)
   | (with_reducible exact LeO.none _)
   | (with_reducible refine LeO.ite ?_ ?_)
   | (with_reducible refine LeO.bind ?_ (fun _ => ?_))
   | exact line_first.mono _ _
   | exact Sp_centroid.mono _ _ _ _
   | exact Sp_peak.mono _ _
   | exact LeO.none _
   | refine LeO.ite ?_ ?_
   | refine LeO.bind ?_ (fun _ => ?_)
theorem line_CentroidIn.calls (k : Nat) (A0 : Option Addr) (c0 : Nat) (l0 : List Int) (a1 : Int) (r1 : Int) (r2 : Int) (r3 : Int) (w : World) (hr0 : Kd.C (Kd.int .i64) w A0 l0.length l0) (hc0 : l0.length ≤ c0) (h : line_CentroidIn.f k l0 a1 = some (r1, r2, r3)) :
  Calls Tryd.prog 59 #[.slice A0 l0.length c0, .int .i64 a1] w fun e w' => e = .returned (.tuple #[.agg #[.int .i64 r1, .int .i64 r2], .int .i64 r3]) ∧ Below w.heap.size w w' := by
 have hu26 := Tryd.underlying26
 have HR0 := m0 hr0
 have HC0 := m0 hc0
 clear hr0 hc0
 have HB := m0 (Below.refl w.heap.size w)
 have H : ((line_open.f l0).bind fun bt1099 => ((line_within.f a1 0 16).bind fun t1103 => ((line_unless.f t1103 2).bind fun t1104 => ((line_first.f k (([bt1099.2, t1104] : List Int))).bind fun t1108 => (if t1108 = 0 then ((Sp_peak.f k bt1099.1).bind fun t1109 => (if 0 ≤ t1109 then (if t1109 < (bt1099.1.length : Int) then (if (rd bt1099.1 t1109) = 0 then (some (0, 0, 11)) else ((Sp_centroid.f k bt1099.1 (mx 0 (wrap64 (t1109 - a1))) (mn (bt1099.1.length : Int) (wrap64 ((wrap64 (t1109 + a1)) + 1)))).bind fun bt1111 => (some (bt1111.1, bt1111.2, 0)))) else (none)) else (none))) else (some (0, 0, t1108))))))) = some (r1, r2, r3) := h
 clear h
 replace H := ob H
 obtain ⟨⟨t1099, t1102⟩, A30, H⟩ := H
 (try dsimp only at H)
 have A3 := m0 A30
 clear A30
 replace H := ob H
 obtain ⟨t1103, A40, H⟩ := H
 (try dsimp only at H)
 have A4 := m0 A40
 clear A40
 replace H := ob H
 obtain ⟨t1104, A50, H⟩ := H
 (try dsimp only at H)
 have A5 := m0 A50
 clear A50
 obtain ⟨y1105, hy1105⟩ : ∃ y_ : List Int, y_ = (([t1102, t1104] : List Int)) := ⟨_, rfl⟩
 replace H : ((line_first.f k y1105).bind fun t1108 => (if t1108 = 0 then ((Sp_peak.f k t1099).bind fun t1109 => (if 0 ≤ t1109 then (if t1109 < (t1099.length : Int) then (if (rd t1099 t1109) = 0 then (some (0, 0, 11)) else ((Sp_centroid.f k t1099 (mx 0 (wrap64 (t1109 - a1))) (mn (t1099.length : Int) (wrap64 ((wrap64 (t1109 + a1)) + 1)))).bind fun bt1111 => (some (bt1111.1, bt1111.2, 0)))) else (none)) else (none))) else (some (0, 0, t1108)))) = some (r1, r2, r3) := by first | (rw [hy1105]; with_reducible exact H) | (have H2_ := (Option.bind_some _ _).symm.trans H; rw [hy1105]; with_reducible exact H2_) | (have H2_ := (Option.bind_some _ _).symm.trans H; with_reducible exact H2_) | with_reducible exact H | (rw [hy1105]; exact H) | exact H
 have Ny1105 := m0 hy1105
 clear hy1105
 replace H := ob H
 obtain ⟨t1108, A60, H⟩ := H
 (try dsimp only at H)
 have A6 := m0 A60
 clear A60
 by_cases c7 : t1108 = 0
 ·rw [if_pos c7] at H
  have c7b0 := beq_iff_eq.mpr c7
  have c7b1 := bne_eq_false_iff_eq.mpr c7
  clear c7
  replace H := ob H
  obtain ⟨t1109, A80, H⟩ := H
  (try dsimp only at H)
  have A8 := m0 A80
  clear A80
  by_cases c9 : 0 ≤ t1109
  ·rw [if_pos c9] at H
   have c9b0 := decide_eq_true c9
   clear c9
   by_cases c10 : t1109 < (t1099.length : Int)
   ·rw [if_pos c10] at H
    have c10b0 := decide_eq_true c10
    clear c10
    by_cases c11 : (rd t1099 t1109) = 0
    ·rw [if_pos c11] at H
     have c11b0 := beq_iff_eq.mpr c11
     have c11b1 := bne_eq_false_iff_eq.mpr c11
     clear c11
     simp only [Option.some.injEq, Prod.mk.injEq] at H
     obtain ⟨rfl, rfl, rfl⟩ := H
     go_enter Tryd.func59, Tryd.ntmps59
     go_wp2_with (first | ((with_reducible refine gate_dst (N := 4) rfl ?_); refine be 4 26 #[.int .i64 0, .int .i64 0] ?_; intro gb1098 hg w12 hbox hb; have BK1098 := m0 hbox; have GW1098 := m0 (bg (n := w.heap.size) hg); have GE1098 := m0 (bg (n := w.heap.size) hg); replace HB := sb HB hb; clear hb hbox hg) | ((with_reducible refine gate_callee (f := 102) rfl ?_); refine gl (some 11) Tryd.func102 #[.slice A0 l0.length c0] ?_; (with_reducible refine (line_open.calls (fun k_ => k_ < w.heap.size) _ _ l0 t1099 t1102 _ ?side1 A3.out).mono ?_); (case side1 => exact Kd.V_mk HC0.out (Kd.F_below (Kd.C_F (Kd.heap_int .i64) HR0.out) bz)); rintro e w13 ⟨v1100, rfl, ho0, hb⟩; refine ⟨_, rfl, ?_⟩; have HO1101 := m0 (Kd.V_lower (Kd.V_mono (ok' := fun k_ => k_ ≠ gb1098) ho0 (fun k_ hk_ => Or.elim hk_ (fun hs_ => fun e_ => Nat.not_le.2 hs_ (by rw [e_]; exact GW1098.out)) (fun hn_ => (Kd.freshB (g := gb1098) (o := .cells #[.int .i64 0, .int .i64 0] 26 (0, 0)) (bk BK1098.out) k_ hn_)))) (below_size bz)); replace BK1098 := bb BK1098 hb; replace HB := sb HB hb; (try clear hb); (try clear ho0)) | ((with_reducible refine gate_callee (f := 105) rfl ?_); refine gl (some 16) Tryd.func105 #[.int .i64 a1, .int .i64 0, .int .i64 16] ?_; (with_reducible refine (line_within.calls a1 0 16 t1103 _ A4.out).mono ?_); rintro e w' ⟨rfl, ⟨nd, rfl⟩⟩; refine ⟨_, rfl, ?_⟩; (try (rw [drewN_self w13]; generalize hq_ : World.drewN w13 _ = w13; have n0_ : Aside0 (Kd.V (Kd.int .i64) 3 w13 w.heap.size (fun k_ => k_ ≠ gb1098) v1100 t1099) := ⟨by rw [← hq_]; exact (by (with_reducible repeat (first | apply Kd.V_alloc | apply Kd.V_drewN | apply Kd.V_drew)); exact HO1101.out)⟩; have n1_ := gd BK1098 hq_; have n2_ := gs HB hq_; clear HO1101 BK1098 HB hq_; have HO1101 := n0_; have BK1098 := n1_; have HB := n2_; clear n0_ n1_ n2_))) | ((with_reducible refine gate_callee (f := 93) rfl ?_); refine gl (some 17) Tryd.func93 #[.bool t1103, .int .i64 2] ?_; (with_reducible refine (line_unless.calls t1103 2 t1104 _ A5.out).mono ?_); rintro e w' ⟨rfl, ⟨nd, rfl⟩⟩; refine ⟨_, rfl, ?_⟩; (try (rw [drewN_self w13]; generalize hq_ : World.drewN w13 _ = w13; have n0_ : Aside0 (Kd.V (Kd.int .i64) 3 w13 w.heap.size (fun k_ => k_ ≠ gb1098) v1100 t1099) := ⟨by rw [← hq_]; exact (by (with_reducible repeat (first | apply Kd.V_alloc | apply Kd.V_drewN | apply Kd.V_drew)); exact HO1101.out)⟩; have n1_ := gd BK1098 hq_; have n2_ := gs HB hq_; clear HO1101 BK1098 HB hq_; have HO1101 := n0_; have BK1098 := n1_; have HB := n2_; clear n0_ n1_ n2_))) | ((with_reducible refine gate_dst (N := 18) rfl ?_); refine Kd.R_lit (Kd.int .i64) _ 31 ?hg (N := 18) ?hd (xs := ([t1102, t1104] : List Int)) (inner := [.int .i64 t1102, .int .i64 t1104]) (ok := fun _ => True) (okp := fun _ => True) ?hr ?hp (fun _ hk => hk) trivial (Below.refl _ _) (Nat.le_refl _) (by simp) ?_; (case hd => rfl); (case hg => rfl); (case hr => first | (go_simp; done) | (go_simp; rfl)); (case hp => exact (Reps.one (show Kd.M (Kd.int .i64) _ _ _ t1102 [.int .i64 t1102] from rfl) (Reps.one (show Kd.M (Kd.int .i64) _ _ _ t1104 [.int .i64 t1104] from rfl) (Reps.none _ _)))); intro v1106 w14 ho15 hb hg_ hnew_; clear hg_ hnew_; (first | rw [← Ny1105.out] at ho15 | (simp only [Int.reduceToNat] at ho15; rw [← Ny1105.out] at ho15)); replace HO1101 := m0 (Kd.V_elder' (by (with_reducible repeat (first | apply Kd.V_alloc | apply Kd.V_drewN | apply Kd.V_drew)); exact HO1101.out) (Kd.R_base ho15) hb); have HO1107 := m0 (Kd.R_lower ho15 (below_size bz)); replace BK1098 := bb BK1098 hb; replace HB := sb HB hb; clear hb ho15; obtain ⟨Ao16, co16, eo16⟩ := Kd.R_slice HO1107.out; subst eo16) | ((with_reducible refine gate_callee (f := 91) rfl ?_); refine gl (some 19) Tryd.func91 #[.slice Ao16 y1105.length co16] ?_; (with_reducible refine (line_first.calls k _ _ y1105 t1108 _ ?side1 ?side2 A6.out).mono ?_); (case side1 => exact bc (Kd.R_reads' HO1107.out).2.2); (case side2 => exact (Kd.R_reads' HO1107.out).2.1); rintro e w' ⟨rfl, ⟨nd, rfl⟩⟩; refine ⟨_, rfl, ?_⟩; (try (rw [drewN_self w14]; generalize hq_ : World.drewN w14 _ = w14; have n0_ : Aside0 (Kd.V (Kd.int .i64) 3 w14 w.heap.size (fun k_ => some k_ ≠ (.slice Ao16 y1105.length co16 : Value).ownBlock ∧ k_ ≠ gb1098) v1100 t1099) := ⟨by rw [← hq_]; exact (by (with_reducible repeat (first | apply Kd.V_alloc | apply Kd.V_drewN | apply Kd.V_drew)); exact Kd.V_mono HO1101.out (fun _ hk => ⟨hk.2, hk.1⟩))⟩; have n1_ := gr HO1107 hq_; have n2_ := gd BK1098 hq_; have n3_ := gs HB hq_; clear HO1101 HO1107 BK1098 HB hq_; have HO1101 := n0_; have HO1107 := n1_; have BK1098 := n2_; have HB := n3_; clear n0_ n1_ n2_ n3_)); obtain ⟨Ao17, co17, eo17⟩ := Kd.V_slice HO1101.out; subst eo17) | ((with_reducible refine gate_callee (f := 103) rfl ?_); refine gl (some 25) Tryd.func103 #[.slice Ao17 t1099.length co17] ?_; (with_reducible refine (Sp_peak.calls k _ _ t1099 t1109 _ ?side1 ?side2 A8.out).mono ?_); (case side1 => repeat (first | exact (Kd.V_reads' HO1101.out).2.2 | (with_reducible refine Kd.C_alloc ?_ _) | (with_reducible refine Kd.C_drewN ?_ _) | (with_reducible refine Kd.C_drew ?_))); (case side2 => exact (Kd.V_reads' HO1101.out).2.1); rintro e w18 ⟨rfl, hb⟩; refine ⟨_, rfl, ?_⟩; replace HO1101 := m0 (Kd.V_below (by (with_reducible repeat (first | apply Kd.V_alloc | apply Kd.V_drewN | apply Kd.V_drew)); exact HO1101.out) hb); replace HO1107 := rb HO1107 hb; replace BK1098 := bb BK1098 hb; replace HB := sb HB hb; (try clear hb); have p1110 : 0 ≤ (t1109 : Int) := of_decide_eq_true (by first | (with_reducible assumption) | assumption); have q1110 : t1109 < (t1099.length : Int) := of_decide_eq_true (by first | (with_reducible assumption) | assumption); obtain ⟨ad1110, e1110, hx1110_0⟩ := Kd.at_int (Kd.V_reads' HO1101.out).2.2 t1109 p1110 q1110; cases e1110; replace p1110 := eq_true p1110; replace q1110 := eq_true q1110; obtain ⟨_, _, _, _⟩ := b2 BK1098))
     refine bodyPost_ret (results_ct rfl _ _ gb1098 26 #[.int .i64 0, .int .i64 0] (0, 0) _ rfl (bq BK1098.out) Tryd.underlying26 rfl (by kernel_rfl)) rfl ?_
     exact ez
    ·rw [if_neg c11] at H
     have c11b0 := beq_eq_false_iff_ne.mpr c11
     have c11b1 := bne_iff_ne.mpr c11
     obtain ⟨ji20, hji20⟩ : ∃ j_ : Int, (mx 0 (wrap64 (t1109 - a1))) = j_ := ⟨_, rfl⟩
     replace H : ((Sp_centroid.f k t1099 (ji20) (mn (t1099.length : Int) (wrap64 ((wrap64 (t1109 + a1)) + 1)))).bind fun bt1111 => (some (bt1111.1, bt1111.2, 0))) = some (r1, r2, r3) := by first | (rw [hji20] at H; exact H) | (simp only [hji20] at H ⊢; exact H)
     (try rw [hji20] at A3)
     (try rw [hji20] at A4)
     (try rw [hji20] at A5)
     (try rw [hji20] at A6)
     (try rw [hji20] at A8)
     (try (have hji20l : 0 ≤ ji20 := by (rw [← hji20]; unfold mx; (repeat' split) <;> omega)))
     (try (have hji20m : 0 ≤ ji20 := by omega))
     have hji20_ : (if 0 < (wrap64 (t1109 - a1)) then (wrap64 (t1109 - a1)) else 0) = ji20 := hji20
     obtain ⟨ji21, hji21⟩ : ∃ j_ : Int, (mn (t1099.length : Int) (wrap64 ((wrap64 (t1109 + a1)) + 1))) = j_ := ⟨_, rfl⟩
     replace H : ((Sp_centroid.f k t1099 (ji20) (ji21)).bind fun bt1111 => (some (bt1111.1, bt1111.2, 0))) = some (r1, r2, r3) := by first | (rw [hji21] at H; exact H) | (simp only [hji21] at H ⊢; exact H)
     (try rw [hji21] at A3)
     (try rw [hji21] at A4)
     (try rw [hji21] at A5)
     (try rw [hji21] at A6)
     (try rw [hji21] at A8)
     have hji21_ : (if (wrap64 ((wrap64 (t1109 + a1)) + 1)) < (t1099.length : Int) then (wrap64 ((wrap64 (t1109 + a1)) + 1)) else (t1099.length : Int)) = ji21 := hji21
     replace H := ob H
     obtain ⟨⟨t1111, t1112⟩, A220, H⟩ := H
     (try dsimp only at H)
     have A22 := m0 A220
     clear A220
     simp only [Option.some.injEq, Prod.mk.injEq] at H
     obtain ⟨rfl, rfl, rfl⟩ := H
     go_enter Tryd.func59, Tryd.ntmps59
     go_wp2_with (first | ((with_reducible refine gate_dst (N := 4) rfl ?_); refine be 4 26 #[.int .i64 0, .int .i64 0] ?_; intro gb1098 hg w23 hbox hb; have BK1098 := m0 hbox; have GW1098 := m0 (bg (n := w.heap.size) hg); have GE1098 := m0 (bg (n := w.heap.size) hg); replace HB := sb HB hb; clear hb hbox hg) | ((with_reducible refine gate_callee (f := 102) rfl ?_); refine gl (some 11) Tryd.func102 #[.slice A0 l0.length c0] ?_; (with_reducible refine (line_open.calls (fun k_ => k_ < w.heap.size) _ _ l0 t1099 t1102 _ ?side1 A3.out).mono ?_); (case side1 => exact Kd.V_mk HC0.out (Kd.F_below (Kd.C_F (Kd.heap_int .i64) HR0.out) bz)); rintro e w24 ⟨v1100, rfl, ho0, hb⟩; refine ⟨_, rfl, ?_⟩; have HO1101 := m0 (Kd.V_lower (Kd.V_mono (ok' := fun k_ => k_ ≠ gb1098) ho0 (fun k_ hk_ => Or.elim hk_ (fun hs_ => fun e_ => Nat.not_le.2 hs_ (by rw [e_]; exact GW1098.out)) (fun hn_ => (Kd.freshB (g := gb1098) (o := .cells #[.int .i64 0, .int .i64 0] 26 (0, 0)) (bk BK1098.out) k_ hn_)))) (below_size bz)); replace BK1098 := bb BK1098 hb; replace HB := sb HB hb; (try clear hb); (try clear ho0)) | ((with_reducible refine gate_callee (f := 105) rfl ?_); refine gl (some 16) Tryd.func105 #[.int .i64 a1, .int .i64 0, .int .i64 16] ?_; (with_reducible refine (line_within.calls a1 0 16 t1103 _ A4.out).mono ?_); rintro e w' ⟨rfl, ⟨nd, rfl⟩⟩; refine ⟨_, rfl, ?_⟩; (try (rw [drewN_self w24]; generalize hq_ : World.drewN w24 _ = w24; have n0_ : Aside0 (Kd.V (Kd.int .i64) 3 w24 w.heap.size (fun k_ => k_ ≠ gb1098) v1100 t1099) := ⟨by rw [← hq_]; exact (by (with_reducible repeat (first | apply Kd.V_alloc | apply Kd.V_drewN | apply Kd.V_drew)); exact HO1101.out)⟩; have n1_ := gd BK1098 hq_; have n2_ := gs HB hq_; clear HO1101 BK1098 HB hq_; have HO1101 := n0_; have BK1098 := n1_; have HB := n2_; clear n0_ n1_ n2_))) | ((with_reducible refine gate_callee (f := 93) rfl ?_); refine gl (some 17) Tryd.func93 #[.bool t1103, .int .i64 2] ?_; (with_reducible refine (line_unless.calls t1103 2 t1104 _ A5.out).mono ?_); rintro e w' ⟨rfl, ⟨nd, rfl⟩⟩; refine ⟨_, rfl, ?_⟩; (try (rw [drewN_self w24]; generalize hq_ : World.drewN w24 _ = w24; have n0_ : Aside0 (Kd.V (Kd.int .i64) 3 w24 w.heap.size (fun k_ => k_ ≠ gb1098) v1100 t1099) := ⟨by rw [← hq_]; exact (by (with_reducible repeat (first | apply Kd.V_alloc | apply Kd.V_drewN | apply Kd.V_drew)); exact HO1101.out)⟩; have n1_ := gd BK1098 hq_; have n2_ := gs HB hq_; clear HO1101 BK1098 HB hq_; have HO1101 := n0_; have BK1098 := n1_; have HB := n2_; clear n0_ n1_ n2_))) | ((with_reducible refine gate_dst (N := 18) rfl ?_); refine Kd.R_lit (Kd.int .i64) _ 31 ?hg (N := 18) ?hd (xs := ([t1102, t1104] : List Int)) (inner := [.int .i64 t1102, .int .i64 t1104]) (ok := fun _ => True) (okp := fun _ => True) ?hr ?hp (fun _ hk => hk) trivial (Below.refl _ _) (Nat.le_refl _) (by simp) ?_; (case hd => rfl); (case hg => rfl); (case hr => first | (go_simp; done) | (go_simp; rfl)); (case hp => exact (Reps.one (show Kd.M (Kd.int .i64) _ _ _ t1102 [.int .i64 t1102] from rfl) (Reps.one (show Kd.M (Kd.int .i64) _ _ _ t1104 [.int .i64 t1104] from rfl) (Reps.none _ _)))); intro v1106 w25 ho26 hb hg_ hnew_; clear hg_ hnew_; (first | rw [← Ny1105.out] at ho26 | (simp only [Int.reduceToNat] at ho26; rw [← Ny1105.out] at ho26)); replace HO1101 := m0 (Kd.V_elder' (by (with_reducible repeat (first | apply Kd.V_alloc | apply Kd.V_drewN | apply Kd.V_drew)); exact HO1101.out) (Kd.R_base ho26) hb); have HO1107 := m0 (Kd.R_lower ho26 (below_size bz)); replace BK1098 := bb BK1098 hb; replace HB := sb HB hb; clear hb ho26; obtain ⟨Ao27, co27, eo27⟩ := Kd.R_slice HO1107.out; subst eo27) | ((with_reducible refine gate_callee (f := 91) rfl ?_); refine gl (some 19) Tryd.func91 #[.slice Ao27 y1105.length co27] ?_; (with_reducible refine (line_first.calls k _ _ y1105 t1108 _ ?side1 ?side2 A6.out).mono ?_); (case side1 => exact bc (Kd.R_reads' HO1107.out).2.2); (case side2 => exact (Kd.R_reads' HO1107.out).2.1); rintro e w' ⟨rfl, ⟨nd, rfl⟩⟩; refine ⟨_, rfl, ?_⟩; (try (rw [drewN_self w25]; generalize hq_ : World.drewN w25 _ = w25; have n0_ : Aside0 (Kd.V (Kd.int .i64) 3 w25 w.heap.size (fun k_ => some k_ ≠ (.slice Ao27 y1105.length co27 : Value).ownBlock ∧ k_ ≠ gb1098) v1100 t1099) := ⟨by rw [← hq_]; exact (by (with_reducible repeat (first | apply Kd.V_alloc | apply Kd.V_drewN | apply Kd.V_drew)); exact Kd.V_mono HO1101.out (fun _ hk => ⟨hk.2, hk.1⟩))⟩; have n1_ := gr HO1107 hq_; have n2_ := gd BK1098 hq_; have n3_ := gs HB hq_; clear HO1101 HO1107 BK1098 HB hq_; have HO1101 := n0_; have HO1107 := n1_; have BK1098 := n2_; have HB := n3_; clear n0_ n1_ n2_ n3_)); obtain ⟨Ao28, co28, eo28⟩ := Kd.V_slice HO1101.out; subst eo28) | ((with_reducible refine gate_callee (f := 103) rfl ?_); refine gl (some 25) Tryd.func103 #[.slice Ao28 t1099.length co28] ?_; (with_reducible refine (Sp_peak.calls k _ _ t1099 t1109 _ ?side1 ?side2 A8.out).mono ?_); (case side1 => repeat (first | exact (Kd.V_reads' HO1101.out).2.2 | (with_reducible refine Kd.C_alloc ?_ _) | (with_reducible refine Kd.C_drewN ?_ _) | (with_reducible refine Kd.C_drew ?_))); (case side2 => exact (Kd.V_reads' HO1101.out).2.1); rintro e w29 ⟨rfl, hb⟩; refine ⟨_, rfl, ?_⟩; replace HO1101 := m0 (Kd.V_below (by (with_reducible repeat (first | apply Kd.V_alloc | apply Kd.V_drewN | apply Kd.V_drew)); exact HO1101.out) hb); replace HO1107 := rb HO1107 hb; replace BK1098 := bb BK1098 hb; replace HB := sb HB hb; (try clear hb); have p1110 : 0 ≤ (t1109 : Int) := of_decide_eq_true (by first | (with_reducible assumption) | assumption); have q1110 : t1109 < (t1099.length : Int) := of_decide_eq_true (by first | (with_reducible assumption) | assumption); obtain ⟨ad1110, e1110, hx1110_0⟩ := Kd.at_int (Kd.V_reads' HO1101.out).2.2 t1109 p1110 q1110; cases e1110; replace p1110 := eq_true p1110; replace q1110 := eq_true q1110) | ((with_reducible refine gate_callee (f := 124) rfl ?_); refine goesL_ (some 44) rfl rfl Tryd.func124 (by kernel_rfl) rfl #[.slice (some ad1110) t1099.length co28, .int .i64 ji20, .int .i64 ji21] rfl (by (try simp only [List.map_toArray, List.map_cons, List.map_nil]); first | done | (simp only [hji20, hji21]; rfl) | rfl | (simp only [List.length_drop, List.length_take]; rfl)) ?_; (with_reducible refine (Sp_centroid.calls k _ _ t1099 ji20 ji21 t1111 t1112 _ ?side1 ?side2 A22.out).mono ?_); (case side1 => repeat (first | exact (Kd.V_reads' HO1101.out).2.2 | (with_reducible refine Kd.C_alloc ?_ _) | (with_reducible refine Kd.C_drewN ?_ _) | (with_reducible refine Kd.C_drew ?_))); (case side2 => exact (Kd.V_reads' HO1101.out).2.1); rintro e w30 ⟨rfl, hb⟩; refine ⟨_, rfl, ?_⟩; replace HO1101 := m0 (Kd.V_below (by (with_reducible repeat (first | apply Kd.V_alloc | apply Kd.V_drewN | apply Kd.V_drew)); exact HO1101.out) hb); replace HO1107 := rb HO1107 hb; replace BK1098 := bb BK1098 hb; replace HB := sb HB hb; (try clear hb); obtain ⟨_, _, _, _⟩ := b2 BK1098))
     refine bodyPost_ret (results_ct rfl _ _ gb1098 26 #[.int .i64 t1111, .int .i64 t1112] (0, 0) _ rfl (bq BK1098.out) Tryd.underlying26 rfl (by kernel_rfl)) rfl ?_
     exact ⟨by first | rfl | (simp [errW_none, errW_some] <;> rfl) | (simp only [← hji20, ← hji21]; first | rfl | (simp [errW_none, errW_some] <;> rfl)) | (simp [*, errW_none, errW_some] <;> rfl), by repeat (first | (with_reducible first | exact HB.out | apply below_alloc | apply pw_below_drewN | apply below_drew1 | refine below_set ?_ GE1098.out) | exact HB.out)⟩
   ·rw [if_neg c10] at H
    exact absurd H (by simp)
  ·rw [if_neg c9] at H
   exact absurd H (by simp)
 ·rw [if_neg c7] at H
  have c7b0 := beq_eq_false_iff_ne.mpr c7
  have c7b1 := bne_iff_ne.mpr c7
  simp only [Option.some.injEq, Prod.mk.injEq] at H
  obtain ⟨rfl, rfl, rfl⟩ := H
  go_enter Tryd.func59, Tryd.ntmps59
  go_wp2_with (first | ((with_reducible refine gate_dst (N := 4) rfl ?_); refine be 4 26 #[.int .i64 0, .int .i64 0] ?_; intro gb1098 hg w32 hbox hb; have BK1098 := m0 hbox; have GW1098 := m0 (bg (n := w.heap.size) hg); have GE1098 := m0 (bg (n := w.heap.size) hg); replace HB := sb HB hb; clear hb hbox hg) | ((with_reducible refine gate_callee (f := 102) rfl ?_); refine gl (some 11) Tryd.func102 #[.slice A0 l0.length c0] ?_; (with_reducible refine (line_open.calls (fun k_ => k_ < w.heap.size) _ _ l0 t1099 t1102 _ ?side1 A3.out).mono ?_); (case side1 => exact Kd.V_mk HC0.out (Kd.F_below (Kd.C_F (Kd.heap_int .i64) HR0.out) bz)); rintro e w33 ⟨v1100, rfl, ho0, hb⟩; refine ⟨_, rfl, ?_⟩; have HO1101 := m0 (Kd.V_lower (Kd.V_mono (ok' := fun k_ => k_ ≠ gb1098) ho0 (fun k_ hk_ => Or.elim hk_ (fun hs_ => fun e_ => Nat.not_le.2 hs_ (by rw [e_]; exact GW1098.out)) (fun hn_ => (Kd.freshB (g := gb1098) (o := .cells #[.int .i64 0, .int .i64 0] 26 (0, 0)) (bk BK1098.out) k_ hn_)))) (below_size bz)); replace BK1098 := bb BK1098 hb; replace HB := sb HB hb; (try clear hb); (try clear ho0)) | ((with_reducible refine gate_callee (f := 105) rfl ?_); refine gl (some 16) Tryd.func105 #[.int .i64 a1, .int .i64 0, .int .i64 16] ?_; (with_reducible refine (line_within.calls a1 0 16 t1103 _ A4.out).mono ?_); rintro e w' ⟨rfl, ⟨nd, rfl⟩⟩; refine ⟨_, rfl, ?_⟩; (try (rw [drewN_self w33]; generalize hq_ : World.drewN w33 _ = w33; have n0_ : Aside0 (Kd.V (Kd.int .i64) 3 w33 w.heap.size (fun k_ => k_ ≠ gb1098) v1100 t1099) := ⟨by rw [← hq_]; exact (by (with_reducible repeat (first | apply Kd.V_alloc | apply Kd.V_drewN | apply Kd.V_drew)); exact HO1101.out)⟩; have n1_ := gd BK1098 hq_; have n2_ := gs HB hq_; clear HO1101 BK1098 HB hq_; have HO1101 := n0_; have BK1098 := n1_; have HB := n2_; clear n0_ n1_ n2_))) | ((with_reducible refine gate_callee (f := 93) rfl ?_); refine gl (some 17) Tryd.func93 #[.bool t1103, .int .i64 2] ?_; (with_reducible refine (line_unless.calls t1103 2 t1104 _ A5.out).mono ?_); rintro e w' ⟨rfl, ⟨nd, rfl⟩⟩; refine ⟨_, rfl, ?_⟩; (try (rw [drewN_self w33]; generalize hq_ : World.drewN w33 _ = w33; have n0_ : Aside0 (Kd.V (Kd.int .i64) 3 w33 w.heap.size (fun k_ => k_ ≠ gb1098) v1100 t1099) := ⟨by rw [← hq_]; exact (by (with_reducible repeat (first | apply Kd.V_alloc | apply Kd.V_drewN | apply Kd.V_drew)); exact HO1101.out)⟩; have n1_ := gd BK1098 hq_; have n2_ := gs HB hq_; clear HO1101 BK1098 HB hq_; have HO1101 := n0_; have BK1098 := n1_; have HB := n2_; clear n0_ n1_ n2_))) | ((with_reducible refine gate_dst (N := 18) rfl ?_); refine Kd.R_lit (Kd.int .i64) _ 31 ?hg (N := 18) ?hd (xs := ([t1102, t1104] : List Int)) (inner := [.int .i64 t1102, .int .i64 t1104]) (ok := fun _ => True) (okp := fun _ => True) ?hr ?hp (fun _ hk => hk) trivial (Below.refl _ _) (Nat.le_refl _) (by simp) ?_; (case hd => rfl); (case hg => rfl); (case hr => first | (go_simp; done) | (go_simp; rfl)); (case hp => exact (Reps.one (show Kd.M (Kd.int .i64) _ _ _ t1102 [.int .i64 t1102] from rfl) (Reps.one (show Kd.M (Kd.int .i64) _ _ _ t1104 [.int .i64 t1104] from rfl) (Reps.none _ _)))); intro v1106 w34 ho35 hb hg_ hnew_; clear hg_ hnew_; (first | rw [← Ny1105.out] at ho35 | (simp only [Int.reduceToNat] at ho35; rw [← Ny1105.out] at ho35)); replace HO1101 := m0 (Kd.V_elder' (by (with_reducible repeat (first | apply Kd.V_alloc | apply Kd.V_drewN | apply Kd.V_drew)); exact HO1101.out) (Kd.R_base ho35) hb); have HO1107 := m0 (Kd.R_lower ho35 (below_size bz)); replace BK1098 := bb BK1098 hb; replace HB := sb HB hb; clear hb ho35; obtain ⟨Ao36, co36, eo36⟩ := Kd.R_slice HO1107.out; subst eo36) | ((with_reducible refine gate_callee (f := 91) rfl ?_); refine gl (some 19) Tryd.func91 #[.slice Ao36 y1105.length co36] ?_; (with_reducible refine (line_first.calls k _ _ y1105 t1108 _ ?side1 ?side2 A6.out).mono ?_); (case side1 => exact bc (Kd.R_reads' HO1107.out).2.2); (case side2 => exact (Kd.R_reads' HO1107.out).2.1); rintro e w' ⟨rfl, ⟨nd, rfl⟩⟩; refine ⟨_, rfl, ?_⟩; (try (rw [drewN_self w34]; generalize hq_ : World.drewN w34 _ = w34; have n0_ : Aside0 (Kd.V (Kd.int .i64) 3 w34 w.heap.size (fun k_ => some k_ ≠ (.slice Ao36 y1105.length co36 : Value).ownBlock ∧ k_ ≠ gb1098) v1100 t1099) := ⟨by rw [← hq_]; exact (by (with_reducible repeat (first | apply Kd.V_alloc | apply Kd.V_drewN | apply Kd.V_drew)); exact Kd.V_mono HO1101.out (fun _ hk => ⟨hk.2, hk.1⟩))⟩; have n1_ := gr HO1107 hq_; have n2_ := gd BK1098 hq_; have n3_ := gs HB hq_; clear HO1101 HO1107 BK1098 HB hq_; have HO1101 := n0_; have HO1107 := n1_; have BK1098 := n2_; have HB := n3_; clear n0_ n1_ n2_ n3_)); obtain ⟨_, _, _, _⟩ := b2 BK1098))
  refine bodyPost_ret (results_ct rfl _ _ gb1098 26 #[.int .i64 0, .int .i64 0] (0, 0) _ rfl (bq BK1098.out) Tryd.underlying26 rfl (by kernel_rfl)) rfl ?_
  exact ez
end
section
attribute [local go_sem high] eqA26
def Lw_LineEstimates.j0 : Nat → List Int → Int → Int → Int → Int → Option (Bool)
  | 0, _, _, _, _, _ => none
  | k + 1, x0, x2, x10, x1129000, x1129001 => (Rf_KindErr.f x2).bind fun t1137 => (if t1137 = 0 then (if x10 = 0 then ((Rf_Estimate.f k x0 x2).bind fun bt1138 => (some (x1129000 == bt1138.1 && (x1129001 == bt1138.2)))) else (some false)) else (if x10 = t1137 then (some (x1129000 == 0 && (x1129001 == 0))) else (some false)))
def Lw_LineEstimates.f (k : Nat) (l0 : List Int) (a1 : Int) (a2 : Int) : Option (Bool) := (Lw_awake.f k).bind fun t1113 => (if t1113 = true then ((Lw_short.f l0).bind fun t1114 => (if t1114 = true then ((Bs_CopyInts.f l0).bind fun t1115 => ((line_CentroidIn.f k t1115 a1).bind fun bt1118 => ((Bs_CopyInts.f l0).bind fun t1122 => ((line_Estimated.f k t1122 a2).bind fun bt1125 => ((Rf_SpectrumErr.f k l0).bind fun t1129 => (if t1129 = 0 then ((Bs_Within.f a1 0 16).bind fun t1130 => (if t1130 = true then ((Rf_Peak.f k l0).bind fun t1131 => ((Rf_Peak.f k l0).bind fun t1132 => ((Rf_Centroid.f k l0 (wrap64 (t1131 - a1)) (wrap64 (t1132 + a1))).bind fun bt1133 => (if bt1133.2.2 = true then (if bt1118.2.2 = 0 then (if (!(bt1118.1 == bt1133.1) || (!(bt1118.2.1 == bt1133.2.1))) = true then (some false) else (Lw_LineEstimates.j0 k l0 a2 bt1125.2.2 bt1125.1 bt1125.2.1)) else (some false)) else (if bt1118.2.2 = 11 then (if (!(bt1118.1 == 0) || (!(bt1118.2.1 == 0))) = true then (some false) else (Lw_LineEstimates.j0 k l0 a2 bt1125.2.2 bt1125.1 bt1125.2.1)) else (some false)))))) else (if bt1118.2.2 = 2 then (if (!(bt1118.1 == 0) || (!(bt1118.2.1 == 0))) = true then (some false) else (Lw_LineEstimates.j0 k l0 a2 bt1125.2.2 bt1125.1 bt1125.2.1)) else (some false)))) else (if bt1118.2.2 = t1129 then (if bt1125.2.2 = t1129 then (if (bt1118.1 == 0 && (bt1118.2.1 == 0)) = true then (some (bt1125.1 == 0 && (bt1125.2.1 == 0))) else (some false)) else (some false)) else (some false)))))))) else (some true))) else (some false))
theorem Lw_LineEstimates.mono_l : ∀ k, (∀ y0 y1 y2 y3 y4, LeO (Lw_LineEstimates.j0 k y0 y1 y2 y3 y4) (Lw_LineEstimates.j0 (k + 1) y0 y1 y2 y3 y4))
  | 0 => fun _ _ _ _ _ r h => by simp [Lw_LineEstimates.j0] at h
  | k + 1 => by
    have ih0 := Lw_LineEstimates.mono_l k
    · intro y0 y1 y2 y3 y4
      unfold Lw_LineEstimates.j0
      repeat' first
      | (with_reducible exact ih0 _ _ _ _ _)
      | (with_reducible exact Lw_awake.mono _)
      | (with_reducible exact Rf_Centroid.mono _ _ _ _)
      | (with_reducible exact Rf_Estimate.mono _ _ _)
      | (with_reducible exact Rf_Peak.mono _ _)
      | (with_reducible exact Rf_SpectrumErr.mono _ _)
      | (with_reducible exact line_CentroidIn.mono _ _ _)
      | (with_reducible exact line_Estimated.mono _ _ _)
      | (with_reducible exact LeO.refl _)
      | (with_reducible exact LeO.none _)
      | (with_reducible refine LeO.ite ?_ ?_)
      | (with_reducible refine LeO.bind ?_ (fun _ => ?_))
      | exact ih0 _ _ _ _ _
      | exact Lw_awake.mono _
      | exact Rf_Centroid.mono _ _ _ _
      | exact Rf_Estimate.mono _ _ _
      | exact Rf_Peak.mono _ _
      | exact Rf_SpectrumErr.mono _ _
      | exact line_CentroidIn.mono _ _ _
      | exact line_Estimated.mono _ _ _
      | exact LeO.none _
      | refine LeO.ite ?_ ?_
      | refine LeO.bind ?_ (fun _ => ?_)
theorem Lw_LineEstimates.mono : ∀ a0 a1 a2 k, LeO (Lw_LineEstimates.f k a0 a1 a2) (Lw_LineEstimates.f (k + 1) a0 a1 a2) := by
  intro a0 a1 a2 k
  have ih0 := Lw_LineEstimates.mono_l k
  unfold Lw_LineEstimates.f
  repeat' first
      | (with_reducible exact ih0 _ _ _ _ _)
      | (with_reducible exact Lw_awake.mono _)
      | (with_reducible exact Rf_Centroid.mono _ _ _ _)
      | (with_reducible exact Rf_Estimate.mono _ _ _)
      | (with_reducible exact Rf_Peak.mono _ _)
      | (with_reducible exact Rf_SpectrumErr.mono _ _)
      | (with_reducible exact line_CentroidIn.mono _ _ _)
      | (with_reducible exact line_Estimated.mono _ _ _)
      | (with_reducible exact LeO.refl _)
      | (with_reducible exact LeO.none _)
      | (with_reducible refine LeO.ite ?_ ?_)
      | (with_reducible refine LeO.bind ?_ (fun _ => ?_))
      | exact ih0 _ _ _ _ _
      | exact Lw_awake.mono _
      | exact Rf_Centroid.mono _ _ _ _
      | exact Rf_Estimate.mono _ _ _
      | exact Rf_Peak.mono _ _
      | exact Rf_SpectrumErr.mono _ _
      | exact line_CentroidIn.mono _ _ _
      | exact line_Estimated.mono _ _ _
      | exact LeO.none _
      | refine LeO.ite ?_ ?_
      | refine LeO.bind ?_ (fun _ => ?_)
def Lw_LineEstimates.T19 : Bool × List (List Nat × List Nat) := (true, [([], []), ([0], [0]), ([1], [1]), ([2], [2]), ([2], [2]), ([2], [2]), ([4, 5, 2, 2], [2, 4, 5]), ([3, 6, 2], [2, 3, 6]), ([2, 7], [2, 7]), ([8, 6, 0, 1, 2, 3, 4, 5, 6, 7, 8], [8])])
def Lw_LineEstimates.B19 : List Nat := [0, 1, 3, 7, 7, 7, 55, 127, 255, 511]
theorem Lw_LineEstimates.tab19 : rtab .any (opsOf Tryd.f9 19) = Lw_LineEstimates.T19 := by kernel_rfl
theorem Lw_LineEstimates.bits19 : waitsOk Lw_LineEstimates.T19.2 Lw_LineEstimates.B19 = true := by kernel_rfl
theorem Lw_LineEstimates.calls (k : Nat) (A0 : Option Addr) (c0 : Nat) (l0 : List Int) (a1 : Int) (a2 : Int) (r : Bool) (w : World) (hr0 : Kd.C (Kd.int .i64) w A0 l0.length l0) (hc0 : l0.length ≤ c0) (hG : EstG w) (h : Lw_LineEstimates.f k l0 a1 a2 = some r) :
    Calls Tryd.prog 9 #[.slice A0 l0.length c0, .int .i64 a1, .int .i64 a2] w fun e w' => e = .returned (.bool r) ∧ Below w.heap.size w w' := by
  have hu26 := Tryd.underlying26
  have HG := m0 hG
  clear hG
  have HR0 := m0 hr0
  have HC0 := m0 hc0
  clear hr0 hc0
  have HB := m0 (Below.refl w.heap.size w)
  have H : ((Lw_awake.f k).bind fun t1113 => (if t1113 = true then ((Lw_short.f l0).bind fun t1114 => (if t1114 = true then ((Bs_CopyInts.f l0).bind fun t1115 => ((line_CentroidIn.f k t1115 a1).bind fun bt1118 => ((Bs_CopyInts.f l0).bind fun t1122 => ((line_Estimated.f k t1122 a2).bind fun bt1125 => ((Rf_SpectrumErr.f k l0).bind fun t1129 => (if t1129 = 0 then ((Bs_Within.f a1 0 16).bind fun t1130 => (if t1130 = true then ((Rf_Peak.f k l0).bind fun t1131 => ((Rf_Peak.f k l0).bind fun t1132 => ((Rf_Centroid.f k l0 (wrap64 (t1131 - a1)) (wrap64 (t1132 + a1))).bind fun bt1133 => (if bt1133.2.2 = true then (if bt1118.2.2 = 0 then (if (!(bt1118.1 == bt1133.1) || (!(bt1118.2.1 == bt1133.2.1))) = true then (some false) else (Lw_LineEstimates.j0 k l0 a2 bt1125.2.2 bt1125.1 bt1125.2.1)) else (some false)) else (if bt1118.2.2 = 11 then (if (!(bt1118.1 == 0) || (!(bt1118.2.1 == 0))) = true then (some false) else (Lw_LineEstimates.j0 k l0 a2 bt1125.2.2 bt1125.1 bt1125.2.1)) else (some false)))))) else (if bt1118.2.2 = 2 then (if (!(bt1118.1 == 0) || (!(bt1118.2.1 == 0))) = true then (some false) else (Lw_LineEstimates.j0 k l0 a2 bt1125.2.2 bt1125.1 bt1125.2.1)) else (some false)))) else (if bt1118.2.2 = t1129 then (if bt1125.2.2 = t1129 then (if (bt1118.1 == 0 && (bt1118.2.1 == 0)) = true then (some (bt1125.1 == 0 && (bt1125.2.1 == 0))) else (some false)) else (some false)) else (some false)))))))) else (some true))) else (some false))) = some r := h
  clear h
  replace H := ob H
  obtain ⟨t1113, A40, H⟩ := H
  (try dsimp only at H)
  have A4 := m0 A40
  clear A40
  by_cases c5 : t1113 = true
  · subst c5
    rw [if_pos rfl] at H
    replace H := ob H
    obtain ⟨t1114, A60, H⟩ := H
    (try dsimp only at H)
    have A6 := m0 A60
    clear A60
    by_cases c7 : t1114 = true
    · subst c7
      rw [if_pos rfl] at H
      replace H := ob H
      obtain ⟨t1115, A80, H⟩ := H
      (try dsimp only at H)
      have A8 := m0 A80
      clear A80
      replace H := ob H
      obtain ⟨⟨t1118, t1119, t1120⟩, A90, H⟩ := H
      (try dsimp only at H)
      have A9 := m0 A90
      clear A90
      replace H := ob H
      obtain ⟨t1122, A100, H⟩ := H
      (try dsimp only at H)
      have A10 := m0 A100
      clear A100
      replace H := ob H
      obtain ⟨⟨t1125, t1126, t1127⟩, A110, H⟩ := H
      (try dsimp only at H)
      have A11 := m0 A110
      clear A110
      replace H := ob H
      obtain ⟨t1129, A120, H⟩ := H
      (try dsimp only at H)
      have A12 := m0 A120
      clear A120
      by_cases c13 : t1129 = 0
      · rw [if_pos c13] at H
        have c13b0 := beq_iff_eq.mpr c13
        have c13b1 := bne_eq_false_iff_eq.mpr c13
        clear c13
        replace H := ob H
        obtain ⟨t1130, A140, H⟩ := H
        (try dsimp only at H)
        have A14 := m0 A140
        clear A140
        have HC15 := m0 H
        clear H
        go_enter Tryd.func9, Tryd.ntmps9
        go_upto_if 57 with (first | ((with_reducible refine gate_callee (f := 18) rfl ?_); refine gl (some 14) Tryd.func18 #[] ?_; (with_reducible refine (Lw_awake.calls k  true _ ?side1 A4.out).mono ?_); (case side1 => exact EstG.below HG.out bz); rintro e w16 ⟨rfl, hb⟩; refine ⟨_, rfl, ?_⟩; replace HB := sb HB hb; (try clear hb)) | ((with_reducible refine gate_callee (f := 50) rfl ?_); refine gl (some 17) Tryd.func50 #[.slice A0 l0.length c0] ?_; (with_reducible refine (Lw_short.calls _ _ l0 true _ ?side1 ?side2 A6.out).mono ?_); (case side1 => exact cb HR0 HB); (case side2 => exact HC0.out); rintro e w' ⟨rfl, ⟨nd, rfl⟩⟩; refine ⟨_, rfl, ?_⟩; (try (rw [drewN_self w16]; generalize hq_ : World.drewN w16 _ = w16; replace HB := gs HB hq_; clear hq_))) | ((with_reducible refine gate_callee (f := 33) rfl ?_); refine gl (some 21) Tryd.func33 #[.slice A0 l0.length c0] ?_; (with_reducible refine (Bs_CopyInts.calls _ _ l0 t1115 _ ?side1 ?side2 A8.out).mono ?_); (case side1 => exact cb HR0 HB); (case side2 => exact HC0.out); rintro e w17 ⟨v1116, rfl, ho0, hb⟩; refine ⟨_, rfl, ?_⟩; have HO1117 := m0 (Kd.R_lower ho0 (below_size bz)); replace HB := sb HB hb; (try clear hb); (try clear ho0); obtain ⟨Ao18, co18, eo18⟩ := Kd.R_slice HO1117.out; subst eo18) | ((with_reducible refine gate_callee (f := 59) rfl ?_); refine gl (some 23) Tryd.func59 #[.slice Ao18 t1115.length co18, .int .i64 a1] ?_; (with_reducible refine (line_CentroidIn.calls k _ _ t1115 a1 t1118 t1119 t1120 _ ?side1 ?side2 A9.out).mono ?_); (case side1 => exact bc (Kd.R_reads' HO1117.out).2.2); (case side2 => exact (Kd.R_reads' HO1117.out).2.1); rintro e w19 ⟨rfl, hb⟩; refine ⟨_, rfl, ?_⟩; replace HO1117 := rb HO1117 hb; replace HB := sb HB hb; (try clear hb)) | ((with_reducible refine gate_dst (N := 7) rfl ?_); refine be 7 26 #[.int .i64 0, .int .i64 0] ?_; intro gb1121 hg w20 hbox hb; replace HO1117 := rb HO1117 hb; have BK1121 := m0 hbox; have GW1121 := m0 (bg (n := w.heap.size) hg); have GE1121 := m0 (bg (n := w.heap.size) hg); replace HB := sb HB hb; clear hb hbox hg; obtain ⟨hcz21_0, hcz21_1, hfz21_0, hfz21_1⟩ := b2 BK1121) | ((with_reducible refine gate_callee (f := 33) rfl ?_); refine gl (some 28) Tryd.func33 #[.slice A0 l0.length c0] ?_; (with_reducible refine (Bs_CopyInts.calls _ _ l0 t1122 _ ?side1 ?side2 A10.out).mono ?_); (case side1 => exact Kd.C_below HR0.out bz); (case side2 => exact HC0.out); rintro e w22 ⟨v1123, rfl, ho0, hb⟩; refine ⟨_, rfl, ?_⟩; have HO1124 := m0 (Kd.R_lower (Kd.R_new' ho0 (Kd.R_lt (by (with_reducible repeat (first | apply Kd.R_alloc | apply Kd.R_drewN | apply Kd.R_drew)); exact (Kd.R_mono (Kd.R_far (p := ⟨gb1121, 1, none⟩) (Kd.R_far (p := ⟨gb1121, 0, none⟩) (Kd.R_types HO1117.out BK1121.out (by decide)) (fun _ hk => hk.2) (.int .i64 t1118)) (fun _ hk => hk.2) (.int .i64 t1119)) (fun _ h_ => h_.1))))) (below_size bz)); replace HO1117 := m0 (Kd.R_elder' (by (with_reducible repeat (first | apply Kd.R_alloc | apply Kd.R_drewN | apply Kd.R_drew)); exact (Kd.R_mono (Kd.R_far (p := ⟨gb1121, 1, none⟩) (Kd.R_far (p := ⟨gb1121, 0, none⟩) (Kd.R_types HO1117.out BK1121.out (by decide)) (fun _ hk => hk.2) (.int .i64 t1118)) (fun _ hk => hk.2) (.int .i64 t1119)) (fun _ h_ => h_.1))) (Kd.R_base ho0) hb); replace BK1121 := m0 (blk_below (g := gb1121) (o := .cells #[.int .i64 t1118, .int .i64 t1119] 26 (0, 0)) (bq BK1121.out) hb); replace HB := sb HB hb; (try clear hb); (try clear ho0); obtain ⟨Ao23, co23, eo23⟩ := Kd.R_slice HO1124.out; subst eo23) | ((with_reducible refine gate_callee (f := 34) rfl ?_); refine gl (some 30) Tryd.func34 #[.slice Ao23 t1122.length co23, .int .i64 a2] ?_; (with_reducible refine (line_Estimated.calls k _ _ t1122 a2 t1125 t1126 t1127 _ ?side1 ?side2 ?side3 A11.out).mono ?_); (case side1 => exact bc (Kd.R_reads' HO1124.out).2.2); (case side2 => exact (Kd.R_reads' HO1124.out).2.1); (case side3 => exact EstG.below HG.out bz); rintro e w24 ⟨rfl, hb⟩; refine ⟨_, rfl, ?_⟩; replace HO1117 := rb HO1117 hb; replace HO1124 := rb HO1124 hb; replace BK1121 := bb BK1121 hb; replace HB := sb HB hb; (try clear hb)) | ((with_reducible refine gate_dst (N := 9) rfl ?_); refine be 9 26 #[.int .i64 0, .int .i64 0] ?_; intro gb1128 hg w25 hbox hb; replace HO1117 := rb HO1117 hb; replace HO1124 := rb HO1124 hb; have BK1128 := m0 hbox; have GW1128 := m0 (bg (n := w.heap.size) hg); have GE1128 := m0 (bg (n := w.heap.size) hg); replace HB := sb HB hb; have NB1121_1128 := nl BK1121 hg; have NB1128_1121 := ng (nl BK1121 hg); replace BK1121 := bb BK1121 hb; clear hb hbox hg; have hnb26 := NB1128_1121.out; have hnc26 := NB1121_1128.out; obtain ⟨hcz27_0, hcz27_1, hfz27_0, hfz27_1⟩ := b2 BK1128) | ((with_reducible refine gate_callee (f := 30) rfl ?_); refine gl (some 34) Tryd.func30 #[.slice A0 l0.length c0] ?_; (with_reducible refine (Rf_SpectrumErr.calls k _ _ l0 t1129 _ ?side1 ?side2 A12.out).mono ?_); (case side1 => exact Kd.C_below HR0.out bz); (case side2 => exact HC0.out); rintro e w' ⟨rfl, ⟨nd, rfl⟩⟩; refine ⟨_, rfl, ?_⟩) | ((with_reducible refine gate_callee (f := 31) rfl ?_); refine gl (some 56) Tryd.func31 #[.int .i64 a1, .int .i64 0, .int .i64 16] ?_; (with_reducible refine (Bs_Within.calls a1 0 16 t1130 _ A14.out).mono ?_); rintro e w' ⟨rfl, ⟨nd, rfl⟩⟩; refine ⟨_, rfl, ?_⟩))
        (try simp only [Act.put, List.setIfInBounds_toArray, List.set_cons_zero, List.set_cons_succ])
        go_cut [] (fun wc => ∃ (kq : Nat), Aside0 (Lw_LineEstimates.j0 kq l0 a2 t1127 t1125 t1126 = some r) ∧ Aside0 (kq ≤ k) ∧ Aside0 (wc.heap[gb1121]? = some (.cells #[.int .i64 t1118, .int .i64 t1119] 26 (0, 0))) ∧ Aside0 (wc.heap[gb1128]? = some (.cells #[.int .i64 t1125, .int .i64 t1126] 26 (0, 0))) ∧ Aside0 (Below w.heap.size w wc))
        case first =>
          have H := HC15.out
          clear HC15
          by_cases c28 : t1130 = true
          · subst c28
            rw [if_pos rfl] at H
            replace H := ob H
            obtain ⟨t1131, A290, H⟩ := H
            (try dsimp only at H)
            have A29 := m0 A290
            clear A290
            replace H := ob H
            obtain ⟨t1132, A300, H⟩ := H
            (try dsimp only at H)
            have A30 := m0 A300
            clear A300
            replace H := ob H
            obtain ⟨⟨t1133, t1134, t1135⟩, A310, H⟩ := H
            (try dsimp only at H)
            have A31 := m0 A310
            clear A310
            by_cases c32 : t1135 = true
            · subst c32
              rw [if_pos rfl] at H
              by_cases c33 : t1120 = 0
              · rw [if_pos c33] at H
                have c33b0 := beq_iff_eq.mpr c33
                have c33b1 := bne_eq_false_iff_eq.mpr c33
                clear c33
                (first | rw [c33b0] | (simp only [i64_w, i32_w]; rw [c33b0]) | skip)
                by_cases c34 : (!(t1118 == t1133) || (!(t1119 == t1134))) = true
                · rw [if_pos c34] at H
                  have c34b0 : (!(t1118 == t1133) || (!(t1119 == t1134))) = true := c34
                  clear c34
                  obtain rfl := Option.some.inj H
                  go_wp2_with (first | ((with_reducible refine gate_callee (f := 61) rfl ?_); refine gl (some 68) Tryd.func61 #[.slice A0 l0.length c0] ?_; (with_reducible refine (Rf_Peak.calls k _ _ l0 t1131 _ ?side1 ?side2 A29.out).mono ?_); (case side1 => exact Kd.C_below HR0.out bz); (case side2 => exact HC0.out); rintro e w35 ⟨rfl, hb⟩; refine ⟨_, rfl, ?_⟩; replace HO1117 := m0 (Kd.R_below (by (with_reducible repeat (first | apply Kd.R_alloc | apply Kd.R_drewN | apply Kd.R_drew)); exact (Kd.R_mono (Kd.R_far (p := ⟨gb1128, 1, none⟩) (Kd.R_far (p := ⟨gb1128, 0, none⟩) (Kd.R_types HO1117.out BK1128.out (by decide)) (fun _ hk => hk.2) (.int .i64 t1125)) (fun _ hk => hk.2) (.int .i64 t1126)) (fun _ h_ => h_.1))) hb); replace HO1124 := m0 (Kd.R_below (by (with_reducible repeat (first | apply Kd.R_alloc | apply Kd.R_drewN | apply Kd.R_drew)); exact (Kd.R_mono (Kd.R_far (p := ⟨gb1128, 1, none⟩) (Kd.R_far (p := ⟨gb1128, 0, none⟩) (Kd.R_types HO1124.out BK1128.out (by decide)) (fun _ hk => hk.2) (.int .i64 t1125)) (fun _ hk => hk.2) (.int .i64 t1126)) (fun _ h_ => h_.1))) hb); replace BK1121 := m0 (blk_below (g := gb1121) (o := .cells #[.int .i64 t1118, .int .i64 t1119] 26 (0, 0)) (bq BK1121.out) hb); replace BK1128 := m0 (blk_below (g := gb1128) (o := .cells #[.int .i64 t1125, .int .i64 t1126] 26 (0, 0)) (bq BK1128.out) hb); replace HB := sb HB hb; (try clear hb)) | ((with_reducible refine gate_callee (f := 61) rfl ?_); refine gl (some 72) Tryd.func61 #[.slice A0 l0.length c0] ?_; (with_reducible refine (Rf_Peak.calls k _ _ l0 t1132 _ ?side1 ?side2 A30.out).mono ?_); (case side1 => exact cb HR0 HB); (case side2 => exact HC0.out); rintro e w36 ⟨rfl, hb⟩; refine ⟨_, rfl, ?_⟩; replace HO1117 := rb HO1117 hb; replace HO1124 := rb HO1124 hb; replace BK1121 := bb BK1121 hb; replace BK1128 := bb BK1128 hb; replace HB := sb HB hb; (try clear hb)) | ((with_reducible refine gate_callee (f := 60) rfl ?_); refine gl (some 75) Tryd.func60 #[.slice A0 l0.length c0, .int .i64 (wrap64 (t1131 - a1)), .int .i64 (wrap64 (t1132 + a1))] ?_; (with_reducible refine (Rf_Centroid.calls k _ _ l0 (wrap64 (t1131 - a1)) (wrap64 (t1132 + a1)) t1133 t1134 true _ ?side1 ?side2 A31.out).mono ?_); (case side1 => exact cb HR0 HB); (case side2 => exact HC0.out); rintro e w37 ⟨rfl, hb⟩; refine ⟨_, rfl, ?_⟩; replace HO1117 := rb HO1117 hb; replace HO1124 := rb HO1124 hb; replace BK1121 := bb BK1121 hb; replace BK1128 := bb BK1128 hb; replace HB := sb HB hb; (try clear hb)) | ((with_reducible refine gate_dst (N := 12) rfl ?_); refine be 12 26 #[.int .i64 0, .int .i64 0] ?_; intro gb1136 hg w38 hbox hb; replace HO1117 := rb HO1117 hb; replace HO1124 := rb HO1124 hb; have BK1136 := m0 hbox; have GW1136 := m0 (bg (n := w.heap.size) hg); have GE1136 := m0 (bg (n := w.heap.size) hg); replace HB := sb HB hb; have NB1121_1136 := nl BK1121 hg; have NB1136_1121 := ng (nl BK1121 hg); replace BK1121 := bb BK1121 hb; have NB1128_1136 := nl BK1128 hg; have NB1136_1128 := ng (nl BK1128 hg); replace BK1128 := bb BK1128 hb; clear hb hbox hg; have hnb39 := NB1136_1121.out; have hnc39 := NB1121_1136.out; have hnb40 := NB1136_1128.out; have hnc40 := NB1128_1136.out; obtain ⟨hcz41_0, hcz41_1, hfz41_0, hfz41_1⟩ := b2 BK1136; have hnb42 := NB1121_1128.out; have hnc42 := NB1128_1121.out; obtain ⟨hcz43_0, hcz43_1, hfz43_0, hfz43_1⟩ := b2 BK1121))
                  go_ret
                  exact ez
                · rw [if_neg c34] at H
                  have c34b0 : (!(t1118 == t1133) || (!(t1119 == t1134))) = false := by simpa using c34
                  clear c34
                  have H' := m0 H
                  clear H
                  go_wp2_with (first | ((with_reducible refine gate_callee (f := 61) rfl ?_); refine gl (some 68) Tryd.func61 #[.slice A0 l0.length c0] ?_; (with_reducible refine (Rf_Peak.calls k _ _ l0 t1131 _ ?side1 ?side2 A29.out).mono ?_); (case side1 => exact Kd.C_below HR0.out bz); (case side2 => exact HC0.out); rintro e w44 ⟨rfl, hb⟩; refine ⟨_, rfl, ?_⟩; replace HO1117 := m0 (Kd.R_below (by (with_reducible repeat (first | apply Kd.R_alloc | apply Kd.R_drewN | apply Kd.R_drew)); exact (Kd.R_mono (Kd.R_far (p := ⟨gb1128, 1, none⟩) (Kd.R_far (p := ⟨gb1128, 0, none⟩) (Kd.R_types HO1117.out BK1128.out (by decide)) (fun _ hk => hk.2) (.int .i64 t1125)) (fun _ hk => hk.2) (.int .i64 t1126)) (fun _ h_ => h_.1))) hb); replace HO1124 := m0 (Kd.R_below (by (with_reducible repeat (first | apply Kd.R_alloc | apply Kd.R_drewN | apply Kd.R_drew)); exact (Kd.R_mono (Kd.R_far (p := ⟨gb1128, 1, none⟩) (Kd.R_far (p := ⟨gb1128, 0, none⟩) (Kd.R_types HO1124.out BK1128.out (by decide)) (fun _ hk => hk.2) (.int .i64 t1125)) (fun _ hk => hk.2) (.int .i64 t1126)) (fun _ h_ => h_.1))) hb); replace BK1121 := m0 (blk_below (g := gb1121) (o := .cells #[.int .i64 t1118, .int .i64 t1119] 26 (0, 0)) (bq BK1121.out) hb); replace BK1128 := m0 (blk_below (g := gb1128) (o := .cells #[.int .i64 t1125, .int .i64 t1126] 26 (0, 0)) (bq BK1128.out) hb); replace HB := sb HB hb; (try clear hb)) | ((with_reducible refine gate_callee (f := 61) rfl ?_); refine gl (some 72) Tryd.func61 #[.slice A0 l0.length c0] ?_; (with_reducible refine (Rf_Peak.calls k _ _ l0 t1132 _ ?side1 ?side2 A30.out).mono ?_); (case side1 => exact cb HR0 HB); (case side2 => exact HC0.out); rintro e w45 ⟨rfl, hb⟩; refine ⟨_, rfl, ?_⟩; replace HO1117 := rb HO1117 hb; replace HO1124 := rb HO1124 hb; replace BK1121 := bb BK1121 hb; replace BK1128 := bb BK1128 hb; replace HB := sb HB hb; (try clear hb)) | ((with_reducible refine gate_callee (f := 60) rfl ?_); refine gl (some 75) Tryd.func60 #[.slice A0 l0.length c0, .int .i64 (wrap64 (t1131 - a1)), .int .i64 (wrap64 (t1132 + a1))] ?_; (with_reducible refine (Rf_Centroid.calls k _ _ l0 (wrap64 (t1131 - a1)) (wrap64 (t1132 + a1)) t1133 t1134 true _ ?side1 ?side2 A31.out).mono ?_); (case side1 => exact cb HR0 HB); (case side2 => exact HC0.out); rintro e w46 ⟨rfl, hb⟩; refine ⟨_, rfl, ?_⟩; replace HO1117 := rb HO1117 hb; replace HO1124 := rb HO1124 hb; replace BK1121 := bb BK1121 hb; replace BK1128 := bb BK1128 hb; replace HB := sb HB hb; (try clear hb)) | ((with_reducible refine gate_dst (N := 12) rfl ?_); refine be 12 26 #[.int .i64 0, .int .i64 0] ?_; intro gb1136 hg w47 hbox hb; replace HO1117 := rb HO1117 hb; replace HO1124 := rb HO1124 hb; have BK1136 := m0 hbox; have GW1136 := m0 (bg (n := w.heap.size) hg); have GE1136 := m0 (bg (n := w.heap.size) hg); replace HB := sb HB hb; have NB1121_1136 := nl BK1121 hg; have NB1136_1121 := ng (nl BK1121 hg); replace BK1121 := bb BK1121 hb; have NB1128_1136 := nl BK1128 hg; have NB1136_1128 := ng (nl BK1128 hg); replace BK1128 := bb BK1128 hb; clear hb hbox hg; have hnb48 := NB1136_1121.out; have hnc48 := NB1121_1136.out; have hnb49 := NB1136_1128.out; have hnc49 := NB1128_1136.out; obtain ⟨hcz50_0, hcz50_1, hfz50_0, hfz50_1⟩ := b2 BK1136; have hnb51 := NB1121_1128.out; have hnc51 := NB1128_1121.out; obtain ⟨hcz52_0, hcz52_1, hfz52_0, hfz52_1⟩ := b2 BK1121))
                  go_meet
                  case rel => exact ⟨_, H', ⟨by first | omega | exact Nat.le_refl _⟩, ⟨bq BK1121.out⟩, ⟨bq BK1128.out⟩, ⟨bz⟩⟩
              · rw [if_neg c33] at H
                have c33b0 := beq_eq_false_iff_ne.mpr c33
                have c33b1 := bne_iff_ne.mpr c33
                (first | rw [c33b0] | (simp only [i64_w, i32_w]; rw [c33b0]) | skip)
                obtain rfl := Option.some.inj H
                go_wp2_with (first | ((with_reducible refine gate_callee (f := 61) rfl ?_); refine gl (some 68) Tryd.func61 #[.slice A0 l0.length c0] ?_; (with_reducible refine (Rf_Peak.calls k _ _ l0 t1131 _ ?side1 ?side2 A29.out).mono ?_); (case side1 => exact Kd.C_below HR0.out bz); (case side2 => exact HC0.out); rintro e w53 ⟨rfl, hb⟩; refine ⟨_, rfl, ?_⟩; replace HO1117 := m0 (Kd.R_below (by (with_reducible repeat (first | apply Kd.R_alloc | apply Kd.R_drewN | apply Kd.R_drew)); exact (Kd.R_mono (Kd.R_far (p := ⟨gb1128, 1, none⟩) (Kd.R_far (p := ⟨gb1128, 0, none⟩) (Kd.R_types HO1117.out BK1128.out (by decide)) (fun _ hk => hk.2) (.int .i64 t1125)) (fun _ hk => hk.2) (.int .i64 t1126)) (fun _ h_ => h_.1))) hb); replace HO1124 := m0 (Kd.R_below (by (with_reducible repeat (first | apply Kd.R_alloc | apply Kd.R_drewN | apply Kd.R_drew)); exact (Kd.R_mono (Kd.R_far (p := ⟨gb1128, 1, none⟩) (Kd.R_far (p := ⟨gb1128, 0, none⟩) (Kd.R_types HO1124.out BK1128.out (by decide)) (fun _ hk => hk.2) (.int .i64 t1125)) (fun _ hk => hk.2) (.int .i64 t1126)) (fun _ h_ => h_.1))) hb); replace BK1121 := m0 (blk_below (g := gb1121) (o := .cells #[.int .i64 t1118, .int .i64 t1119] 26 (0, 0)) (bq BK1121.out) hb); replace BK1128 := m0 (blk_below (g := gb1128) (o := .cells #[.int .i64 t1125, .int .i64 t1126] 26 (0, 0)) (bq BK1128.out) hb); replace HB := sb HB hb; (try clear hb)) | ((with_reducible refine gate_callee (f := 61) rfl ?_); refine gl (some 72) Tryd.func61 #[.slice A0 l0.length c0] ?_; (with_reducible refine (Rf_Peak.calls k _ _ l0 t1132 _ ?side1 ?side2 A30.out).mono ?_); (case side1 => exact cb HR0 HB); (case side2 => exact HC0.out); rintro e w54 ⟨rfl, hb⟩; refine ⟨_, rfl, ?_⟩; replace HO1117 := rb HO1117 hb; replace HO1124 := rb HO1124 hb; replace BK1121 := bb BK1121 hb; replace BK1128 := bb BK1128 hb; replace HB := sb HB hb; (try clear hb)) | ((with_reducible refine gate_callee (f := 60) rfl ?_); refine gl (some 75) Tryd.func60 #[.slice A0 l0.length c0, .int .i64 (wrap64 (t1131 - a1)), .int .i64 (wrap64 (t1132 + a1))] ?_; (with_reducible refine (Rf_Centroid.calls k _ _ l0 (wrap64 (t1131 - a1)) (wrap64 (t1132 + a1)) t1133 t1134 true _ ?side1 ?side2 A31.out).mono ?_); (case side1 => exact cb HR0 HB); (case side2 => exact HC0.out); rintro e w55 ⟨rfl, hb⟩; refine ⟨_, rfl, ?_⟩; replace HO1117 := rb HO1117 hb; replace HO1124 := rb HO1124 hb; replace BK1121 := bb BK1121 hb; replace BK1128 := bb BK1128 hb; replace HB := sb HB hb; (try clear hb)) | ((with_reducible refine gate_dst (N := 12) rfl ?_); refine be 12 26 #[.int .i64 0, .int .i64 0] ?_; intro gb1136 hg w56 hbox hb; replace HO1117 := rb HO1117 hb; replace HO1124 := rb HO1124 hb; have BK1136 := m0 hbox; have GW1136 := m0 (bg (n := w.heap.size) hg); have GE1136 := m0 (bg (n := w.heap.size) hg); replace HB := sb HB hb; have NB1121_1136 := nl BK1121 hg; have NB1136_1121 := ng (nl BK1121 hg); replace BK1121 := bb BK1121 hb; have NB1128_1136 := nl BK1128 hg; have NB1136_1128 := ng (nl BK1128 hg); replace BK1128 := bb BK1128 hb; clear hb hbox hg; have hnb57 := NB1136_1121.out; have hnc57 := NB1121_1136.out; have hnb58 := NB1136_1128.out; have hnc58 := NB1128_1136.out; obtain ⟨hcz59_0, hcz59_1, hfz59_0, hfz59_1⟩ := b2 BK1136))
                go_ret
                exact ez
            · replace c32 := Bool.eq_false_iff.mpr c32
              subst c32
              rw [if_neg (show ¬ (false = true) by decide)] at H
              by_cases c60 : t1120 = 11
              · rw [if_pos c60] at H
                have c60b0 := beq_iff_eq.mpr c60
                have c60b1 := bne_eq_false_iff_eq.mpr c60
                clear c60
                by_cases c61 : (!(t1118 == 0) || (!(t1119 == 0))) = true
                · rw [if_pos c61] at H
                  have c61b0 : (!(t1118 == 0) || (!(t1119 == 0))) = true := c61
                  clear c61
                  obtain rfl := Option.some.inj H
                  go_wp2_with (first | ((with_reducible refine gate_callee (f := 61) rfl ?_); refine gl (some 68) Tryd.func61 #[.slice A0 l0.length c0] ?_; (with_reducible refine (Rf_Peak.calls k _ _ l0 t1131 _ ?side1 ?side2 A29.out).mono ?_); (case side1 => exact Kd.C_below HR0.out bz); (case side2 => exact HC0.out); rintro e w62 ⟨rfl, hb⟩; refine ⟨_, rfl, ?_⟩; replace HO1117 := m0 (Kd.R_below (by (with_reducible repeat (first | apply Kd.R_alloc | apply Kd.R_drewN | apply Kd.R_drew)); exact (Kd.R_mono (Kd.R_far (p := ⟨gb1128, 1, none⟩) (Kd.R_far (p := ⟨gb1128, 0, none⟩) (Kd.R_types HO1117.out BK1128.out (by decide)) (fun _ hk => hk.2) (.int .i64 t1125)) (fun _ hk => hk.2) (.int .i64 t1126)) (fun _ h_ => h_.1))) hb); replace HO1124 := m0 (Kd.R_below (by (with_reducible repeat (first | apply Kd.R_alloc | apply Kd.R_drewN | apply Kd.R_drew)); exact (Kd.R_mono (Kd.R_far (p := ⟨gb1128, 1, none⟩) (Kd.R_far (p := ⟨gb1128, 0, none⟩) (Kd.R_types HO1124.out BK1128.out (by decide)) (fun _ hk => hk.2) (.int .i64 t1125)) (fun _ hk => hk.2) (.int .i64 t1126)) (fun _ h_ => h_.1))) hb); replace BK1121 := m0 (blk_below (g := gb1121) (o := .cells #[.int .i64 t1118, .int .i64 t1119] 26 (0, 0)) (bq BK1121.out) hb); replace BK1128 := m0 (blk_below (g := gb1128) (o := .cells #[.int .i64 t1125, .int .i64 t1126] 26 (0, 0)) (bq BK1128.out) hb); replace HB := sb HB hb; (try clear hb)) | ((with_reducible refine gate_callee (f := 61) rfl ?_); refine gl (some 72) Tryd.func61 #[.slice A0 l0.length c0] ?_; (with_reducible refine (Rf_Peak.calls k _ _ l0 t1132 _ ?side1 ?side2 A30.out).mono ?_); (case side1 => exact cb HR0 HB); (case side2 => exact HC0.out); rintro e w63 ⟨rfl, hb⟩; refine ⟨_, rfl, ?_⟩; replace HO1117 := rb HO1117 hb; replace HO1124 := rb HO1124 hb; replace BK1121 := bb BK1121 hb; replace BK1128 := bb BK1128 hb; replace HB := sb HB hb; (try clear hb)) | ((with_reducible refine gate_callee (f := 60) rfl ?_); refine gl (some 75) Tryd.func60 #[.slice A0 l0.length c0, .int .i64 (wrap64 (t1131 - a1)), .int .i64 (wrap64 (t1132 + a1))] ?_; (with_reducible refine (Rf_Centroid.calls k _ _ l0 (wrap64 (t1131 - a1)) (wrap64 (t1132 + a1)) t1133 t1134 false _ ?side1 ?side2 A31.out).mono ?_); (case side1 => exact cb HR0 HB); (case side2 => exact HC0.out); rintro e w64 ⟨rfl, hb⟩; refine ⟨_, rfl, ?_⟩; replace HO1117 := rb HO1117 hb; replace HO1124 := rb HO1124 hb; replace BK1121 := bb BK1121 hb; replace BK1128 := bb BK1128 hb; replace HB := sb HB hb; (try clear hb)) | ((with_reducible refine gate_dst (N := 12) rfl ?_); refine be 12 26 #[.int .i64 0, .int .i64 0] ?_; intro gb1136 hg w65 hbox hb; replace HO1117 := rb HO1117 hb; replace HO1124 := rb HO1124 hb; have BK1136 := m0 hbox; have GW1136 := m0 (bg (n := w.heap.size) hg); have GE1136 := m0 (bg (n := w.heap.size) hg); replace HB := sb HB hb; have NB1121_1136 := nl BK1121 hg; have NB1136_1121 := ng (nl BK1121 hg); replace BK1121 := bb BK1121 hb; have NB1128_1136 := nl BK1128 hg; have NB1136_1128 := ng (nl BK1128 hg); replace BK1128 := bb BK1128 hb; clear hb hbox hg; have hnb66 := NB1136_1121.out; have hnc66 := NB1121_1136.out; have hnb67 := NB1136_1128.out; have hnc67 := NB1128_1136.out; obtain ⟨hcz68_0, hcz68_1, hfz68_0, hfz68_1⟩ := b2 BK1136; have hnb69 := NB1121_1128.out; have hnc69 := NB1128_1121.out; obtain ⟨hcz70_0, hcz70_1, hfz70_0, hfz70_1⟩ := b2 BK1121))
                  go_ret
                  exact ez
                · rw [if_neg c61] at H
                  have c61b0 : (!(t1118 == 0) || (!(t1119 == 0))) = false := by simpa using c61
                  clear c61
                  have H' := m0 H
                  clear H
                  go_wp2_with (first | ((with_reducible refine gate_callee (f := 61) rfl ?_); refine gl (some 68) Tryd.func61 #[.slice A0 l0.length c0] ?_; (with_reducible refine (Rf_Peak.calls k _ _ l0 t1131 _ ?side1 ?side2 A29.out).mono ?_); (case side1 => exact Kd.C_below HR0.out bz); (case side2 => exact HC0.out); rintro e w71 ⟨rfl, hb⟩; refine ⟨_, rfl, ?_⟩; replace HO1117 := m0 (Kd.R_below (by (with_reducible repeat (first | apply Kd.R_alloc | apply Kd.R_drewN | apply Kd.R_drew)); exact (Kd.R_mono (Kd.R_far (p := ⟨gb1128, 1, none⟩) (Kd.R_far (p := ⟨gb1128, 0, none⟩) (Kd.R_types HO1117.out BK1128.out (by decide)) (fun _ hk => hk.2) (.int .i64 t1125)) (fun _ hk => hk.2) (.int .i64 t1126)) (fun _ h_ => h_.1))) hb); replace HO1124 := m0 (Kd.R_below (by (with_reducible repeat (first | apply Kd.R_alloc | apply Kd.R_drewN | apply Kd.R_drew)); exact (Kd.R_mono (Kd.R_far (p := ⟨gb1128, 1, none⟩) (Kd.R_far (p := ⟨gb1128, 0, none⟩) (Kd.R_types HO1124.out BK1128.out (by decide)) (fun _ hk => hk.2) (.int .i64 t1125)) (fun _ hk => hk.2) (.int .i64 t1126)) (fun _ h_ => h_.1))) hb); replace BK1121 := m0 (blk_below (g := gb1121) (o := .cells #[.int .i64 t1118, .int .i64 t1119] 26 (0, 0)) (bq BK1121.out) hb); replace BK1128 := m0 (blk_below (g := gb1128) (o := .cells #[.int .i64 t1125, .int .i64 t1126] 26 (0, 0)) (bq BK1128.out) hb); replace HB := sb HB hb; (try clear hb)) | ((with_reducible refine gate_callee (f := 61) rfl ?_); refine gl (some 72) Tryd.func61 #[.slice A0 l0.length c0] ?_; (with_reducible refine (Rf_Peak.calls k _ _ l0 t1132 _ ?side1 ?side2 A30.out).mono ?_); (case side1 => exact cb HR0 HB); (case side2 => exact HC0.out); rintro e w72 ⟨rfl, hb⟩; refine ⟨_, rfl, ?_⟩; replace HO1117 := rb HO1117 hb; replace HO1124 := rb HO1124 hb; replace BK1121 := bb BK1121 hb; replace BK1128 := bb BK1128 hb; replace HB := sb HB hb; (try clear hb)) | ((with_reducible refine gate_callee (f := 60) rfl ?_); refine gl (some 75) Tryd.func60 #[.slice A0 l0.length c0, .int .i64 (wrap64 (t1131 - a1)), .int .i64 (wrap64 (t1132 + a1))] ?_; (with_reducible refine (Rf_Centroid.calls k _ _ l0 (wrap64 (t1131 - a1)) (wrap64 (t1132 + a1)) t1133 t1134 false _ ?side1 ?side2 A31.out).mono ?_); (case side1 => exact cb HR0 HB); (case side2 => exact HC0.out); rintro e w73 ⟨rfl, hb⟩; refine ⟨_, rfl, ?_⟩; replace HO1117 := rb HO1117 hb; replace HO1124 := rb HO1124 hb; replace BK1121 := bb BK1121 hb; replace BK1128 := bb BK1128 hb; replace HB := sb HB hb; (try clear hb)) | ((with_reducible refine gate_dst (N := 12) rfl ?_); refine be 12 26 #[.int .i64 0, .int .i64 0] ?_; intro gb1136 hg w74 hbox hb; replace HO1117 := rb HO1117 hb; replace HO1124 := rb HO1124 hb; have BK1136 := m0 hbox; have GW1136 := m0 (bg (n := w.heap.size) hg); have GE1136 := m0 (bg (n := w.heap.size) hg); replace HB := sb HB hb; have NB1121_1136 := nl BK1121 hg; have NB1136_1121 := ng (nl BK1121 hg); replace BK1121 := bb BK1121 hb; have NB1128_1136 := nl BK1128 hg; have NB1136_1128 := ng (nl BK1128 hg); replace BK1128 := bb BK1128 hb; clear hb hbox hg; have hnb75 := NB1136_1121.out; have hnc75 := NB1121_1136.out; have hnb76 := NB1136_1128.out; have hnc76 := NB1128_1136.out; obtain ⟨hcz77_0, hcz77_1, hfz77_0, hfz77_1⟩ := b2 BK1136; have hnb78 := NB1121_1128.out; have hnc78 := NB1128_1121.out; obtain ⟨hcz79_0, hcz79_1, hfz79_0, hfz79_1⟩ := b2 BK1121))
                  go_meet
                  case rel => exact ⟨_, H', ⟨by first | omega | exact Nat.le_refl _⟩, ⟨bq BK1121.out⟩, ⟨bq BK1128.out⟩, ⟨bz⟩⟩
              · rw [if_neg c60] at H
                have c60b0 := beq_eq_false_iff_ne.mpr c60
                have c60b1 := bne_iff_ne.mpr c60
                obtain rfl := Option.some.inj H
                go_wp2_with (first | ((with_reducible refine gate_callee (f := 61) rfl ?_); refine gl (some 68) Tryd.func61 #[.slice A0 l0.length c0] ?_; (with_reducible refine (Rf_Peak.calls k _ _ l0 t1131 _ ?side1 ?side2 A29.out).mono ?_); (case side1 => exact Kd.C_below HR0.out bz); (case side2 => exact HC0.out); rintro e w80 ⟨rfl, hb⟩; refine ⟨_, rfl, ?_⟩; replace HO1117 := m0 (Kd.R_below (by (with_reducible repeat (first | apply Kd.R_alloc | apply Kd.R_drewN | apply Kd.R_drew)); exact (Kd.R_mono (Kd.R_far (p := ⟨gb1128, 1, none⟩) (Kd.R_far (p := ⟨gb1128, 0, none⟩) (Kd.R_types HO1117.out BK1128.out (by decide)) (fun _ hk => hk.2) (.int .i64 t1125)) (fun _ hk => hk.2) (.int .i64 t1126)) (fun _ h_ => h_.1))) hb); replace HO1124 := m0 (Kd.R_below (by (with_reducible repeat (first | apply Kd.R_alloc | apply Kd.R_drewN | apply Kd.R_drew)); exact (Kd.R_mono (Kd.R_far (p := ⟨gb1128, 1, none⟩) (Kd.R_far (p := ⟨gb1128, 0, none⟩) (Kd.R_types HO1124.out BK1128.out (by decide)) (fun _ hk => hk.2) (.int .i64 t1125)) (fun _ hk => hk.2) (.int .i64 t1126)) (fun _ h_ => h_.1))) hb); replace BK1121 := m0 (blk_below (g := gb1121) (o := .cells #[.int .i64 t1118, .int .i64 t1119] 26 (0, 0)) (bq BK1121.out) hb); replace BK1128 := m0 (blk_below (g := gb1128) (o := .cells #[.int .i64 t1125, .int .i64 t1126] 26 (0, 0)) (bq BK1128.out) hb); replace HB := sb HB hb; (try clear hb)) | ((with_reducible refine gate_callee (f := 61) rfl ?_); refine gl (some 72) Tryd.func61 #[.slice A0 l0.length c0] ?_; (with_reducible refine (Rf_Peak.calls k _ _ l0 t1132 _ ?side1 ?side2 A30.out).mono ?_); (case side1 => exact cb HR0 HB); (case side2 => exact HC0.out); rintro e w81 ⟨rfl, hb⟩; refine ⟨_, rfl, ?_⟩; replace HO1117 := rb HO1117 hb; replace HO1124 := rb HO1124 hb; replace BK1121 := bb BK1121 hb; replace BK1128 := bb BK1128 hb; replace HB := sb HB hb; (try clear hb)) | ((with_reducible refine gate_callee (f := 60) rfl ?_); refine gl (some 75) Tryd.func60 #[.slice A0 l0.length c0, .int .i64 (wrap64 (t1131 - a1)), .int .i64 (wrap64 (t1132 + a1))] ?_; (with_reducible refine (Rf_Centroid.calls k _ _ l0 (wrap64 (t1131 - a1)) (wrap64 (t1132 + a1)) t1133 t1134 false _ ?side1 ?side2 A31.out).mono ?_); (case side1 => exact cb HR0 HB); (case side2 => exact HC0.out); rintro e w82 ⟨rfl, hb⟩; refine ⟨_, rfl, ?_⟩; replace HO1117 := rb HO1117 hb; replace HO1124 := rb HO1124 hb; replace BK1121 := bb BK1121 hb; replace BK1128 := bb BK1128 hb; replace HB := sb HB hb; (try clear hb)) | ((with_reducible refine gate_dst (N := 12) rfl ?_); refine be 12 26 #[.int .i64 0, .int .i64 0] ?_; intro gb1136 hg w83 hbox hb; replace HO1117 := rb HO1117 hb; replace HO1124 := rb HO1124 hb; have BK1136 := m0 hbox; have GW1136 := m0 (bg (n := w.heap.size) hg); have GE1136 := m0 (bg (n := w.heap.size) hg); replace HB := sb HB hb; have NB1121_1136 := nl BK1121 hg; have NB1136_1121 := ng (nl BK1121 hg); replace BK1121 := bb BK1121 hb; have NB1128_1136 := nl BK1128 hg; have NB1136_1128 := ng (nl BK1128 hg); replace BK1128 := bb BK1128 hb; clear hb hbox hg; have hnb84 := NB1136_1121.out; have hnc84 := NB1121_1136.out; have hnb85 := NB1136_1128.out; have hnc85 := NB1128_1136.out; obtain ⟨hcz86_0, hcz86_1, hfz86_0, hfz86_1⟩ := b2 BK1136))
                go_ret
                exact ez
          · replace c28 := Bool.eq_false_iff.mpr c28
            subst c28
            rw [if_neg (show ¬ (false = true) by decide)] at H
            by_cases c87 : t1120 = 2
            · rw [if_pos c87] at H
              have c87b0 := beq_iff_eq.mpr c87
              have c87b1 := bne_eq_false_iff_eq.mpr c87
              clear c87
              by_cases c88 : (!(t1118 == 0) || (!(t1119 == 0))) = true
              · rw [if_pos c88] at H
                have c88b0 : (!(t1118 == 0) || (!(t1119 == 0))) = true := c88
                clear c88
                obtain rfl := Option.some.inj H
                have hnb89 := NB1121_1128.out
                have hnc89 := NB1128_1121.out
                obtain ⟨hcz90_0, hcz90_1, hfz90_0, hfz90_1⟩ := b2 BK1121
                go_wp2
                go_ret
                exact ez
              · rw [if_neg c88] at H
                have c88b0 : (!(t1118 == 0) || (!(t1119 == 0))) = false := by simpa using c88
                clear c88
                have H' := m0 H
                clear H
                have hnb91 := NB1121_1128.out
                have hnc91 := NB1128_1121.out
                obtain ⟨hcz92_0, hcz92_1, hfz92_0, hfz92_1⟩ := b2 BK1121
                go_wp2
                go_meet
                case rel => exact ⟨_, H', ⟨by first | omega | exact Nat.le_refl _⟩, ⟨bq BK1121.out⟩, ⟨bq BK1128.out⟩, ⟨bz⟩⟩
            · rw [if_neg c87] at H
              have c87b0 := beq_eq_false_iff_ne.mpr c87
              have c87b1 := bne_iff_ne.mpr c87
              obtain rfl := Option.some.inj H
              go_wp2
              go_ret
              exact ez
        case rest =>
          clear HC15
          try clear c1
          try clear c2
          try clear p2
          try clear c3
          try clear c4
          try clear c5
          try clear c6
          try clear p6
          try clear c7
          try clear c8
          try clear c9
          try clear c13
          try clear c13b0
          try clear c13b1
          try clear c18
          try clear c26
          try clear c28
          try clear c30
          try clear c31
          try clear c32
          try clear c33
          try clear c33b0
          try clear c33b1
          try clear c34
          try clear c34b0
          try clear c39
          try clear c40
          try clear c42
          try clear c48
          try clear c49
          try clear c50
          try clear c51
          try clear c57
          try clear c58
          try clear c59
          try clear c60
          try clear c60b0
          try clear c60b1
          try clear c61
          try clear c61b0
          try clear p64
          try clear c66
          try clear c67
          try clear c69
          try clear c75
          try clear c76
          try clear c78
          try clear c84
          try clear c85
          try clear c87
          try clear c87b0
          try clear c87b1
          try clear c88
          try clear c88b0
          try clear c89
          try clear c91
          try clear hcz21_0
          try clear hcz21_1
          try clear hcz27_0
          try clear hcz27_1
          try clear hcz41_0
          try clear hcz41_1
          try clear hcz43_0
          try clear hcz43_1
          try clear hcz50_0
          try clear hcz50_1
          try clear hcz52_0
          try clear hcz52_1
          try clear hcz59_0
          try clear hcz59_1
          try clear hcz68_0
          try clear hcz68_1
          try clear hcz70_0
          try clear hcz70_1
          try clear hcz77_0
          try clear hcz77_1
          try clear hcz79_0
          try clear hcz79_1
          try clear hcz86_0
          try clear hcz86_1
          try clear hcz90_0
          try clear hcz90_1
          try clear hcz92_0
          try clear hcz92_1
          try clear hfz21_0
          try clear hfz21_1
          try clear hfz27_0
          try clear hfz27_1
          try clear hfz41_0
          try clear hfz41_1
          try clear hfz43_0
          try clear hfz43_1
          try clear hfz50_0
          try clear hfz50_1
          try clear hfz52_0
          try clear hfz52_1
          try clear hfz59_0
          try clear hfz59_1
          try clear hfz68_0
          try clear hfz68_1
          try clear hfz70_0
          try clear hfz70_1
          try clear hfz77_0
          try clear hfz77_1
          try clear hfz79_0
          try clear hfz79_1
          try clear hfz86_0
          try clear hfz86_1
          try clear hfz90_0
          try clear hfz90_1
          try clear hfz92_0
          try clear hfz92_1
          obtain ⟨kq, HA, HJ14, BK1121, BK1128, HB⟩ := hcut
          cases kq with
          | zero => exact absurd HA.out (by simp [Lw_LineEstimates.j0])
          | succ kj14 =>
            have H := HA.out
            clear HA
            simp only [Lw_LineEstimates.j0] at H
            replace H := ob H
            obtain ⟨t1137, A930, H⟩ := H
            (try dsimp only at H)
            have A93 := m0 A930
            clear A930
            by_cases c94 : t1137 = 0
            · rw [if_pos c94] at H
              have c94b0 := beq_iff_eq.mpr c94
              have c94b1 := bne_eq_false_iff_eq.mpr c94
              clear c94
              by_cases c95 : t1127 = 0
              · rw [if_pos c95] at H
                have c95b0 := beq_iff_eq.mpr c95
                have c95b1 := bne_eq_false_iff_eq.mpr c95
                clear c95
                replace H := ob H
                obtain ⟨⟨t1138, t1139⟩, A960, H⟩ := H
                (try dsimp only at H)
                have A96 := m0 A960
                clear A960
                obtain rfl := Option.some.inj H
                try go_wp2_with (first | ((with_reducible refine gate_callee (f := 24) rfl ?_); refine gl (some 102) Tryd.func24 #[.int .i64 a2] ?_; (with_reducible refine (Rf_KindErr.calls a2 t1137 _ A93.out).mono ?_); rintro e w' ⟨rfl, ⟨nd, rfl⟩⟩; refine ⟨_, rfl, ?_⟩))
                (try (rw [drewN_self wc]; generalize hq_ : World.drewN wc _ = wc; replace BK1121 := gd BK1121 hq_; replace BK1128 := gd BK1128 hq_; replace HB := gs HB hq_; clear hq_))
                replace BK1121 := bd BK1121; replace BK1128 := bd BK1128; replace HB := sd HB
                refine start_ (n := 10) (S := fun w' => w'.cell? ⟨gb1128, 0, none⟩ = some (.int .i64 t1125) ∧ w'.cell? ⟨gb1128, 1, none⟩ = some (.int .i64 t1126)) (ds := []) #[false, false, false, false, false, false, false, false, false, false] (by kernel_rfl) rfl rfl cz (fun hHeld => ?_); refine with_tabW Lw_LineEstimates.tab19 Lw_LineEstimates.bits19 (fun HT_ HW_ => ?_)
                generalize wc.drew = w97 at BK1121 BK1128 HB hHeld ⊢
                refine pureZ (i := 0) (N := some 113) #[true, false, false, false, false, false, false, false, false, false] HT_ ?_
                refine pureZ (i := 1) (N := some 114) #[true, true, false, false, false, false, false, false, false, false] HT_ ?_
                refine pureZ (i := 2) (N := some 115) #[true, true, true, false, false, false, false, false, false, false] HT_ ?_
                refine pureZ (i := 4) (N := some 117) #[true, true, true, false, true, false, false, false, false, false] HT_ ?_
                refine pureZ (i := 5) (N := some 118) #[true, true, true, false, true, true, false, false, false, false] HT_ ?_
                refine takeZ 3 (some 116) #[true, true, true, true, true, true, false, false, false, false] (take_ofW HT_.out HW_.out (by kernel_rfl)) hHeld ?_
                refine oneZ 6 (some 119) #[true, true, true, true, true, true, true, false, false, false] (one_of HT_.out (by kernel_rfl)) fun K hK => ?_
                refine goes_ Tryd.func62 (by kernel_rfl) rfl #[.slice A0 l0.length c0, .int .i64 a2] (by rfl) rfl rfl mz ?_
                with_reducible refine (Rf_Estimate.calls kj14 _ _ l0 a2 t1138 t1139 _ ?side1 ?side2 A96.out).mono ?_
                (case side1 => exact cb HR0 HB)
                (case side2 => exact HC0.out)
                rintro e w98 ⟨rfl, hb⟩
                refine ⟨_, rfl, ?_⟩
                replace BK1121 := bb BK1121 hb; replace BK1128 := bb BK1128 hb; replace HB := sb HB hb
                (try clear hb)
                refine hK.out _ _ cz (fun hHeld => ?_)
                clear hK K
                refine norm_ (a' := ?_) ?_ ?_
                rotate_left
                · show Act.put _ (some 119) _ = _
                  exact pz
                refine pureZ (i := 7) (N := some 120) #[true, true, true, true, true, true, true, true, false, false] HT_ ?_
                refine pureZ (i := 8) (N := some 121) #[true, true, true, true, true, true, true, true, true, false] HT_ ?_
                refine pureZ (i := 9) (N := some 6) #[true, true, true, true, true, true, true, true, true, true] HT_ ?_
                refine done_ (done_of HT_.out (by kernel_rfl)) ?_
                try go_wp2
                go_ret
                exact ez
              · rw [if_neg c95] at H
                have c95b0 := beq_eq_false_iff_ne.mpr c95
                have c95b1 := bne_iff_ne.mpr c95
                obtain rfl := Option.some.inj H
                try go_wp2_with (first | ((with_reducible refine gate_callee (f := 24) rfl ?_); refine gl (some 102) Tryd.func24 #[.int .i64 a2] ?_; (with_reducible refine (Rf_KindErr.calls a2 t1137 _ A93.out).mono ?_); rintro e w' ⟨rfl, ⟨nd, rfl⟩⟩; refine ⟨_, rfl, ?_⟩))
                (try (rw [drewN_self wc]; generalize hq_ : World.drewN wc _ = wc; replace BK1121 := gd BK1121 hq_; replace BK1128 := gd BK1128 hq_; replace HB := gs HB hq_; clear hq_))
                replace BK1121 := bd BK1121; replace BK1128 := bd BK1128; replace HB := sd HB
                refine start_ (n := 10) (S := fun w' => True) (ds := []) #[false, false, false, false, false, false, false, false, false, false] (by kernel_rfl) rfl rfl trivial (fun hHeld => ?_); refine with_tabW Lw_LineEstimates.tab19 Lw_LineEstimates.bits19 (fun HT_ HW_ => ?_)
                generalize wc.drew = w99 at BK1121 BK1128 HB hHeld ⊢
                refine pureZ (i := 0) (N := some 113) #[true, false, false, false, false, false, false, false, false, false] HT_ ?_
                refine pureZ (i := 1) (N := some 114) #[true, true, false, false, false, false, false, false, false, false] HT_ ?_
                refine pureZ (i := 2) (N := some 115) #[true, true, true, false, false, false, false, false, false, false] HT_ ?_
                refine pure_ (i := 3) (N := some 116) (v := undef) (a' := ?_) #[true, true, true, true, false, false, false, false, false, false] rfl rfl (any_of HT_.out (by kernel_rfl)) (fun _ _ _ h => h) (Or.inr ⟨by rfl, rfl⟩) ?_ ?_
                rotate_left
                · exact pz
                refine pure_ (i := 4) (N := some 117) (v := undef) (a' := ?_) #[true, true, true, true, true, false, false, false, false, false] rfl rfl (any_of HT_.out (by kernel_rfl)) (fun _ _ _ h => h) (Or.inr ⟨by rfl, rfl⟩) ?_ ?_
                rotate_left
                · exact pz
                refine pure_ (i := 5) (N := some 118) (v := undef) (a' := ?_) #[true, true, true, true, true, true, false, false, false, false] rfl rfl (any_of HT_.out (by kernel_rfl)) (fun _ _ _ h => h) (Or.inr ⟨by rfl, rfl⟩) ?_ ?_
                rotate_left
                · exact pz
                refine pure_ (i := 6) (N := some 119) (v := undef) (a' := ?_) #[true, true, true, true, true, true, true, false, false, false] rfl rfl (any_of HT_.out (by kernel_rfl)) (fun _ _ _ h => h) (Or.inr ⟨by rfl, rfl⟩) ?_ ?_
                rotate_left
                · exact pz
                refine pure_ (i := 7) (N := some 120) (v := undef) (a' := ?_) #[true, true, true, true, true, true, true, true, false, false] rfl rfl (any_of HT_.out (by kernel_rfl)) (fun _ _ _ h => h) (Or.inr ⟨by rfl, rfl⟩) ?_ ?_
                rotate_left
                · exact pz
                refine pureZ (i := 8) (N := some 121) #[true, true, true, true, true, true, true, true, true, false] HT_ ?_
                refine pureZ (i := 9) (N := some 6) #[true, true, true, true, true, true, true, true, true, true] HT_ ?_
                refine done_ (done_of HT_.out (by kernel_rfl)) ?_
                try go_wp2
                go_ret
                exact ez
            · rw [if_neg c94] at H
              have c94b0 := beq_eq_false_iff_ne.mpr c94
              have c94b1 := bne_iff_ne.mpr c94
              by_cases c100 : t1127 = t1137
              · rw [if_pos c100] at H
                have c100b0 := beq_iff_eq.mpr c100
                have c100b1 := bne_eq_false_iff_eq.mpr c100
                clear c100
                obtain rfl := Option.some.inj H
                go_wp2_with (first | ((with_reducible refine gate_callee (f := 24) rfl ?_); refine gl (some 102) Tryd.func24 #[.int .i64 a2] ?_; (with_reducible refine (Rf_KindErr.calls a2 t1137 _ A93.out).mono ?_); rintro e w' ⟨rfl, ⟨nd, rfl⟩⟩; refine ⟨_, rfl, ?_⟩; have hnb101 := NB1128_1121.out; have hnc101 := NB1121_1128.out; obtain ⟨_, _, _, _⟩ := b2 BK1128))
                go_ret
                exact ez
              · rw [if_neg c100] at H
                have c100b0 := beq_eq_false_iff_ne.mpr c100
                have c100b1 := bne_iff_ne.mpr c100
                obtain rfl := Option.some.inj H
                go_wp2_with (first | ((with_reducible refine gate_callee (f := 24) rfl ?_); refine gl (some 102) Tryd.func24 #[.int .i64 a2] ?_; (with_reducible refine (Rf_KindErr.calls a2 t1137 _ A93.out).mono ?_); rintro e w' ⟨rfl, ⟨nd, rfl⟩⟩; refine ⟨_, rfl, ?_⟩))
                go_ret
                exact ez
      · rw [if_neg c13] at H
        have c13b0 := beq_eq_false_iff_ne.mpr c13
        have c13b1 := bne_iff_ne.mpr c13
        by_cases c103 : t1120 = t1129
        · rw [if_pos c103] at H
          have c103b0 := beq_iff_eq.mpr c103
          have c103b1 := bne_eq_false_iff_eq.mpr c103
          clear c103
          by_cases c104 : t1127 = t1129
          · rw [if_pos c104] at H
            have c104b0 := beq_iff_eq.mpr c104
            have c104b1 := bne_eq_false_iff_eq.mpr c104
            clear c104
            by_cases c105 : (t1118 == 0 && (t1119 == 0)) = true
            · rw [if_pos c105] at H
              have c105b0 : (t1118 == 0 && (t1119 == 0)) = true := c105
              (try (have c105b1 : decide (t1118 = 0 && (t1119 == 0)) = true := by simpa using c105))
              (try (have c105b2 : (t1118 == 0 && (t1119 == 0)) = true := by simpa using c105))
              clear c105
              obtain rfl := Option.some.inj H
              go_enter Tryd.func9, Tryd.ntmps9
              go_wp2_with (first | ((with_reducible refine gate_callee (f := 18) rfl ?_); refine gl (some 14) Tryd.func18 #[] ?_; (with_reducible refine (Lw_awake.calls k  true _ ?side1 A4.out).mono ?_); (case side1 => exact EstG.below HG.out bz); rintro e w106 ⟨rfl, hb⟩; refine ⟨_, rfl, ?_⟩; replace HB := sb HB hb; (try clear hb)) | ((with_reducible refine gate_callee (f := 50) rfl ?_); refine gl (some 17) Tryd.func50 #[.slice A0 l0.length c0] ?_; (with_reducible refine (Lw_short.calls _ _ l0 true _ ?side1 ?side2 A6.out).mono ?_); (case side1 => exact cb HR0 HB); (case side2 => exact HC0.out); rintro e w' ⟨rfl, ⟨nd, rfl⟩⟩; refine ⟨_, rfl, ?_⟩; (try (rw [drewN_self w106]; generalize hq_ : World.drewN w106 _ = w106; replace HB := gs HB hq_; clear hq_))) | ((with_reducible refine gate_callee (f := 33) rfl ?_); refine gl (some 21) Tryd.func33 #[.slice A0 l0.length c0] ?_; (with_reducible refine (Bs_CopyInts.calls _ _ l0 t1115 _ ?side1 ?side2 A8.out).mono ?_); (case side1 => exact cb HR0 HB); (case side2 => exact HC0.out); rintro e w107 ⟨v1116, rfl, ho0, hb⟩; refine ⟨_, rfl, ?_⟩; have HO1117 := m0 (Kd.R_lower ho0 (below_size bz)); replace HB := sb HB hb; (try clear hb); (try clear ho0); obtain ⟨Ao108, co108, eo108⟩ := Kd.R_slice HO1117.out; subst eo108) | ((with_reducible refine gate_callee (f := 59) rfl ?_); refine gl (some 23) Tryd.func59 #[.slice Ao108 t1115.length co108, .int .i64 a1] ?_; (with_reducible refine (line_CentroidIn.calls k _ _ t1115 a1 t1118 t1119 t1120 _ ?side1 ?side2 A9.out).mono ?_); (case side1 => exact bc (Kd.R_reads' HO1117.out).2.2); (case side2 => exact (Kd.R_reads' HO1117.out).2.1); rintro e w109 ⟨rfl, hb⟩; refine ⟨_, rfl, ?_⟩; replace HO1117 := rb HO1117 hb; replace HB := sb HB hb; (try clear hb)) | ((with_reducible refine gate_dst (N := 7) rfl ?_); refine be 7 26 #[.int .i64 0, .int .i64 0] ?_; intro gb1121 hg w110 hbox hb; replace HO1117 := rb HO1117 hb; have BK1121 := m0 hbox; have GW1121 := m0 (bg (n := w.heap.size) hg); have GE1121 := m0 (bg (n := w.heap.size) hg); replace HB := sb HB hb; clear hb hbox hg; obtain ⟨_, _, _, _⟩ := b2 BK1121) | ((with_reducible refine gate_callee (f := 33) rfl ?_); refine gl (some 28) Tryd.func33 #[.slice A0 l0.length c0] ?_; (with_reducible refine (Bs_CopyInts.calls _ _ l0 t1122 _ ?side1 ?side2 A10.out).mono ?_); (case side1 => exact Kd.C_below HR0.out bz); (case side2 => exact HC0.out); rintro e w112 ⟨v1123, rfl, ho0, hb⟩; refine ⟨_, rfl, ?_⟩; have HO1124 := m0 (Kd.R_lower (Kd.R_new' ho0 (Kd.R_lt (by (with_reducible repeat (first | apply Kd.R_alloc | apply Kd.R_drewN | apply Kd.R_drew)); exact (Kd.R_mono (Kd.R_far (p := ⟨gb1121, 1, none⟩) (Kd.R_far (p := ⟨gb1121, 0, none⟩) (Kd.R_types HO1117.out BK1121.out (by decide)) (fun _ hk => hk.2) (.int .i64 t1118)) (fun _ hk => hk.2) (.int .i64 t1119)) (fun _ h_ => h_.1))))) (below_size bz)); replace HO1117 := m0 (Kd.R_elder' (by (with_reducible repeat (first | apply Kd.R_alloc | apply Kd.R_drewN | apply Kd.R_drew)); exact (Kd.R_mono (Kd.R_far (p := ⟨gb1121, 1, none⟩) (Kd.R_far (p := ⟨gb1121, 0, none⟩) (Kd.R_types HO1117.out BK1121.out (by decide)) (fun _ hk => hk.2) (.int .i64 t1118)) (fun _ hk => hk.2) (.int .i64 t1119)) (fun _ h_ => h_.1))) (Kd.R_base ho0) hb); replace BK1121 := m0 (blk_below (g := gb1121) (o := .cells #[.int .i64 t1118, .int .i64 t1119] 26 (0, 0)) (bq BK1121.out) hb); replace HB := sb HB hb; (try clear hb); (try clear ho0); obtain ⟨Ao113, co113, eo113⟩ := Kd.R_slice HO1124.out; subst eo113) | ((with_reducible refine gate_callee (f := 34) rfl ?_); refine gl (some 30) Tryd.func34 #[.slice Ao113 t1122.length co113, .int .i64 a2] ?_; (with_reducible refine (line_Estimated.calls k _ _ t1122 a2 t1125 t1126 t1127 _ ?side1 ?side2 ?side3 A11.out).mono ?_); (case side1 => exact bc (Kd.R_reads' HO1124.out).2.2); (case side2 => exact (Kd.R_reads' HO1124.out).2.1); (case side3 => exact EstG.below HG.out bz); rintro e w114 ⟨rfl, hb⟩; refine ⟨_, rfl, ?_⟩; replace HO1117 := rb HO1117 hb; replace HO1124 := rb HO1124 hb; replace BK1121 := bb BK1121 hb; replace HB := sb HB hb; (try clear hb)) | ((with_reducible refine gate_dst (N := 9) rfl ?_); refine be 9 26 #[.int .i64 0, .int .i64 0] ?_; intro gb1128 hg w115 hbox hb; replace HO1117 := rb HO1117 hb; replace HO1124 := rb HO1124 hb; have BK1128 := m0 hbox; have GW1128 := m0 (bg (n := w.heap.size) hg); have GE1128 := m0 (bg (n := w.heap.size) hg); replace HB := sb HB hb; have NB1121_1128 := nl BK1121 hg; have NB1128_1121 := ng (nl BK1121 hg); replace BK1121 := bb BK1121 hb; clear hb hbox hg; have hnb116 := NB1128_1121.out; have hnc116 := NB1121_1128.out; obtain ⟨_, _, _, _⟩ := b2 BK1128) | ((with_reducible refine gate_callee (f := 30) rfl ?_); refine gl (some 34) Tryd.func30 #[.slice A0 l0.length c0] ?_; (with_reducible refine (Rf_SpectrumErr.calls k _ _ l0 t1129 _ ?side1 ?side2 A12.out).mono ?_); (case side1 => exact Kd.C_below HR0.out bz); (case side2 => exact HC0.out); rintro e w' ⟨rfl, ⟨nd, rfl⟩⟩; refine ⟨_, rfl, ?_⟩; obtain ⟨_, _, _, _⟩ := b2 BK1121))
              go_ret
              exact ez
            · rw [if_neg c105] at H
              have c105b0 : (t1118 == 0 && (t1119 == 0)) = false := by simpa using c105
              (try (have c105b1 : decide (t1118 = 0 && (t1119 == 0)) = false := by simpa using c105))
              (try (have c105b2 : (t1118 == 0 && (t1119 == 0)) = false := by simpa using c105))
              (try (have c105b3 : ¬ (t1118 = 0 && (t1119 == 0)) := by simpa using c105))
              clear c105
              obtain rfl := Option.some.inj H
              go_enter Tryd.func9, Tryd.ntmps9
              go_wp2_with (first | ((with_reducible refine gate_callee (f := 18) rfl ?_); refine gl (some 14) Tryd.func18 #[] ?_; (with_reducible refine (Lw_awake.calls k  true _ ?side1 A4.out).mono ?_); (case side1 => exact EstG.below HG.out bz); rintro e w119 ⟨rfl, hb⟩; refine ⟨_, rfl, ?_⟩; replace HB := sb HB hb; (try clear hb)) | ((with_reducible refine gate_callee (f := 50) rfl ?_); refine gl (some 17) Tryd.func50 #[.slice A0 l0.length c0] ?_; (with_reducible refine (Lw_short.calls _ _ l0 true _ ?side1 ?side2 A6.out).mono ?_); (case side1 => exact cb HR0 HB); (case side2 => exact HC0.out); rintro e w' ⟨rfl, ⟨nd, rfl⟩⟩; refine ⟨_, rfl, ?_⟩; (try (rw [drewN_self w119]; generalize hq_ : World.drewN w119 _ = w119; replace HB := gs HB hq_; clear hq_))) | ((with_reducible refine gate_callee (f := 33) rfl ?_); refine gl (some 21) Tryd.func33 #[.slice A0 l0.length c0] ?_; (with_reducible refine (Bs_CopyInts.calls _ _ l0 t1115 _ ?side1 ?side2 A8.out).mono ?_); (case side1 => exact cb HR0 HB); (case side2 => exact HC0.out); rintro e w120 ⟨v1116, rfl, ho0, hb⟩; refine ⟨_, rfl, ?_⟩; have HO1117 := m0 (Kd.R_lower ho0 (below_size bz)); replace HB := sb HB hb; (try clear hb); (try clear ho0); obtain ⟨Ao121, co121, eo121⟩ := Kd.R_slice HO1117.out; subst eo121) | ((with_reducible refine gate_callee (f := 59) rfl ?_); refine gl (some 23) Tryd.func59 #[.slice Ao121 t1115.length co121, .int .i64 a1] ?_; (with_reducible refine (line_CentroidIn.calls k _ _ t1115 a1 t1118 t1119 t1120 _ ?side1 ?side2 A9.out).mono ?_); (case side1 => exact bc (Kd.R_reads' HO1117.out).2.2); (case side2 => exact (Kd.R_reads' HO1117.out).2.1); rintro e w122 ⟨rfl, hb⟩; refine ⟨_, rfl, ?_⟩; replace HO1117 := rb HO1117 hb; replace HB := sb HB hb; (try clear hb)) | ((with_reducible refine gate_dst (N := 7) rfl ?_); refine be 7 26 #[.int .i64 0, .int .i64 0] ?_; intro gb1121 hg w123 hbox hb; replace HO1117 := rb HO1117 hb; have BK1121 := m0 hbox; have GW1121 := m0 (bg (n := w.heap.size) hg); have GE1121 := m0 (bg (n := w.heap.size) hg); replace HB := sb HB hb; clear hb hbox hg; obtain ⟨_, _, _, _⟩ := b2 BK1121) | ((with_reducible refine gate_callee (f := 33) rfl ?_); refine gl (some 28) Tryd.func33 #[.slice A0 l0.length c0] ?_; (with_reducible refine (Bs_CopyInts.calls _ _ l0 t1122 _ ?side1 ?side2 A10.out).mono ?_); (case side1 => exact Kd.C_below HR0.out bz); (case side2 => exact HC0.out); rintro e w125 ⟨v1123, rfl, ho0, hb⟩; refine ⟨_, rfl, ?_⟩; have HO1124 := m0 (Kd.R_lower (Kd.R_new' ho0 (Kd.R_lt (by (with_reducible repeat (first | apply Kd.R_alloc | apply Kd.R_drewN | apply Kd.R_drew)); exact (Kd.R_mono (Kd.R_far (p := ⟨gb1121, 1, none⟩) (Kd.R_far (p := ⟨gb1121, 0, none⟩) (Kd.R_types HO1117.out BK1121.out (by decide)) (fun _ hk => hk.2) (.int .i64 t1118)) (fun _ hk => hk.2) (.int .i64 t1119)) (fun _ h_ => h_.1))))) (below_size bz)); replace HO1117 := m0 (Kd.R_elder' (by (with_reducible repeat (first | apply Kd.R_alloc | apply Kd.R_drewN | apply Kd.R_drew)); exact (Kd.R_mono (Kd.R_far (p := ⟨gb1121, 1, none⟩) (Kd.R_far (p := ⟨gb1121, 0, none⟩) (Kd.R_types HO1117.out BK1121.out (by decide)) (fun _ hk => hk.2) (.int .i64 t1118)) (fun _ hk => hk.2) (.int .i64 t1119)) (fun _ h_ => h_.1))) (Kd.R_base ho0) hb); replace BK1121 := m0 (blk_below (g := gb1121) (o := .cells #[.int .i64 t1118, .int .i64 t1119] 26 (0, 0)) (bq BK1121.out) hb); replace HB := sb HB hb; (try clear hb); (try clear ho0); obtain ⟨Ao126, co126, eo126⟩ := Kd.R_slice HO1124.out; subst eo126) | ((with_reducible refine gate_callee (f := 34) rfl ?_); refine gl (some 30) Tryd.func34 #[.slice Ao126 t1122.length co126, .int .i64 a2] ?_; (with_reducible refine (line_Estimated.calls k _ _ t1122 a2 t1125 t1126 t1127 _ ?side1 ?side2 ?side3 A11.out).mono ?_); (case side1 => exact bc (Kd.R_reads' HO1124.out).2.2); (case side2 => exact (Kd.R_reads' HO1124.out).2.1); (case side3 => exact EstG.below HG.out bz); rintro e w127 ⟨rfl, hb⟩; refine ⟨_, rfl, ?_⟩; replace HO1117 := rb HO1117 hb; replace HO1124 := rb HO1124 hb; replace BK1121 := bb BK1121 hb; replace HB := sb HB hb; (try clear hb)) | ((with_reducible refine gate_dst (N := 9) rfl ?_); refine be 9 26 #[.int .i64 0, .int .i64 0] ?_; intro gb1128 hg w128 hbox hb; replace HO1117 := rb HO1117 hb; replace HO1124 := rb HO1124 hb; have BK1128 := m0 hbox; have GW1128 := m0 (bg (n := w.heap.size) hg); have GE1128 := m0 (bg (n := w.heap.size) hg); replace HB := sb HB hb; have NB1121_1128 := nl BK1121 hg; have NB1128_1121 := ng (nl BK1121 hg); replace BK1121 := bb BK1121 hb; clear hb hbox hg; have hnb129 := NB1128_1121.out; have hnc129 := NB1121_1128.out; obtain ⟨_, _, _, _⟩ := b2 BK1128) | ((with_reducible refine gate_callee (f := 30) rfl ?_); refine gl (some 34) Tryd.func30 #[.slice A0 l0.length c0] ?_; (with_reducible refine (Rf_SpectrumErr.calls k _ _ l0 t1129 _ ?side1 ?side2 A12.out).mono ?_); (case side1 => exact Kd.C_below HR0.out bz); (case side2 => exact HC0.out); rintro e w' ⟨rfl, ⟨nd, rfl⟩⟩; refine ⟨_, rfl, ?_⟩; obtain ⟨_, _, _, _⟩ := b2 BK1121))
              go_ret
              exact ez
          · rw [if_neg c104] at H
            have c104b0 := beq_eq_false_iff_ne.mpr c104
            have c104b1 := bne_iff_ne.mpr c104
            obtain rfl := Option.some.inj H
            go_enter Tryd.func9, Tryd.ntmps9
            go_wp2_with (first | ((with_reducible refine gate_callee (f := 18) rfl ?_); refine gl (some 14) Tryd.func18 #[] ?_; (with_reducible refine (Lw_awake.calls k  true _ ?side1 A4.out).mono ?_); (case side1 => exact EstG.below HG.out bz); rintro e w132 ⟨rfl, hb⟩; refine ⟨_, rfl, ?_⟩; replace HB := sb HB hb; (try clear hb)) | ((with_reducible refine gate_callee (f := 50) rfl ?_); refine gl (some 17) Tryd.func50 #[.slice A0 l0.length c0] ?_; (with_reducible refine (Lw_short.calls _ _ l0 true _ ?side1 ?side2 A6.out).mono ?_); (case side1 => exact cb HR0 HB); (case side2 => exact HC0.out); rintro e w' ⟨rfl, ⟨nd, rfl⟩⟩; refine ⟨_, rfl, ?_⟩; (try (rw [drewN_self w132]; generalize hq_ : World.drewN w132 _ = w132; replace HB := gs HB hq_; clear hq_))) | ((with_reducible refine gate_callee (f := 33) rfl ?_); refine gl (some 21) Tryd.func33 #[.slice A0 l0.length c0] ?_; (with_reducible refine (Bs_CopyInts.calls _ _ l0 t1115 _ ?side1 ?side2 A8.out).mono ?_); (case side1 => exact cb HR0 HB); (case side2 => exact HC0.out); rintro e w133 ⟨v1116, rfl, ho0, hb⟩; refine ⟨_, rfl, ?_⟩; have HO1117 := m0 (Kd.R_lower ho0 (below_size bz)); replace HB := sb HB hb; (try clear hb); (try clear ho0); obtain ⟨Ao134, co134, eo134⟩ := Kd.R_slice HO1117.out; subst eo134) | ((with_reducible refine gate_callee (f := 59) rfl ?_); refine gl (some 23) Tryd.func59 #[.slice Ao134 t1115.length co134, .int .i64 a1] ?_; (with_reducible refine (line_CentroidIn.calls k _ _ t1115 a1 t1118 t1119 t1120 _ ?side1 ?side2 A9.out).mono ?_); (case side1 => exact bc (Kd.R_reads' HO1117.out).2.2); (case side2 => exact (Kd.R_reads' HO1117.out).2.1); rintro e w135 ⟨rfl, hb⟩; refine ⟨_, rfl, ?_⟩; replace HO1117 := rb HO1117 hb; replace HB := sb HB hb; (try clear hb)) | ((with_reducible refine gate_dst (N := 7) rfl ?_); refine be 7 26 #[.int .i64 0, .int .i64 0] ?_; intro gb1121 hg w136 hbox hb; replace HO1117 := rb HO1117 hb; have BK1121 := m0 hbox; have GW1121 := m0 (bg (n := w.heap.size) hg); have GE1121 := m0 (bg (n := w.heap.size) hg); replace HB := sb HB hb; clear hb hbox hg; obtain ⟨_, _, _, _⟩ := b2 BK1121) | ((with_reducible refine gate_callee (f := 33) rfl ?_); refine gl (some 28) Tryd.func33 #[.slice A0 l0.length c0] ?_; (with_reducible refine (Bs_CopyInts.calls _ _ l0 t1122 _ ?side1 ?side2 A10.out).mono ?_); (case side1 => exact Kd.C_below HR0.out bz); (case side2 => exact HC0.out); rintro e w138 ⟨v1123, rfl, ho0, hb⟩; refine ⟨_, rfl, ?_⟩; have HO1124 := m0 (Kd.R_lower (Kd.R_new' ho0 (Kd.R_lt (by (with_reducible repeat (first | apply Kd.R_alloc | apply Kd.R_drewN | apply Kd.R_drew)); exact (Kd.R_mono (Kd.R_far (p := ⟨gb1121, 1, none⟩) (Kd.R_far (p := ⟨gb1121, 0, none⟩) (Kd.R_types HO1117.out BK1121.out (by decide)) (fun _ hk => hk.2) (.int .i64 t1118)) (fun _ hk => hk.2) (.int .i64 t1119)) (fun _ h_ => h_.1))))) (below_size bz)); replace HO1117 := m0 (Kd.R_elder' (by (with_reducible repeat (first | apply Kd.R_alloc | apply Kd.R_drewN | apply Kd.R_drew)); exact (Kd.R_mono (Kd.R_far (p := ⟨gb1121, 1, none⟩) (Kd.R_far (p := ⟨gb1121, 0, none⟩) (Kd.R_types HO1117.out BK1121.out (by decide)) (fun _ hk => hk.2) (.int .i64 t1118)) (fun _ hk => hk.2) (.int .i64 t1119)) (fun _ h_ => h_.1))) (Kd.R_base ho0) hb); replace BK1121 := m0 (blk_below (g := gb1121) (o := .cells #[.int .i64 t1118, .int .i64 t1119] 26 (0, 0)) (bq BK1121.out) hb); replace HB := sb HB hb; (try clear hb); (try clear ho0); obtain ⟨Ao139, co139, eo139⟩ := Kd.R_slice HO1124.out; subst eo139) | ((with_reducible refine gate_callee (f := 34) rfl ?_); refine gl (some 30) Tryd.func34 #[.slice Ao139 t1122.length co139, .int .i64 a2] ?_; (with_reducible refine (line_Estimated.calls k _ _ t1122 a2 t1125 t1126 t1127 _ ?side1 ?side2 ?side3 A11.out).mono ?_); (case side1 => exact bc (Kd.R_reads' HO1124.out).2.2); (case side2 => exact (Kd.R_reads' HO1124.out).2.1); (case side3 => exact EstG.below HG.out bz); rintro e w140 ⟨rfl, hb⟩; refine ⟨_, rfl, ?_⟩; replace HO1117 := rb HO1117 hb; replace HO1124 := rb HO1124 hb; replace BK1121 := bb BK1121 hb; replace HB := sb HB hb; (try clear hb)) | ((with_reducible refine gate_dst (N := 9) rfl ?_); refine be 9 26 #[.int .i64 0, .int .i64 0] ?_; intro gb1128 hg w141 hbox hb; replace HO1117 := rb HO1117 hb; replace HO1124 := rb HO1124 hb; have BK1128 := m0 hbox; have GW1128 := m0 (bg (n := w.heap.size) hg); have GE1128 := m0 (bg (n := w.heap.size) hg); replace HB := sb HB hb; have NB1121_1128 := nl BK1121 hg; have NB1128_1121 := ng (nl BK1121 hg); replace BK1121 := bb BK1121 hb; clear hb hbox hg; have hnb142 := NB1128_1121.out; have hnc142 := NB1121_1128.out; obtain ⟨_, _, _, _⟩ := b2 BK1128) | ((with_reducible refine gate_callee (f := 30) rfl ?_); refine gl (some 34) Tryd.func30 #[.slice A0 l0.length c0] ?_; (with_reducible refine (Rf_SpectrumErr.calls k _ _ l0 t1129 _ ?side1 ?side2 A12.out).mono ?_); (case side1 => exact Kd.C_below HR0.out bz); (case side2 => exact HC0.out); rintro e w' ⟨rfl, ⟨nd, rfl⟩⟩; refine ⟨_, rfl, ?_⟩))
            go_ret
            exact ez
        · rw [if_neg c103] at H
          have c103b0 := beq_eq_false_iff_ne.mpr c103
          have c103b1 := bne_iff_ne.mpr c103
          obtain rfl := Option.some.inj H
          go_enter Tryd.func9, Tryd.ntmps9
          go_wp2_with (first | ((with_reducible refine gate_callee (f := 18) rfl ?_); refine gl (some 14) Tryd.func18 #[] ?_; (with_reducible refine (Lw_awake.calls k  true _ ?side1 A4.out).mono ?_); (case side1 => exact EstG.below HG.out bz); rintro e w144 ⟨rfl, hb⟩; refine ⟨_, rfl, ?_⟩; replace HB := sb HB hb; (try clear hb)) | ((with_reducible refine gate_callee (f := 50) rfl ?_); refine gl (some 17) Tryd.func50 #[.slice A0 l0.length c0] ?_; (with_reducible refine (Lw_short.calls _ _ l0 true _ ?side1 ?side2 A6.out).mono ?_); (case side1 => exact cb HR0 HB); (case side2 => exact HC0.out); rintro e w' ⟨rfl, ⟨nd, rfl⟩⟩; refine ⟨_, rfl, ?_⟩; (try (rw [drewN_self w144]; generalize hq_ : World.drewN w144 _ = w144; replace HB := gs HB hq_; clear hq_))) | ((with_reducible refine gate_callee (f := 33) rfl ?_); refine gl (some 21) Tryd.func33 #[.slice A0 l0.length c0] ?_; (with_reducible refine (Bs_CopyInts.calls _ _ l0 t1115 _ ?side1 ?side2 A8.out).mono ?_); (case side1 => exact cb HR0 HB); (case side2 => exact HC0.out); rintro e w145 ⟨v1116, rfl, ho0, hb⟩; refine ⟨_, rfl, ?_⟩; have HO1117 := m0 (Kd.R_lower ho0 (below_size bz)); replace HB := sb HB hb; (try clear hb); (try clear ho0); obtain ⟨Ao146, co146, eo146⟩ := Kd.R_slice HO1117.out; subst eo146) | ((with_reducible refine gate_callee (f := 59) rfl ?_); refine gl (some 23) Tryd.func59 #[.slice Ao146 t1115.length co146, .int .i64 a1] ?_; (with_reducible refine (line_CentroidIn.calls k _ _ t1115 a1 t1118 t1119 t1120 _ ?side1 ?side2 A9.out).mono ?_); (case side1 => exact bc (Kd.R_reads' HO1117.out).2.2); (case side2 => exact (Kd.R_reads' HO1117.out).2.1); rintro e w147 ⟨rfl, hb⟩; refine ⟨_, rfl, ?_⟩; replace HO1117 := rb HO1117 hb; replace HB := sb HB hb; (try clear hb)) | ((with_reducible refine gate_dst (N := 7) rfl ?_); refine be 7 26 #[.int .i64 0, .int .i64 0] ?_; intro gb1121 hg w148 hbox hb; replace HO1117 := rb HO1117 hb; have BK1121 := m0 hbox; have GW1121 := m0 (bg (n := w.heap.size) hg); have GE1121 := m0 (bg (n := w.heap.size) hg); replace HB := sb HB hb; clear hb hbox hg; obtain ⟨_, _, _, _⟩ := b2 BK1121) | ((with_reducible refine gate_callee (f := 33) rfl ?_); refine gl (some 28) Tryd.func33 #[.slice A0 l0.length c0] ?_; (with_reducible refine (Bs_CopyInts.calls _ _ l0 t1122 _ ?side1 ?side2 A10.out).mono ?_); (case side1 => exact Kd.C_below HR0.out bz); (case side2 => exact HC0.out); rintro e w150 ⟨v1123, rfl, ho0, hb⟩; refine ⟨_, rfl, ?_⟩; have HO1124 := m0 (Kd.R_lower (Kd.R_new' ho0 (Kd.R_lt (by (with_reducible repeat (first | apply Kd.R_alloc | apply Kd.R_drewN | apply Kd.R_drew)); exact (Kd.R_mono (Kd.R_far (p := ⟨gb1121, 1, none⟩) (Kd.R_far (p := ⟨gb1121, 0, none⟩) (Kd.R_types HO1117.out BK1121.out (by decide)) (fun _ hk => hk.2) (.int .i64 t1118)) (fun _ hk => hk.2) (.int .i64 t1119)) (fun _ h_ => h_.1))))) (below_size bz)); replace HO1117 := m0 (Kd.R_elder' (by (with_reducible repeat (first | apply Kd.R_alloc | apply Kd.R_drewN | apply Kd.R_drew)); exact (Kd.R_mono (Kd.R_far (p := ⟨gb1121, 1, none⟩) (Kd.R_far (p := ⟨gb1121, 0, none⟩) (Kd.R_types HO1117.out BK1121.out (by decide)) (fun _ hk => hk.2) (.int .i64 t1118)) (fun _ hk => hk.2) (.int .i64 t1119)) (fun _ h_ => h_.1))) (Kd.R_base ho0) hb); replace BK1121 := m0 (blk_below (g := gb1121) (o := .cells #[.int .i64 t1118, .int .i64 t1119] 26 (0, 0)) (bq BK1121.out) hb); replace HB := sb HB hb; (try clear hb); (try clear ho0); obtain ⟨Ao151, co151, eo151⟩ := Kd.R_slice HO1124.out; subst eo151) | ((with_reducible refine gate_callee (f := 34) rfl ?_); refine gl (some 30) Tryd.func34 #[.slice Ao151 t1122.length co151, .int .i64 a2] ?_; (with_reducible refine (line_Estimated.calls k _ _ t1122 a2 t1125 t1126 t1127 _ ?side1 ?side2 ?side3 A11.out).mono ?_); (case side1 => exact bc (Kd.R_reads' HO1124.out).2.2); (case side2 => exact (Kd.R_reads' HO1124.out).2.1); (case side3 => exact EstG.below HG.out bz); rintro e w152 ⟨rfl, hb⟩; refine ⟨_, rfl, ?_⟩; replace HO1117 := rb HO1117 hb; replace HO1124 := rb HO1124 hb; replace BK1121 := bb BK1121 hb; replace HB := sb HB hb; (try clear hb)) | ((with_reducible refine gate_dst (N := 9) rfl ?_); refine be 9 26 #[.int .i64 0, .int .i64 0] ?_; intro gb1128 hg w153 hbox hb; replace HO1117 := rb HO1117 hb; replace HO1124 := rb HO1124 hb; have BK1128 := m0 hbox; have GW1128 := m0 (bg (n := w.heap.size) hg); have GE1128 := m0 (bg (n := w.heap.size) hg); replace HB := sb HB hb; have NB1121_1128 := nl BK1121 hg; have NB1128_1121 := ng (nl BK1121 hg); replace BK1121 := bb BK1121 hb; clear hb hbox hg; have hnb154 := NB1128_1121.out; have hnc154 := NB1121_1128.out; obtain ⟨_, _, _, _⟩ := b2 BK1128) | ((with_reducible refine gate_callee (f := 30) rfl ?_); refine gl (some 34) Tryd.func30 #[.slice A0 l0.length c0] ?_; (with_reducible refine (Rf_SpectrumErr.calls k _ _ l0 t1129 _ ?side1 ?side2 A12.out).mono ?_); (case side1 => exact Kd.C_below HR0.out bz); (case side2 => exact HC0.out); rintro e w' ⟨rfl, ⟨nd, rfl⟩⟩; refine ⟨_, rfl, ?_⟩))
          go_ret
          exact ez
    · replace c7 := Bool.eq_false_iff.mpr c7
      subst c7
      rw [if_neg (show ¬ (false = true) by decide)] at H
      obtain rfl := Option.some.inj H
      go_enter Tryd.func9, Tryd.ntmps9
      go_wp2_with (first | ((with_reducible refine gate_callee (f := 18) rfl ?_); refine gl (some 14) Tryd.func18 #[] ?_; (with_reducible refine (Lw_awake.calls k  true _ ?side1 A4.out).mono ?_); (case side1 => exact EstG.below HG.out bz); rintro e w156 ⟨rfl, hb⟩; refine ⟨_, rfl, ?_⟩; replace HB := sb HB hb; (try clear hb)) | ((with_reducible refine gate_callee (f := 50) rfl ?_); refine gl (some 17) Tryd.func50 #[.slice A0 l0.length c0] ?_; (with_reducible refine (Lw_short.calls _ _ l0 false _ ?side1 ?side2 A6.out).mono ?_); (case side1 => exact cb HR0 HB); (case side2 => exact HC0.out); rintro e w' ⟨rfl, ⟨nd, rfl⟩⟩; refine ⟨_, rfl, ?_⟩))
      go_ret
      exact ez
  · replace c5 := Bool.eq_false_iff.mpr c5
    subst c5
    rw [if_neg (show ¬ (false = true) by decide)] at H
    obtain rfl := Option.some.inj H
    go_enter Tryd.func9, Tryd.ntmps9
    go_wp2_with (first | ((with_reducible refine gate_callee (f := 18) rfl ?_); refine gl (some 14) Tryd.func18 #[] ?_; (with_reducible refine (Lw_awake.calls k  false _ ?side1 A4.out).mono ?_); (case side1 => exact EstG.below HG.out bz); rintro e w157 ⟨rfl, hb⟩; refine ⟨_, rfl, ?_⟩; replace HB := sb HB hb; (try clear hb)))
    go_ret
    exact ez
end
end Go.Proofs.YtjnkphmcndaijaaDoor.A
