/- Walks of the program's functions (printed, made shorter), each with what it computes. -/
import Derived.Shelf.Abstract
import Derived.Test.YtjnkphmcndaijaaDoorCas04
import Derived.Test.YtjnkphmcndaijaaDoorCas06
import Derived.Test.YtjnkphmcndaijaaDoorCas03
namespace Go.Proofs.YtjnkphmcndaijaaDoor.A
open Go.RowKit Go.Proofs.YtjnkphmcndaijaaDoorW.PrintWords Go.Proofs.YtjnkphmcndaijaaDoorW.PrintLast Go.Proofs.YtjnkphmcndaijaaDoorW.PrintMore
attribute [local go_sem] max2_int min2_int max_two min_two max_three min_three max_four min_four
set_option linter.unusedVariables false
set_option linter.unusedSimpArgs false
def line_spectrum_estimate.f (k : Nat) (l0 : List Int) (a1 : Int) : Option (Int × Int) :=
 (line_spectrum_int_106.f k l0).bind fun m => if m = 0 then line_fraction.f k 0 1 else if a1 = 0 then line_spectrum_highest.f k l0 else if a1 = 1 then line_spectrum_whole.f k l0 else if a1 = 2 then line_spectrum_parabola.f k l0 else if a1 = 3 then line_spectrum_median.f k l0 else none
theorem line_spectrum_estimate.mono : ∀ a0 a1 k, LeO (line_spectrum_estimate.f k a0 a1) (line_spectrum_estimate.f (k + 1) a0 a1) := by
 intro a0 a1 k
 unfold line_spectrum_estimate.f
 repeat' first
  | (with_reducible exact LeO.refl _)
  | (with_reducible exact LeO.none _)
  | (with_reducible refine LeO.ite ?_ ?_)
  | (with_reducible refine LeO.bind ?_ (fun _ => ?_))
  | exact line_spectrum_int_106.mono _ _
  | exact line_fraction.mono _ _ _
  | exact line_spectrum_highest.mono _ _
  | exact line_spectrum_whole.mono _ _
  | exact line_spectrum_parabola.mono _ _
  | exact line_spectrum_median.mono _ _
set_option maxHeartbeats 4000000 in
set_option maxRecDepth 100000 in
theorem line_spectrum_estimate.via (k : Nat) (A0 : Option Addr) (c0 : Nat) (l0 : List Int) (a1 : Int) (r1 r2 m : Int) (w : World) (g j : Nat) (hj : a1 = j) (hj4 : j < 4) (hm : line_spectrum_int_106.f k l0 = some m) (hm0 : m ≠ 0)
  (hr0 : Kd.C (Kd.int .i64) w A0 l0.length l0) (hc0 : l0.length ≤ c0) (hg : w.cell? ⟨0, j, none⟩ = some (.func (.func g) #[] #[]))
  (eg : ∀ args w, (callFunc g args).run Tryd.prog w = .ok (.enter g args) w)
  (hcall : ∀ W : World, Below w.heap.size w W → Calls Tryd.prog g #[.slice A0 l0.length c0] W fun e w' => e = .returned (.agg #[.int .i64 r1, .int .i64 r2]) ∧ Below W.heap.size W w') :
  Calls Tryd.prog 95 #[.slice A0 l0.length c0, .int .i64 a1] w fun e w' => e = .returned (.agg #[.int .i64 r1, .int .i64 r2]) ∧ Below w.heap.size w w' := by
 have hu26 := Tryd.underlying26
 have HR0 := Aside0.mk hr0
 have HC0 := Aside0.mk hc0
 have HG := Aside0.mk hg
 have HM := Aside0.mk hm
 have HCALL := Aside0.mk hcall
 clear hr0 hc0 hg hm hcall
 have HB := Aside0.mk (Below.refl w.heap.size w)
 have t1 : (m == 0) = false := beq_eq_false_iff_ne.mpr hm0
 have ha0 : 0 ≤ a1 := by omega
 have ha4 : a1 < 4 := by omega
 have HJ := Aside0.mk (show a1.toNat = j by omega)
 clear hj hj4 hm0
 go_enter Tryd.func95, Tryd.ntmps95
 go_wp2_with (first | ((with_reducible refine gate_dst (N := 4) rfl ?_); refine be 4 26 #[.int .i64 0, .int .i64 0] ?_; intro gb hg w4 hbox hb; have n0_ := Aside0.mk (below_step HB.out hb); have n1_ := Aside0.mk hbox; have n2_ := Aside0.mk ((by rw [hg]; exact (below_size HB.out)) : w.heap.size ≤ gb); clear HB; have HB := n0_; have BK := n1_; have GE := n2_; clear n0_ n1_ n2_ hb hbox hg) | (go_at_call 106; (with_reducible refine (line_spectrum_int_106.calls k _ _ l0 m _ ?side1 ?side2 HM.out).mono ?_); (case side1 => exact Kd.C_below HR0.out HB.out); (case side2 => exact HC0.out); rintro e w5 ⟨rfl, hb⟩; have n0_ := Aside0.mk (blk_below (g := gb) (o := .cells #[.int .i64 0, .int .i64 0] 26 (0, 0)) BK.out hb); have n1_ := Aside0.mk (below_step HB.out hb); clear BK; clear HB; have BK := n0_; have HB := n1_; clear n0_ n1_ hb; have hT : w5.cell? ⟨0, a1.toNat, none⟩ = some (.func (.func g) #[] #[]) := (by rw [HJ.out]; exact pw_cell_below HB.out HG.out)) | (go_at_fn g; refine (HCALL.out _ HB.out).mono ?_; rintro e w6 ⟨rfl, hb⟩; have n0_ := Aside0.mk (blk_below (g := gb) (o := .cells #[.int .i64 0, .int .i64 0] 26 (0, 0)) BK.out hb); have n1_ := Aside0.mk (below_step HB.out hb); clear BK; clear HB; have BK := n0_; have HB := n1_; clear n0_ n1_ hb; have hcz7_0 : w6.cell? ⟨gb, 0, none⟩ = some (.int .i64 0) := (blk_cell BK.out 0).trans rfl; have hcz7_1 : w6.cell? ⟨gb, 1, none⟩ = some (.int .i64 0) := (blk_cell BK.out 1).trans rfl; have hfz7_0 := blk_frozen BK.out 0; have hfz7_1 := blk_frozen BK.out 1))
 refine bodyPost_ret (results_cell_row rfl _ _ gb 26 #[.int .i64 r1, .int .i64 r2] (0, 0) _ rfl (by (with_reducible repeat (first | refine blk_drewN ?_ _ | refine blk_drew ?_ | refine blk_alloc ?_ _)); refine blk_put (cs := #[.int .i64 r1, .int .i64 0]) ?_ 1 _ rfl; (with_reducible repeat (first | refine blk_drewN ?_ _ | refine blk_drew ?_ | refine blk_alloc ?_ _)); refine blk_put (cs := #[.int .i64 0, .int .i64 0]) ?_ 0 _ rfl; (with_reducible repeat (first | refine blk_drewN ?_ _ | refine blk_drew ?_ | refine blk_alloc ?_ _)); exact BK.out) Tryd.underlying26 rfl (by kernel_rfl)) rfl ?_
 exact ⟨rfl, by repeat (first | (with_reducible first | exact HB.out | apply below_alloc | apply pw_below_drewN | apply below_drew1 | refine below_set ?_ GE.out) | exact HB.out)⟩
set_option maxHeartbeats 4000000 in
set_option maxRecDepth 100000 in
theorem line_spectrum_estimate.flat (k : Nat) (A0 : Option Addr) (c0 : Nat) (l0 : List Int) (a1 : Int) (r1 r2 m : Int) (w : World) (hm : line_spectrum_int_106.f k l0 = some m) (hm0 : m = 0)
  (hr0 : Kd.C (Kd.int .i64) w A0 l0.length l0) (hc0 : l0.length ≤ c0)
  (hcall : ∀ W : World, Below w.heap.size w W → Calls Tryd.prog 96 #[.int .i64 0, .int .i64 1] W fun e w' => e = .returned (.agg #[.int .i64 r1, .int .i64 r2]) ∧ Below W.heap.size W w') :
  Calls Tryd.prog 95 #[.slice A0 l0.length c0, .int .i64 a1] w fun e w' => e = .returned (.agg #[.int .i64 r1, .int .i64 r2]) ∧ Below w.heap.size w w' := by
 have hu26 := Tryd.underlying26
 have HR0 := Aside0.mk hr0
 have HC0 := Aside0.mk hc0
 have HM := Aside0.mk hm
 have HCALL := Aside0.mk hcall
 clear hr0 hc0 hm hcall
 have HB := Aside0.mk (Below.refl w.heap.size w)
 have t1 : (m == 0) = true := beq_iff_eq.mpr hm0
 clear hm0
 go_enter Tryd.func95, Tryd.ntmps95
 go_wp2_with (first | ((with_reducible refine gate_dst (N := 4) rfl ?_); refine be 4 26 #[.int .i64 0, .int .i64 0] ?_; intro gb hg w4 hbox hb; have n0_ := Aside0.mk (below_step HB.out hb); have n1_ := Aside0.mk hbox; have n2_ := Aside0.mk ((by rw [hg]; exact (below_size HB.out)) : w.heap.size ≤ gb); clear HB; have HB := n0_; have BK := n1_; have GE := n2_; clear n0_ n1_ n2_ hb hbox hg) | (go_at_call 106; (with_reducible refine (line_spectrum_int_106.calls k _ _ l0 m _ ?side1 ?side2 HM.out).mono ?_); (case side1 => exact Kd.C_below HR0.out HB.out); (case side2 => exact HC0.out); rintro e w5 ⟨rfl, hb⟩; have n0_ := Aside0.mk (blk_below (g := gb) (o := .cells #[.int .i64 0, .int .i64 0] 26 (0, 0)) BK.out hb); have n1_ := Aside0.mk (below_step HB.out hb); clear BK; clear HB; have BK := n0_; have HB := n1_; clear n0_ n1_ hb) | (go_at_call 96; refine (HCALL.out _ HB.out).mono ?_; rintro e w6 ⟨rfl, hb⟩; have n0_ := Aside0.mk (blk_below (g := gb) (o := .cells #[.int .i64 0, .int .i64 0] 26 (0, 0)) BK.out hb); have n1_ := Aside0.mk (below_step HB.out hb); clear BK; clear HB; have BK := n0_; have HB := n1_; clear n0_ n1_ hb; have hcz7_0 : w6.cell? ⟨gb, 0, none⟩ = some (.int .i64 0) := (blk_cell BK.out 0).trans rfl; have hcz7_1 : w6.cell? ⟨gb, 1, none⟩ = some (.int .i64 0) := (blk_cell BK.out 1).trans rfl; have hfz7_0 := blk_frozen BK.out 0; have hfz7_1 := blk_frozen BK.out 1))
 refine bodyPost_ret (results_cell_row rfl _ _ gb 26 #[.int .i64 r1, .int .i64 r2] (0, 0) _ rfl (by (with_reducible repeat (first | refine blk_drewN ?_ _ | refine blk_drew ?_ | refine blk_alloc ?_ _)); refine blk_put (cs := #[.int .i64 r1, .int .i64 0]) ?_ 1 _ rfl; (with_reducible repeat (first | refine blk_drewN ?_ _ | refine blk_drew ?_ | refine blk_alloc ?_ _)); refine blk_put (cs := #[.int .i64 0, .int .i64 0]) ?_ 0 _ rfl; (with_reducible repeat (first | refine blk_drewN ?_ _ | refine blk_drew ?_ | refine blk_alloc ?_ _)); exact BK.out) Tryd.underlying26 rfl (by kernel_rfl)) rfl ?_
 exact ⟨rfl, by repeat (first | (with_reducible first | exact HB.out | apply below_alloc | apply pw_below_drewN | apply below_drew1 | refine below_set ?_ GE.out) | exact HB.out)⟩
theorem line_spectrum_estimate.calls (k : Nat) (A0 : Option Addr) (c0 : Nat) (l0 : List Int) (a1 : Int) (r1 r2 : Int) (w : World) (hr0 : Kd.C (Kd.int .i64) w A0 l0.length l0) (hc0 : l0.length ≤ c0) (hG : EstG w) (h : line_spectrum_estimate.f k l0 a1 = some (r1, r2)) :
  Calls Tryd.prog 95 #[.slice A0 l0.length c0, .int .i64 a1] w fun e w' => e = .returned (.agg #[.int .i64 r1, .int .i64 r2]) ∧ Below w.heap.size w w' := by
 unfold line_spectrum_estimate.f at h
 obtain ⟨m, hm, h⟩ := Option.bind_eq_some_iff.mp h
 by_cases h0 : m = 0
 ·rw [if_pos h0] at h
  exact line_spectrum_estimate.flat k A0 c0 l0 a1 r1 r2 m w hm h0 hr0 hc0 fun W _ => line_fraction.calls k 0 1 r1 r2 W h
 ·rw [if_neg h0] at h
  by_cases e0 : a1 = 0
  ·rw [if_pos e0] at h
   exact line_spectrum_estimate.via k A0 c0 l0 a1 r1 r2 m w _ 0 e0 (by decide) hm h0 hr0 hc0 hG.1 (enters_of Tryd.func192 (by kernel_rfl) rfl) fun W hb => line_spectrum_highest.calls k A0 c0 l0 r1 r2 W (Kd.C_below hr0 hb) hc0 h
  rw [if_neg e0] at h
  by_cases e1 : a1 = 1
  ·rw [if_pos e1] at h
   exact line_spectrum_estimate.via k A0 c0 l0 a1 r1 r2 m w _ 1 e1 (by decide) hm h0 hr0 hc0 hG.2.1 (enters_of Tryd.func193 (by kernel_rfl) rfl) fun W hb => line_spectrum_whole.calls k A0 c0 l0 r1 r2 W (Kd.C_below hr0 hb) hc0 h
  rw [if_neg e1] at h
  by_cases e2 : a1 = 2
  ·rw [if_pos e2] at h
   exact line_spectrum_estimate.via k A0 c0 l0 a1 r1 r2 m w _ 2 e2 (by decide) hm h0 hr0 hc0 hG.2.2.1 (enters_of Tryd.func194 (by kernel_rfl) rfl) fun W hb => line_spectrum_parabola.calls k A0 c0 l0 r1 r2 W (Kd.C_below hr0 hb) hc0 h
  rw [if_neg e2] at h
  by_cases e3 : a1 = 3
  ·rw [if_pos e3] at h
   exact line_spectrum_estimate.via k A0 c0 l0 a1 r1 r2 m w _ 3 e3 (by decide) hm h0 hr0 hc0 hG.2.2.2 (enters_of Tryd.func195 (by kernel_rfl) rfl) fun W hb => line_spectrum_median.calls k A0 c0 l0 r1 r2 W (Kd.C_below hr0 hb) hc0 h
  rw [if_neg e3] at h
  exact absurd h (by simp)
end Go.Proofs.YtjnkphmcndaijaaDoor.A
