/- Walks of the program's functions (printed, made shorter), each with what it computes. -/
import Derived.Test.YtibhfahbabgbaaaB05
import Derived.Test.YtibhfahbabgbaaaB12
import Derived.Test.YtibhfahbabgbaaaB04
import Derived.Test.YtibhfahbabgbaaaB14
namespace Go.Proofs.Ytibhfahbabgbaaa.A
set_option maxHeartbeats 8000000
set_option maxRecDepth 100000
open Go.RowKit Go.Proofs.YtibhfahbabgbaaaW.PrintWords Go.Proofs.YtibhfahbabgbaaaW.PrintLast Go.Proofs.YtibhfahbabgbaaaW.PrintMore
attribute [local go_sem] max2_int min2_int max_two min_two max_three min_three max_four min_four
set_option linter.unusedVariables false
set_option linter.unusedSimpArgs false
section
theorem eqA45 (d : Nat) (w : World) (x0 y0 : Int) (x1 y1 : Int) (x2 y2 : Int) (x3 y3 : Int) (x4 y4 : Int) (x5 y5 : Int) (x6 y6 : Int) (x7 y7 : Int) (x8 y8 : Int) :
  (Op.equalIn (d + 3) 45 (.agg #[.int .i64 x0, .int .i64 x1, .int .i64 x2, .int .i64 x3, .int .i64 x4, .int .i64 x5, .int .i64 x6, .int .i64 x7, .int .i64 x8]) (.agg #[.int .i64 y0, .int .i64 y1, .int .i64 y2, .int .i64 y3, .int .i64 y4, .int .i64 y5, .int .i64 y6, .int .i64 y7, .int .i64 y8])).run Try.prog w = .ok ((x0 == y0 && (x1 == y1 && (x2 == y2))) && ((x3 == y3 && (x4 == y4 && (x5 == y5))) && ((x6 == y6 && (x7 == y7 && (x8 == y8)))))) w := by
 refine (run_equalIn_array Try.underlying45 Try.sizeOf44).trans ?_
 have hue_ := Try.underlying44
 refine eqe_cons (by go_simp) (by go_simp) (eqA44 (d + 0) w _ _ _ _ _ _) ?_
 refine eqe_cons (by go_simp) (by go_simp) (eqA44 (d + 0) w _ _ _ _ _ _) ?_
 exact eqe_last (by go_simp) (by go_simp) (eqA44 (d + 0) w _ _ _ _ _ _)
end
section
def Bs_Within.f (a0 : Int) (a1 : Int) (a2 : Int) : Option (Bool) := if a1 ≤ a0 then (some (decide (a0 ≤ a2))) else (some false)
theorem Bs_Within.calls (a0 : Int) (a1 : Int) (a2 : Int) (r : Bool) (w : World) (h : Bs_Within.f a0 a1 a2 = some r) :
  Calls Try.prog 24 #[.int .i64 a0, .int .i64 a1, .int .i64 a2] w fun e w' => e = .returned (.bool r) ∧ Drawn0 w w' := by
 have H : (if a1 ≤ a0 then (some (decide (a0 ≤ a2))) else (some false)) = some r := h
 clear h
 by_cases c4 : a1 ≤ a0
 ·rw [if_pos c4] at H
  have c4b0 := decide_eq_true c4
  clear c4
  obtain rfl := Option.some.inj H
  go_enter Try.func24, Try.ntmps24
  go_wp2
  go_ret
  exact ⟨by first | rfl | (simp; done) | (simp [*]; done), by repeat (first | exact Drawn0.refl _ | apply Drawn0.step)⟩
 ·rw [if_neg c4] at H
  have c4b0 := decide_eq_false c4
  clear c4
  obtain rfl := Option.some.inj H
  go_enter Try.func24, Try.ntmps24
  go_wp2
  go_ret
  exact ⟨by first | rfl | (simp; done) | (simp [*]; done), by repeat (first | exact Drawn0.refl _ | apply Drawn0.step)⟩
end
section
def L_indexErr.f (a0 : Int) : Option (Int) := (L_within.f a0 0 23).bind fun t424 => ((L_unless.f t424 2).bind fun t425 => (some t425))
theorem L_indexErr.calls (a0 : Int) (r : Int) (w : World) (h : L_indexErr.f a0 = some r) :
  Calls Try.prog 83 #[.int .i64 a0] w fun e w' => e = .returned (.int .i64 r) ∧ Drawn0 w w' := by
 have H : ((L_within.f a0 0 23).bind fun t424 => ((L_unless.f t424 2).bind fun t425 => (some t425))) = some r := h
 clear h
 replace H := ob H
 obtain ⟨t424, A2, H⟩ := H
 (try dsimp only at H)
 replace A2 := m0 A2
 replace H := ob H
 obtain ⟨t425, A3, H⟩ := H
 (try dsimp only at H)
 replace A3 := m0 A3
 obtain rfl := Option.some.inj H
 go_enter Try.func83, Try.ntmps83
 go_wp2_with (first | ((with_reducible refine gate_callee (f := 78) rfl ?_); refine gl (some 4) Try.func78 #[.int .i64 a0, .int .i64 0, .int .i64 23] ?_; (with_reducible refine (L_within.calls a0 0 23 t424 _ A2.out).mono ?_); rintro e w' ⟨rfl, ⟨nd, rfl⟩⟩; refine ⟨_, rfl, ?_⟩) | ((with_reducible refine gate_callee (f := 76) rfl ?_); refine gl (some 5) Try.func76 #[.bool t424, .int .i64 2] ?_; (with_reducible refine (L_unless.calls t424 2 t425 _ A3.out).mono ?_); rintro e w' ⟨rfl, ⟨nd, rfl⟩⟩; refine ⟨_, rfl, ?_⟩))
 go_ret
 exact ⟨by first | rfl | (simp; done) | (simp [*]; done), by repeat (first | exact Drawn0.refl _ | apply Drawn0.step)⟩
end
section
def L_RotationOf.f (k : Nat) (a0 : Int) : Option (Int × Int × Int × Int × Int × Int × Int × Int × Int × Int) := (L_indexErr.f a0).bind fun t427 => (if t427 = 0 then ((L_rotations.f k).bind fun t428 => (if 0 ≤ a0 then (if a0 < (t428.length : Int) then (some ((rd_T139 t428 a0).f0.f0, (rd_T139 t428 a0).f0.f1, (rd_T139 t428 a0).f0.f2, (rd_T139 t428 a0).f1.f0, (rd_T139 t428 a0).f1.f1, (rd_T139 t428 a0).f1.f2, (rd_T139 t428 a0).f2.f0, (rd_T139 t428 a0).f2.f1, (rd_T139 t428 a0).f2.f2, 0)) else (none)) else (none))) else (some (0, 0, 0, 0, 0, 0, 0, 0, 0, t427)))
theorem L_RotationOf.mono : ∀ a0 k, LeO (L_RotationOf.f k a0) (L_RotationOf.f (k + 1) a0) := by
 intro a0 k
 unfold L_RotationOf.f
 repeat' with_reducible first
  | exact L_rotations.mono ..
  | exact LeO.refl ..
  | exact LeO.none ..
  | refine LeO.ite ?_ ?_
  | refine LeO.bind ?_ (fun _ => ?_)
theorem L_RotationOf.calls (k : Nat) (a0 : Int) (r1 : Int) (r2 : Int) (r3 : Int) (r4 : Int) (r5 : Int) (r6 : Int) (r7 : Int) (r8 : Int) (r9 : Int) (r10 : Int) (w : World) (h : L_RotationOf.f k a0 = some (r1, r2, r3, r4, r5, r6, r7, r8, r9, r10)) :
  Calls Try.prog 25 #[.int .i64 a0] w fun e w' => e = .returned (.tuple #[.agg #[.int .i64 r1, .int .i64 r2, .int .i64 r3, .int .i64 r4, .int .i64 r5, .int .i64 r6, .int .i64 r7, .int .i64 r8, .int .i64 r9], .int .i64 r10]) ∧ Below w.heap.size w w' := by
 have hu45 := Try.underlying45
 have hu139 := Try.underlying139
 have hu137 := Try.underlying137
 have hix139_0 : ∀ (g_ : Nat) (W_ : World), (Instr.indexAt 139 (.pointer (some ⟨g_, 0, none⟩)) (.int .i64 0)).run Try.prog W_ = .ok (.pointer (some ⟨g_, 0, none⟩)) W_ := fun _ _ => by kernel_rfl
 have hix139_1 : ∀ (g_ : Nat) (W_ : World), (Instr.indexAt 139 (.pointer (some ⟨g_, 0, none⟩)) (.int .i64 1)).run Try.prog W_ = .ok (.pointer (some ⟨g_, 3, none⟩)) W_ := fun _ _ => by kernel_rfl
 have hix139_2 : ∀ (g_ : Nat) (W_ : World), (Instr.indexAt 139 (.pointer (some ⟨g_, 0, none⟩)) (.int .i64 2)).run Try.prog W_ = .ok (.pointer (some ⟨g_, 6, none⟩)) W_ := fun _ _ => by kernel_rfl
 have HB := m0 (Below.refl w.heap.size w)
 have H : ((L_indexErr.f a0).bind fun t427 => (if t427 = 0 then ((L_rotations.f k).bind fun t428 => (if 0 ≤ a0 then (if a0 < (t428.length : Int) then (some ((rd_T139 t428 a0).f0.f0, (rd_T139 t428 a0).f0.f1, (rd_T139 t428 a0).f0.f2, (rd_T139 t428 a0).f1.f0, (rd_T139 t428 a0).f1.f1, (rd_T139 t428 a0).f1.f2, (rd_T139 t428 a0).f2.f0, (rd_T139 t428 a0).f2.f1, (rd_T139 t428 a0).f2.f2, 0)) else (none)) else (none))) else (some (0, 0, 0, 0, 0, 0, 0, 0, 0, t427)))) = some (r1, r2, r3, r4, r5, r6, r7, r8, r9, r10) := h
 clear h
 replace H := ob H
 obtain ⟨t427, A2, H⟩ := H
 (try dsimp only at H)
 replace A2 := m0 A2
 by_cases c3 : t427 = 0
 ·rw [if_pos c3] at H
  have c3b0 := beq_iff_eq.mpr c3
  have c3b1 := bne_eq_false_iff_eq.mpr c3
  clear c3
  replace H := ob H
  obtain ⟨t428, A4, H⟩ := H
  (try dsimp only at H)
  replace A4 := m0 A4
  by_cases c5 : 0 ≤ a0
  ·rw [if_pos c5] at H
   have c5b0 := decide_eq_true c5
   clear c5
   by_cases c6 : a0 < (t428.length : Int)
   ·rw [if_pos c6] at H
    have c6b0 := decide_eq_true c6
    clear c6
    simp only [Option.some.injEq, Prod.mk.injEq] at H
    obtain ⟨rfl, rfl, rfl, rfl, rfl, rfl, rfl, rfl, rfl, rfl⟩ := H
    go_enter Try.func25, Try.ntmps25
    go_wp2_with (first | ((with_reducible refine gate_dst (N := 2) rfl ?_); refine be 2 45 #[.int .i64 0, .int .i64 0, .int .i64 0, .int .i64 0, .int .i64 0, .int .i64 0, .int .i64 0, .int .i64 0, .int .i64 0] ?_; intro gb426 hg w7 hbox hb; have BK426 := m0 hbox; have GE426 := gw w hg; replace HB := sb HB hb; clear hb hbox hg) | ((with_reducible refine gate_callee (f := 83) rfl ?_); refine gl (some 7) Try.func83 #[.int .i64 a0] ?_; (with_reducible refine (L_indexErr.calls a0 t427 _ A2.out).mono ?_); rintro e w' ⟨rfl, ⟨nd, rfl⟩⟩; refine ⟨_, rfl, ?_⟩; (try (rw [drewN_self w7]; generalize hq_ : World.drewN w7 _ = w7; replace BK426 := gd BK426 hq_; replace HB := gs HB hq_; clear hq_))) | ((with_reducible refine gate_callee (f := 84) rfl ?_); refine gl (some 12) Try.func84 #[] ?_; (with_reducible refine (L_rotations.calls k  t428 _ A4.out).mono ?_); rintro e w8 ⟨v429, rfl, ho0, hb⟩; refine ⟨_, rfl, ?_⟩; have HO430 := m0 (Kd.R_lower ho0 (below_size bz)); replace BK426 := bb BK426 hb; replace HB := sb HB hb; (try clear hb); (try clear ho0); obtain ⟨Ao9, co9, eo9⟩ := Kd.R_slice HO430.out; subst eo9; have p431 : 0 ≤ (a0 : Int) := od; have q431 : a0 < (t428.length : Int) := od; obtain ⟨ad431, e431, hx431_0, hx431_1, hx431_2, hx431_3, hx431_4, hx431_5, hx431_6, hx431_7, hx431_8⟩ := at_T139 (Kd.R_reads' HO430.out).2.2 a0 p431 q431; cases e431; replace p431 := eq_true p431; replace q431 := eq_true q431) | ((with_reducible refine gate_dst (N := 5) rfl ?_); refine be 5 139 #[.int .i64 0, .int .i64 0, .int .i64 0, .int .i64 0, .int .i64 0, .int .i64 0, .int .i64 0, .int .i64 0, .int .i64 0] ?_; intro gb432 hg w10 hbox hb; replace HO430 := m0 (Kd.R_below (Kd.R_elderB (br HO430.out) gb432 (Nat.le_of_eq hg.symm)) hb); have BK432 := m0 hbox; have GE432 := gw w hg; replace HB := sb HB hb; have NB426_432 := nl BK426 hg; have NB432_426 := ng (nl BK426 hg); replace BK426 := bb BK426 hb; clear hb hbox hg; have hnb11 := NB432_426.out; have hnc11 := NB426_432.out; have hcz12_0 : w10.cell? ⟨gb432, 0, none⟩ = some (.int .i64 0) := (blk_cell BK432.out 0).trans rfl; have hcz12_1 : w10.cell? ⟨gb432, 1, none⟩ = some (.int .i64 0) := (blk_cell BK432.out 1).trans rfl; have hcz12_2 : w10.cell? ⟨gb432, 2, none⟩ = some (.int .i64 0) := (blk_cell BK432.out 2).trans rfl; have hcz12_3 : w10.cell? ⟨gb432, 3, none⟩ = some (.int .i64 0) := (blk_cell BK432.out 3).trans rfl; have hcz12_4 : w10.cell? ⟨gb432, 4, none⟩ = some (.int .i64 0) := (blk_cell BK432.out 4).trans rfl; have hcz12_5 : w10.cell? ⟨gb432, 5, none⟩ = some (.int .i64 0) := (blk_cell BK432.out 5).trans rfl; have hcz12_6 : w10.cell? ⟨gb432, 6, none⟩ = some (.int .i64 0) := (blk_cell BK432.out 6).trans rfl; have hcz12_7 : w10.cell? ⟨gb432, 7, none⟩ = some (.int .i64 0) := (blk_cell BK432.out 7).trans rfl; have hcz12_8 : w10.cell? ⟨gb432, 8, none⟩ = some (.int .i64 0) := (blk_cell BK432.out 8).trans rfl; have hfz12_0 := blk_frozen BK432.out 0; have hfz12_1 := blk_frozen BK432.out 1; have hfz12_2 := blk_frozen BK432.out 2; have hfz12_3 := blk_frozen BK432.out 3; have hfz12_4 := blk_frozen BK432.out 4; have hfz12_5 := blk_frozen BK432.out 5; have hfz12_6 := blk_frozen BK432.out 6; have hfz12_7 := blk_frozen BK432.out 7; have hfz12_8 := blk_frozen BK432.out 8; have hcz13_0 : w10.cell? ⟨gb426, 0, none⟩ = some (.int .i64 0) := (blk_cell BK426.out 0).trans rfl; have hcz13_1 : w10.cell? ⟨gb426, 1, none⟩ = some (.int .i64 0) := (blk_cell BK426.out 1).trans rfl; have hcz13_2 : w10.cell? ⟨gb426, 2, none⟩ = some (.int .i64 0) := (blk_cell BK426.out 2).trans rfl; have hcz13_3 : w10.cell? ⟨gb426, 3, none⟩ = some (.int .i64 0) := (blk_cell BK426.out 3).trans rfl; have hcz13_4 : w10.cell? ⟨gb426, 4, none⟩ = some (.int .i64 0) := (blk_cell BK426.out 4).trans rfl; have hcz13_5 : w10.cell? ⟨gb426, 5, none⟩ = some (.int .i64 0) := (blk_cell BK426.out 5).trans rfl; have hcz13_6 : w10.cell? ⟨gb426, 6, none⟩ = some (.int .i64 0) := (blk_cell BK426.out 6).trans rfl; have hcz13_7 : w10.cell? ⟨gb426, 7, none⟩ = some (.int .i64 0) := (blk_cell BK426.out 7).trans rfl; have hcz13_8 : w10.cell? ⟨gb426, 8, none⟩ = some (.int .i64 0) := (blk_cell BK426.out 8).trans rfl; have hfz13_0 := blk_frozen BK426.out 0; have hfz13_1 := blk_frozen BK426.out 1; have hfz13_2 := blk_frozen BK426.out 2; have hfz13_3 := blk_frozen BK426.out 3; have hfz13_4 := blk_frozen BK426.out 4; have hfz13_5 := blk_frozen BK426.out 5; have hfz13_6 := blk_frozen BK426.out 6; have hfz13_7 := blk_frozen BK426.out 7; have hfz13_8 := blk_frozen BK426.out 8))
    refine bodyPost_ret (results_ct rfl _ _ gb426 45 #[.int .i64 ((rd_T139 t428 a0).f0.f0), .int .i64 ((rd_T139 t428 a0).f0.f1), .int .i64 ((rd_T139 t428 a0).f0.f2), .int .i64 ((rd_T139 t428 a0).f1.f0), .int .i64 ((rd_T139 t428 a0).f1.f1), .int .i64 ((rd_T139 t428 a0).f1.f2), .int .i64 ((rd_T139 t428 a0).f2.f0), .int .i64 ((rd_T139 t428 a0).f2.f1), .int .i64 ((rd_T139 t428 a0).f2.f2)] (0, 0) _ rfl (by (with_reducible repeat (first | refine blk_drewN ?_ _ | refine blk_drew ?_ | refine blk_alloc ?_ _)); refine blk_put (cs := #[.int .i64 ((rd_T139 t428 a0).f0.f0), .int .i64 ((rd_T139 t428 a0).f0.f1), .int .i64 ((rd_T139 t428 a0).f0.f2), .int .i64 ((rd_T139 t428 a0).f1.f0), .int .i64 ((rd_T139 t428 a0).f1.f1), .int .i64 ((rd_T139 t428 a0).f1.f2), .int .i64 ((rd_T139 t428 a0).f2.f0), .int .i64 ((rd_T139 t428 a0).f2.f1), .int .i64 0]) ?_ 8 _ rfl; (with_reducible repeat (first | refine blk_drewN ?_ _ | refine blk_drew ?_ | refine blk_alloc ?_ _)); refine blk_put (cs := #[.int .i64 ((rd_T139 t428 a0).f0.f0), .int .i64 ((rd_T139 t428 a0).f0.f1), .int .i64 ((rd_T139 t428 a0).f0.f2), .int .i64 ((rd_T139 t428 a0).f1.f0), .int .i64 ((rd_T139 t428 a0).f1.f1), .int .i64 ((rd_T139 t428 a0).f1.f2), .int .i64 ((rd_T139 t428 a0).f2.f0), .int .i64 0, .int .i64 0]) ?_ 7 _ rfl; (with_reducible repeat (first | refine blk_drewN ?_ _ | refine blk_drew ?_ | refine blk_alloc ?_ _)); refine blk_put (cs := #[.int .i64 ((rd_T139 t428 a0).f0.f0), .int .i64 ((rd_T139 t428 a0).f0.f1), .int .i64 ((rd_T139 t428 a0).f0.f2), .int .i64 ((rd_T139 t428 a0).f1.f0), .int .i64 ((rd_T139 t428 a0).f1.f1), .int .i64 ((rd_T139 t428 a0).f1.f2), .int .i64 0, .int .i64 0, .int .i64 0]) ?_ 6 _ rfl; (with_reducible repeat (first | refine blk_drewN ?_ _ | refine blk_drew ?_ | refine blk_alloc ?_ _)); refine blk_put (cs := #[.int .i64 ((rd_T139 t428 a0).f0.f0), .int .i64 ((rd_T139 t428 a0).f0.f1), .int .i64 ((rd_T139 t428 a0).f0.f2), .int .i64 ((rd_T139 t428 a0).f1.f0), .int .i64 ((rd_T139 t428 a0).f1.f1), .int .i64 0, .int .i64 0, .int .i64 0, .int .i64 0]) ?_ 5 _ rfl; (with_reducible repeat (first | refine blk_drewN ?_ _ | refine blk_drew ?_ | refine blk_alloc ?_ _)); refine blk_put (cs := #[.int .i64 ((rd_T139 t428 a0).f0.f0), .int .i64 ((rd_T139 t428 a0).f0.f1), .int .i64 ((rd_T139 t428 a0).f0.f2), .int .i64 ((rd_T139 t428 a0).f1.f0), .int .i64 0, .int .i64 0, .int .i64 0, .int .i64 0, .int .i64 0]) ?_ 4 _ rfl; (with_reducible repeat (first | refine blk_drewN ?_ _ | refine blk_drew ?_ | refine blk_alloc ?_ _)); refine blk_put (cs := #[.int .i64 ((rd_T139 t428 a0).f0.f0), .int .i64 ((rd_T139 t428 a0).f0.f1), .int .i64 ((rd_T139 t428 a0).f0.f2), .int .i64 0, .int .i64 0, .int .i64 0, .int .i64 0, .int .i64 0, .int .i64 0]) ?_ 3 _ rfl; (with_reducible repeat (first | refine blk_drewN ?_ _ | refine blk_drew ?_ | refine blk_alloc ?_ _)); refine blk_put (cs := #[.int .i64 ((rd_T139 t428 a0).f0.f0), .int .i64 ((rd_T139 t428 a0).f0.f1), .int .i64 0, .int .i64 0, .int .i64 0, .int .i64 0, .int .i64 0, .int .i64 0, .int .i64 0]) ?_ 2 _ rfl; (with_reducible repeat (first | refine blk_drewN ?_ _ | refine blk_drew ?_ | refine blk_alloc ?_ _)); refine blk_put (cs := #[.int .i64 ((rd_T139 t428 a0).f0.f0), .int .i64 0, .int .i64 0, .int .i64 0, .int .i64 0, .int .i64 0, .int .i64 0, .int .i64 0, .int .i64 0]) ?_ 1 _ rfl; (with_reducible repeat (first | refine blk_drewN ?_ _ | refine blk_drew ?_ | refine blk_alloc ?_ _)); refine blk_put (cs := #[.int .i64 0, .int .i64 0, .int .i64 0, .int .i64 0, .int .i64 0, .int .i64 0, .int .i64 0, .int .i64 0, .int .i64 0]) ?_ 0 _ rfl; (with_reducible repeat (first | refine blk_drewN ?_ _ | refine blk_drew ?_ | refine blk_alloc ?_ _)); refine blk_far ?_ NB426_432.out _; (with_reducible repeat (first | refine blk_drewN ?_ _ | refine blk_drew ?_ | refine blk_alloc ?_ _)); refine blk_far ?_ NB426_432.out _; (with_reducible repeat (first | refine blk_drewN ?_ _ | refine blk_drew ?_ | refine blk_alloc ?_ _)); refine blk_far ?_ NB426_432.out _; (with_reducible repeat (first | refine blk_drewN ?_ _ | refine blk_drew ?_ | refine blk_alloc ?_ _)); refine blk_far ?_ NB426_432.out _; (with_reducible repeat (first | refine blk_drewN ?_ _ | refine blk_drew ?_ | refine blk_alloc ?_ _)); refine blk_far ?_ NB426_432.out _; (with_reducible repeat (first | refine blk_drewN ?_ _ | refine blk_drew ?_ | refine blk_alloc ?_ _)); refine blk_far ?_ NB426_432.out _; (with_reducible repeat (first | refine blk_drewN ?_ _ | refine blk_drew ?_ | refine blk_alloc ?_ _)); refine blk_far ?_ NB426_432.out _; (with_reducible repeat (first | refine blk_drewN ?_ _ | refine blk_drew ?_ | refine blk_alloc ?_ _)); refine blk_far ?_ NB426_432.out _; (with_reducible repeat (first | refine blk_drewN ?_ _ | refine blk_drew ?_ | refine blk_alloc ?_ _)); refine blk_far ?_ NB426_432.out _; (with_reducible repeat (first | refine blk_drewN ?_ _ | refine blk_drew ?_ | refine blk_alloc ?_ _)); exact BK426.out) Try.underlying45 rfl (by kernel_rfl)) rfl ?_
    exact ez
   ·rw [if_neg c6] at H
    exact absurd H (by simp)
  ·rw [if_neg c5] at H
   exact absurd H (by simp)
 ·rw [if_neg c3] at H
  have c3b0 := beq_eq_false_iff_ne.mpr c3
  have c3b1 := bne_iff_ne.mpr c3
  simp only [Option.some.injEq, Prod.mk.injEq] at H
  obtain ⟨rfl, rfl, rfl, rfl, rfl, rfl, rfl, rfl, rfl, rfl⟩ := H
  go_enter Try.func25, Try.ntmps25
  go_wp2_with (first | ((with_reducible refine gate_dst (N := 2) rfl ?_); refine be 2 45 #[.int .i64 0, .int .i64 0, .int .i64 0, .int .i64 0, .int .i64 0, .int .i64 0, .int .i64 0, .int .i64 0, .int .i64 0] ?_; intro gb426 hg w14 hbox hb; have BK426 := m0 hbox; have GE426 := gw w hg; replace HB := sb HB hb; clear hb hbox hg) | ((with_reducible refine gate_callee (f := 83) rfl ?_); refine gl (some 7) Try.func83 #[.int .i64 a0] ?_; (with_reducible refine (L_indexErr.calls a0 t427 _ A2.out).mono ?_); rintro e w' ⟨rfl, ⟨nd, rfl⟩⟩; refine ⟨_, rfl, ?_⟩; (try (rw [drewN_self w14]; generalize hq_ : World.drewN w14 _ = w14; replace BK426 := gd BK426 hq_; replace HB := gs HB hq_; clear hq_)); have hcz15_0 : w14.cell? ⟨gb426, 0, none⟩ = some (.int .i64 0) := (blk_cell BK426.out 0).trans rfl; have hcz15_1 : w14.cell? ⟨gb426, 1, none⟩ = some (.int .i64 0) := (blk_cell BK426.out 1).trans rfl; have hcz15_2 : w14.cell? ⟨gb426, 2, none⟩ = some (.int .i64 0) := (blk_cell BK426.out 2).trans rfl; have hcz15_3 : w14.cell? ⟨gb426, 3, none⟩ = some (.int .i64 0) := (blk_cell BK426.out 3).trans rfl; have hcz15_4 : w14.cell? ⟨gb426, 4, none⟩ = some (.int .i64 0) := (blk_cell BK426.out 4).trans rfl; have hcz15_5 : w14.cell? ⟨gb426, 5, none⟩ = some (.int .i64 0) := (blk_cell BK426.out 5).trans rfl; have hcz15_6 : w14.cell? ⟨gb426, 6, none⟩ = some (.int .i64 0) := (blk_cell BK426.out 6).trans rfl; have hcz15_7 : w14.cell? ⟨gb426, 7, none⟩ = some (.int .i64 0) := (blk_cell BK426.out 7).trans rfl; have hcz15_8 : w14.cell? ⟨gb426, 8, none⟩ = some (.int .i64 0) := (blk_cell BK426.out 8).trans rfl; have hfz15_0 := blk_frozen BK426.out 0; have hfz15_1 := blk_frozen BK426.out 1; have hfz15_2 := blk_frozen BK426.out 2; have hfz15_3 := blk_frozen BK426.out 3; have hfz15_4 := blk_frozen BK426.out 4; have hfz15_5 := blk_frozen BK426.out 5; have hfz15_6 := blk_frozen BK426.out 6; have hfz15_7 := blk_frozen BK426.out 7; have hfz15_8 := blk_frozen BK426.out 8))
  refine bodyPost_ret (results_ct rfl _ _ gb426 45 #[.int .i64 0, .int .i64 0, .int .i64 0, .int .i64 0, .int .i64 0, .int .i64 0, .int .i64 0, .int .i64 0, .int .i64 0] (0, 0) _ rfl (bq BK426.out) Try.underlying45 rfl (by kernel_rfl)) rfl ?_
  exact ez
end
section
def L_TurnedBy.f (k : Nat) (a0 : Int) (a1_0 : Int) (a1_1 : Int) (a1_2 : Int) : Option (Int × Int × Int × Int) := (L_indexErr.f a0).bind fun t435 => ((L_isDirection.f a1_0 a1_1 a1_2).bind fun t436 => ((L_unless.f t436 2).bind fun t437 => ((L_first.f k (([t435, t437] : List Int))).bind fun t441 => (if t441 = 0 then ((L_rotations.f k).bind fun t442 => (if 0 ≤ a0 then (if a0 < (t442.length : Int) then ((L_rotation_turned.f ((rd_T139 t442 a0).f0.f0) ((rd_T139 t442 a0).f0.f1) ((rd_T139 t442 a0).f0.f2) ((rd_T139 t442 a0).f1.f0) ((rd_T139 t442 a0).f1.f1) ((rd_T139 t442 a0).f1.f2) ((rd_T139 t442 a0).f2.f0) ((rd_T139 t442 a0).f2.f1) ((rd_T139 t442 a0).f2.f2) a1_0 a1_1 a1_2).bind fun bt446 => (some (bt446.1, bt446.2.1, bt446.2.2, 0))) else (none)) else (none))) else (some (0, 0, 0, t441))))))
theorem L_TurnedBy.mono : ∀ a0 a1 a2 a3 k, LeO (L_TurnedBy.f k a0 a1 a2 a3) (L_TurnedBy.f (k + 1) a0 a1 a2 a3) := by
 intro a0 a1 a2 a3 k
 unfold L_TurnedBy.f
 repeat' with_reducible first
  | exact L_first.mono ..
  | exact L_rotations.mono ..
  | exact LeO.refl ..
  | exact LeO.none ..
  | refine LeO.ite ?_ ?_
  | refine LeO.bind ?_ (fun _ => ?_)
def L_TurnedBy.T1 : Bool × List (List Nat × List Nat) := (true, [([], []), ([0], [0]), ([], []), ([2, 1], [2]), ([3, 3], [3]), ([1, 4], [1, 4]), ([5, 4], [5]), ([6, 6, 0, 1, 2, 3, 4, 5, 6], [6])])
def L_TurnedBy.B1 : List Nat := [0, 1, 0, 7, 15, 31, 63, 127]
theorem L_TurnedBy.tab1 : rtab .any (opsOf Try.f26 1) = L_TurnedBy.T1 := by kernel_rfl
theorem L_TurnedBy.bits1 : waitsOk L_TurnedBy.T1.2 L_TurnedBy.B1 = true := by kernel_rfl
def L_TurnedBy.T4 : Bool × List (List Nat × List Nat) := (true, [([], []), ([], []), ([0, 1], [0, 1]), ([2], [2]), ([], []), ([3, 4, 0], [3, 4]), ([5, 5, 0, 1, 2, 3, 4, 5], [5]), ([6, 0, 1, 2, 3, 4, 5, 6], [])])
def L_TurnedBy.B4 : List Nat := [0, 0, 3, 7, 0, 31, 63, 127]
theorem L_TurnedBy.tab4 : rtab .any (opsOf Try.f26 4) = L_TurnedBy.T4 := by kernel_rfl
theorem L_TurnedBy.bits4 : waitsOk L_TurnedBy.T4.2 L_TurnedBy.B4 = true := by kernel_rfl
theorem L_TurnedBy.calls (k : Nat) (a0 : Int) (a1_0 : Int) (a1_1 : Int) (a1_2 : Int) (r1 : Int) (r2 : Int) (r3 : Int) (r4 : Int) (w : World) (h : L_TurnedBy.f k a0 a1_0 a1_1 a1_2 = some (r1, r2, r3, r4)) :
  Calls Try.prog 26 #[.int .i64 a0, .agg #[.int .i64 a1_0, .int .i64 a1_1, .int .i64 a1_2]] w fun e w' => e = .returned (.tuple #[.agg #[.int .i64 r1, .int .i64 r2, .int .i64 r3], .int .i64 r4]) ∧ Below w.heap.size w w' := by
 have hu44 := Try.underlying44
 have hu139 := Try.underlying139
 have HB := m0 (Below.refl w.heap.size w)
 have H : ((L_indexErr.f a0).bind fun t435 => ((L_isDirection.f a1_0 a1_1 a1_2).bind fun t436 => ((L_unless.f t436 2).bind fun t437 => ((L_first.f k (([t435, t437] : List Int))).bind fun t441 => (if t441 = 0 then ((L_rotations.f k).bind fun t442 => (if 0 ≤ a0 then (if a0 < (t442.length : Int) then ((L_rotation_turned.f ((rd_T139 t442 a0).f0.f0) ((rd_T139 t442 a0).f0.f1) ((rd_T139 t442 a0).f0.f2) ((rd_T139 t442 a0).f1.f0) ((rd_T139 t442 a0).f1.f1) ((rd_T139 t442 a0).f1.f2) ((rd_T139 t442 a0).f2.f0) ((rd_T139 t442 a0).f2.f1) ((rd_T139 t442 a0).f2.f2) a1_0 a1_1 a1_2).bind fun bt446 => (some (bt446.1, bt446.2.1, bt446.2.2, 0))) else (none)) else (none))) else (some (0, 0, 0, t441))))))) = some (r1, r2, r3, r4) := h
 clear h
 replace H := ob H
 obtain ⟨t435, A3, H⟩ := H
 (try dsimp only at H)
 replace A3 := m0 A3
 replace H := ob H
 obtain ⟨t436, A4, H⟩ := H
 (try dsimp only at H)
 replace A4 := m0 A4
 replace H := ob H
 obtain ⟨t437, A5, H⟩ := H
 (try dsimp only at H)
 replace A5 := m0 A5
 obtain ⟨y438, hy438⟩ : ∃ y_ : List Int, y_ = (([t435, t437] : List Int)) := ⟨_, rfl⟩
 replace H : ((L_first.f k y438).bind fun t441 => (if t441 = 0 then ((L_rotations.f k).bind fun t442 => (if 0 ≤ a0 then (if a0 < (t442.length : Int) then ((L_rotation_turned.f ((rd_T139 t442 a0).f0.f0) ((rd_T139 t442 a0).f0.f1) ((rd_T139 t442 a0).f0.f2) ((rd_T139 t442 a0).f1.f0) ((rd_T139 t442 a0).f1.f1) ((rd_T139 t442 a0).f1.f2) ((rd_T139 t442 a0).f2.f0) ((rd_T139 t442 a0).f2.f1) ((rd_T139 t442 a0).f2.f2) a1_0 a1_1 a1_2).bind fun bt446 => (some (bt446.1, bt446.2.1, bt446.2.2, 0))) else (none)) else (none))) else (some (0, 0, 0, t441)))) = some (r1, r2, r3, r4) := by first | (rw [hy438]; with_reducible exact H) | (have H2_ := (Option.bind_some _ _).symm.trans H; rw [hy438]; with_reducible exact H2_) | (have H2_ := (Option.bind_some _ _).symm.trans H; with_reducible exact H2_) | with_reducible exact H | (rw [hy438]; exact H) | exact H
 have Ny438 := m0 hy438
 clear hy438
 replace H := ob H
 obtain ⟨t441, A6, H⟩ := H
 (try dsimp only at H)
 replace A6 := m0 A6
 by_cases c7 : t441 = 0
 ·rw [if_pos c7] at H
  have c7b0 := beq_iff_eq.mpr c7
  have c7b1 := bne_eq_false_iff_eq.mpr c7
  clear c7
  replace H := ob H
  obtain ⟨t442, A8, H⟩ := H
  (try dsimp only at H)
  replace A8 := m0 A8
  by_cases c9 : 0 ≤ a0
  ·rw [if_pos c9] at H
   have c9b0 := decide_eq_true c9
   clear c9
   by_cases c10 : a0 < (t442.length : Int)
   ·rw [if_pos c10] at H
    have c10b0 := decide_eq_true c10
    clear c10
    replace H := ob H
    obtain ⟨⟨t446, t447, t448⟩, A11, H⟩ := H
    (try dsimp only at H)
    replace A11 := m0 A11
    simp only [Option.some.injEq, Prod.mk.injEq] at H
    obtain ⟨rfl, rfl, rfl, rfl⟩ := H
    go_enter Try.func26, Try.ntmps26
    try go_wp2_with (first | ((with_reducible refine gate_dst (N := 3) rfl ?_); refine be 3 44 #[.int .i64 a1_0, .int .i64 a1_1, .int .i64 a1_2] ?_; intro gb433 hg w12 hbox hb; have BK433 := m0 hbox; have GE433 := gw w hg; replace HB := sb HB hb; clear hb hbox hg) | ((with_reducible refine gate_dst (N := 4) rfl ?_); refine be 4 44 #[.int .i64 0, .int .i64 0, .int .i64 0] ?_; intro gb434 hg w13 hbox hb; have BK434 := m0 hbox; have GE434 := gw w hg; replace HB := sb HB hb; have NB433_434 := nl BK433 hg; have NB434_433 := ng (nl BK433 hg); replace BK433 := bb BK433 hb; clear hb hbox hg))
    replace BK433 := bd BK433; replace BK434 := bd BK434; replace HB := sd HB
    refine start_ (n := 8) (S := fun w' => w'.cell? ⟨gb433, 0, none⟩ = some (.int .i64 a1_0) ∧ w'.cell? ⟨gb433, 1, none⟩ = some (.int .i64 a1_1) ∧ w'.cell? ⟨gb433, 2, none⟩ = some (.int .i64 a1_2)) (ds := []) #[false, false, false, false, false, false, false, false] (by kernel_rfl) rfl rfl cz (fun hH => ?_); refine with_tabW L_TurnedBy.tab1 L_TurnedBy.bits1 (fun HT_ HW_ => ?_)
    generalize w13.drew = w14 at BK433 BK434 HB hH ⊢
    refine pZ 0 (some 7) #[true, false, false, false, false, false, false, false] HT_ ?_
    refine takeZ 2 (some 9) #[true, false, true, false, false, false, false, false] (take_ofW HT_.out HW_.out (by kernel_rfl)) hH ?_
    refine oneZ 1 (some 8) #[true, true, true, false, false, false, false, false] (one_of HT_.out (by kernel_rfl)) fun K hK => ?_
    refine gz Try.func83 #[.int .i64 a0] ?_
    with_reducible refine (L_indexErr.calls a0 t435 _ A3.out).mono ?_
    rintro e w' ⟨rfl, ⟨nd, rfl⟩⟩
    refine ⟨_, rfl, ?_⟩
    refine hK.out _ _ cz (fun hH => ?_)
    clear hK K
    refine norm_ (a' := ?_) ?_ ?_
    rotate_left
    ·show Act.put _ (some 8) _ = _
     exact pz
    refine oneZ 3 (some 10) #[true, true, true, true, false, false, false, false] (one_of HT_.out (by kernel_rfl)) fun K hK => ?_
    refine gz Try.func85 #[.agg #[.int .i64 a1_0, .int .i64 a1_1, .int .i64 a1_2]] ?_
    with_reducible refine (L_isDirection.calls a1_0 a1_1 a1_2 t436 _ A4.out).mono ?_
    rintro e w15 ⟨rfl, hb⟩
    refine ⟨_, rfl, ?_⟩
    replace BK433 := bb BK433 hb; replace BK434 := bb BK434 hb; replace HB := sb HB hb
    (try clear hb)
    refine hK.out _ _ cz (fun hH => ?_)
    clear hK K
    refine norm_ (a' := ?_) ?_ ?_
    rotate_left
    ·show Act.put _ (some 10) _ = _
     exact pz
    refine oneZ 4 (some 11) #[true, true, true, true, true, false, false, false] (one_of HT_.out (by kernel_rfl)) fun K hK => ?_
    refine gz Try.func76 #[.bool t436, .int .i64 2] ?_
    with_reducible refine (L_unless.calls t436 2 t437 _ A5.out).mono ?_
    rintro e w' ⟨rfl, ⟨nd, rfl⟩⟩
    refine ⟨_, rfl, ?_⟩
    refine hK.out _ _ cz (fun hH => ?_)
    clear hK K
    refine norm_ (a' := ?_) ?_ ?_
    rotate_left
    ·show Act.put _ (some 11) _ = _
     exact pz
    refine oneZ 5 (some 12) #[true, true, true, true, true, true, false, false] (one_of HT_.out (by kernel_rfl)) fun K hK => ?_
    refine Kd.R_lit_step (Kd.int .i64) _ 24 ?hg (N := 12) ?hd (xs := ([t435, t437] : List Int)) (inner := [.int .i64 t435, .int .i64 t437]) (ok := fun _ => True) (okp := fun _ => True) ?hr ?hp (fun _ hk => hk) trivial (Below.refl _ _) (Nat.le_refl _) (by simp) ?_; (case hd => rfl); (case hg => rfl); (case hr => first | (go_simp; done) | (go_simp; rfl)); (case hp => exact (Reps.one (show Kd.M (Kd.int .i64) _ _ _ t435 [.int .i64 t435] from rfl) (Reps.one (show Kd.M (Kd.int .i64) _ _ _ t437 [.int .i64 t437] from rfl) (Reps.none _ _))))
    intro v439 w16 ho17 hb hg_ hnew_
    clear hg_ hnew_
    (first | rw [← Ny438.out] at ho17 | (simp only [Int.reduceToNat] at ho17; rw [← Ny438.out] at ho17))
    have HO440 := m0 (Kd.R_lower ho17 (below_size bz)); replace BK433 := bb BK433 hb; replace BK434 := bb BK434 hb; replace HB := sb HB hb
    clear hb ho17
    obtain ⟨Ao18, co18, eo18⟩ := Kd.R_slice HO440.out
    subst eo18
    refine hK.out _ _ cz (fun hH => ?_)
    clear hK K
    refine norm_ (a' := ?_) ?_ ?_
    rotate_left
    ·show Act.put _ (some 12) _ = _
     exact pz
    refine oneZ 6 (some 13) #[true, true, true, true, true, true, true, false] (one_of HT_.out (by kernel_rfl)) fun K hK => ?_
    refine gz Try.func75 #[.slice Ao18 y438.length co18] ?_
    with_reducible refine (L_first.calls k _ _ y438 t441 _ ?side1 ?side2 A6.out).mono ?_
    (case side1 => exact bc (Kd.R_reads' HO440.out).2.2)
    (case side2 => exact (Kd.R_reads' HO440.out).2.1)
    rintro e w' ⟨rfl, ⟨nd, rfl⟩⟩
    refine ⟨_, rfl, ?_⟩
    refine hK.out _ _ cz (fun hH => ?_)
    clear hK K
    refine norm_ (a' := ?_) ?_ ?_
    rotate_left
    ·show Act.put _ (some 13) _ = _
     exact pz
    refine pZ 7 (some 6) #[true, true, true, true, true, true, true, true] HT_ ?_
    refine done_ (done_of HT_.out (by kernel_rfl)) ?_
    try go_wp2
    (try (rw [drewN_self w16]; generalize hq_ : World.drewN w16 _ = w16; replace HO440 := gr HO440 hq_; replace BK433 := gd BK433 hq_; replace BK434 := gd BK434 hq_; replace HB := gs HB hq_; clear hq_))
    replace HO440 := m0 (Kd.R_drew HO440.out); replace BK433 := bd BK433; replace BK434 := bd BK434; replace HB := sd HB
    refine start_ (n := 8) (S := fun w' => w'.cell? ⟨gb433, 0, none⟩ = some (.int .i64 a1_0) ∧ w'.cell? ⟨gb433, 1, none⟩ = some (.int .i64 a1_1) ∧ w'.cell? ⟨gb433, 2, none⟩ = some (.int .i64 a1_2)) (ds := []) #[false, false, false, false, false, false, false, false] (by kernel_rfl) rfl rfl cz (fun hH => ?_); refine with_tabW L_TurnedBy.tab4 L_TurnedBy.bits4 (fun HT_ HW_ => ?_)
    generalize w16.drew = w19 at HO440 BK433 BK434 HB hH ⊢
    refine pZ 1 (some 19) #[false, true, false, false, false, false, false, false] HT_ ?_
    refine takeZ 4 (some 22) #[false, true, false, false, true, false, false, false] (take_ofW HT_.out HW_.out (by kernel_rfl)) hH ?_
    refine oneZ 0 (some 18) #[true, true, false, false, true, false, false, false] (one_of HT_.out (by kernel_rfl)) fun K hK => ?_
    refine gz Try.func84 #[] ?_
    with_reducible refine (L_rotations.calls k  t442 _ A8.out).mono ?_
    rintro e w20 ⟨v443, rfl, ho0, hb⟩
    refine ⟨_, rfl, ?_⟩
    replace HO440 := rb HO440 hb; have HO444 := m0 (Kd.R_lower ho0 (below_size bz)); replace BK433 := bb BK433 hb; replace BK434 := bb BK434 hb; replace HB := sb HB hb
    (try clear hb)
    (try clear ho0)
    obtain ⟨Ao21, co21, eo21⟩ := Kd.R_slice HO444.out
    subst eo21
    have p445 : 0 ≤ (a0 : Int) := od
    have q445 : a0 < (t442.length : Int) := od
    obtain ⟨ad445, e445, hx445_0, hx445_1, hx445_2, hx445_3, hx445_4, hx445_5, hx445_6, hx445_7, hx445_8⟩ := at_T139 (Kd.R_reads' HO444.out).2.2 a0 p445 q445
    cases e445
    replace p445 := eq_true p445
    replace q445 := eq_true q445
    refine hK.out _ _ cz (fun hH => ?_)
    clear hK K
    refine norm_ (a' := ?_) ?_ ?_
    rotate_left
    ·show Act.put _ (some 18) _ = _
     exact pz
    refine pZ 2 (some 20) #[true, true, true, false, true, false, false, false] HT_ ?_
    refine oneZ 3 (some 21) #[true, true, true, true, true, false, false, false] (one_of HT_.out (by kernel_rfl)) fun K hK => ?_
    refine value_ (w1 := ?_) (v := ?_) (by rfl) rfl ?_ ?_
    rotate_left 2
    ·go_simp
     constructor
     ·rfl
     ·rfl
    refine hK.out _ _ cz (fun hH => ?_)
    clear hK K
    refine norm_ (a' := ?_) ?_ ?_
    rotate_left
    ·show Act.put _ (some 21) _ = _
     exact pz
    refine oneZ 5 (some 23) #[true, true, true, true, true, true, false, false] (one_of HT_.out (by kernel_rfl)) fun K hK => ?_
    refine gz Try.func86 #[.agg #[.int .i64 ((rd_T139 t442 a0).f0.f0), .int .i64 ((rd_T139 t442 a0).f0.f1), .int .i64 ((rd_T139 t442 a0).f0.f2), .int .i64 ((rd_T139 t442 a0).f1.f0), .int .i64 ((rd_T139 t442 a0).f1.f1), .int .i64 ((rd_T139 t442 a0).f1.f2), .int .i64 ((rd_T139 t442 a0).f2.f0), .int .i64 ((rd_T139 t442 a0).f2.f1), .int .i64 ((rd_T139 t442 a0).f2.f2)], .agg #[.int .i64 a1_0, .int .i64 a1_1, .int .i64 a1_2]] ?_
    with_reducible refine (L_rotation_turned.calls ((rd_T139 t442 a0).f0.f0) ((rd_T139 t442 a0).f0.f1) ((rd_T139 t442 a0).f0.f2) ((rd_T139 t442 a0).f1.f0) ((rd_T139 t442 a0).f1.f1) ((rd_T139 t442 a0).f1.f2) ((rd_T139 t442 a0).f2.f0) ((rd_T139 t442 a0).f2.f1) ((rd_T139 t442 a0).f2.f2) a1_0 a1_1 a1_2 t446 t447 t448 _ A11.out).mono ?_
    rintro e w22 ⟨rfl, hb⟩
    refine ⟨_, rfl, ?_⟩
    replace HO440 := rb HO440 hb; replace HO444 := rb HO444 hb; replace BK433 := bb BK433 hb; replace BK434 := bb BK434 hb; replace HB := sb HB hb
    (try clear hb)
    refine hK.out _ _ cz (fun hH => ?_)
    clear hK K
    refine norm_ (a' := ?_) ?_ ?_
    rotate_left
    ·show Act.put _ (some 23) _ = _
     exact pz
    refine oneZ 6 (none) #[true, true, true, true, true, true, true, false] (one_of HT_.out (by kernel_rfl)) fun K hK => ?_
    have hs23 : w22.cell? ⟨gb434, 0, none⟩ = some (.int .i64 0) := (blk_cell BK434.out 0).trans rfl
    have hfs23 := blk_frozen BK434.out 0
    have hs24 : w22.cell? ⟨gb434, 1, none⟩ = some (.int .i64 0) := (blk_cell BK434.out 1).trans rfl
    have hfs24 := blk_frozen BK434.out 1
    have hs25 : w22.cell? ⟨gb434, 2, none⟩ = some (.int .i64 0) := (blk_cell BK434.out 2).trans rfl
    have hfs25 := blk_frozen BK434.out 2
    refine skip_ (w1 := ?_) (by rfl) rfl ?_ ?_
    rotate_left
    ·go_simp
     rfl
    refine hK.out _ _ (cf hH) (fun hH => ?_)
    clear hK K
    refine pZ 7 (some 5) #[true, true, true, true, true, true, true, true] HT_ ?_
    refine done_ (done_of HT_.out (by kernel_rfl)) ?_
    try go_wp2
    refine bodyPost_ret (results_ct rfl _ _ gb434 44 #[.int .i64 t446, .int .i64 t447, .int .i64 t448] (0, 0) _ rfl (bq BK434.out) Try.underlying44 rfl (by kernel_rfl)) rfl ?_
    exact ez
   ·rw [if_neg c10] at H
    exact absurd H (by simp)
  ·rw [if_neg c9] at H
   exact absurd H (by simp)
 ·rw [if_neg c7] at H
  have c7b0 := beq_eq_false_iff_ne.mpr c7
  have c7b1 := bne_iff_ne.mpr c7
  simp only [Option.some.injEq, Prod.mk.injEq] at H
  obtain ⟨rfl, rfl, rfl, rfl⟩ := H
  go_enter Try.func26, Try.ntmps26
  try go_wp2_with (first | ((with_reducible refine gate_dst (N := 3) rfl ?_); refine be 3 44 #[.int .i64 a1_0, .int .i64 a1_1, .int .i64 a1_2] ?_; intro gb433 hg w26 hbox hb; have BK433 := m0 hbox; have GE433 := gw w hg; replace HB := sb HB hb; clear hb hbox hg) | ((with_reducible refine gate_dst (N := 4) rfl ?_); refine be 4 44 #[.int .i64 0, .int .i64 0, .int .i64 0] ?_; intro gb434 hg w27 hbox hb; have BK434 := m0 hbox; have GE434 := gw w hg; replace HB := sb HB hb; have NB433_434 := nl BK433 hg; have NB434_433 := ng (nl BK433 hg); replace BK433 := bb BK433 hb; clear hb hbox hg))
  replace BK433 := bd BK433; replace BK434 := bd BK434; replace HB := sd HB
  refine start_ (n := 8) (S := fun w' => w'.cell? ⟨gb433, 0, none⟩ = some (.int .i64 a1_0) ∧ w'.cell? ⟨gb433, 1, none⟩ = some (.int .i64 a1_1) ∧ w'.cell? ⟨gb433, 2, none⟩ = some (.int .i64 a1_2)) (ds := []) #[false, false, false, false, false, false, false, false] (by kernel_rfl) rfl rfl cz (fun hH => ?_); refine with_tabW L_TurnedBy.tab1 L_TurnedBy.bits1 (fun HT_ HW_ => ?_)
  generalize w27.drew = w28 at BK433 BK434 HB hH ⊢
  refine pZ 0 (some 7) #[true, false, false, false, false, false, false, false] HT_ ?_
  refine takeZ 2 (some 9) #[true, false, true, false, false, false, false, false] (take_ofW HT_.out HW_.out (by kernel_rfl)) hH ?_
  refine oneZ 1 (some 8) #[true, true, true, false, false, false, false, false] (one_of HT_.out (by kernel_rfl)) fun K hK => ?_
  refine gz Try.func83 #[.int .i64 a0] ?_
  with_reducible refine (L_indexErr.calls a0 t435 _ A3.out).mono ?_
  rintro e w' ⟨rfl, ⟨nd, rfl⟩⟩
  refine ⟨_, rfl, ?_⟩
  refine hK.out _ _ cz (fun hH => ?_)
  clear hK K
  refine norm_ (a' := ?_) ?_ ?_
  rotate_left
  ·show Act.put _ (some 8) _ = _
   exact pz
  refine oneZ 3 (some 10) #[true, true, true, true, false, false, false, false] (one_of HT_.out (by kernel_rfl)) fun K hK => ?_
  refine gz Try.func85 #[.agg #[.int .i64 a1_0, .int .i64 a1_1, .int .i64 a1_2]] ?_
  with_reducible refine (L_isDirection.calls a1_0 a1_1 a1_2 t436 _ A4.out).mono ?_
  rintro e w29 ⟨rfl, hb⟩
  refine ⟨_, rfl, ?_⟩
  replace BK433 := bb BK433 hb; replace BK434 := bb BK434 hb; replace HB := sb HB hb
  (try clear hb)
  refine hK.out _ _ cz (fun hH => ?_)
  clear hK K
  refine norm_ (a' := ?_) ?_ ?_
  rotate_left
  ·show Act.put _ (some 10) _ = _
   exact pz
  refine oneZ 4 (some 11) #[true, true, true, true, true, false, false, false] (one_of HT_.out (by kernel_rfl)) fun K hK => ?_
  refine gz Try.func76 #[.bool t436, .int .i64 2] ?_
  with_reducible refine (L_unless.calls t436 2 t437 _ A5.out).mono ?_
  rintro e w' ⟨rfl, ⟨nd, rfl⟩⟩
  refine ⟨_, rfl, ?_⟩
  refine hK.out _ _ cz (fun hH => ?_)
  clear hK K
  refine norm_ (a' := ?_) ?_ ?_
  rotate_left
  ·show Act.put _ (some 11) _ = _
   exact pz
  refine oneZ 5 (some 12) #[true, true, true, true, true, true, false, false] (one_of HT_.out (by kernel_rfl)) fun K hK => ?_
  refine Kd.R_lit_step (Kd.int .i64) _ 24 ?hg (N := 12) ?hd (xs := ([t435, t437] : List Int)) (inner := [.int .i64 t435, .int .i64 t437]) (ok := fun _ => True) (okp := fun _ => True) ?hr ?hp (fun _ hk => hk) trivial (Below.refl _ _) (Nat.le_refl _) (by simp) ?_; (case hd => rfl); (case hg => rfl); (case hr => first | (go_simp; done) | (go_simp; rfl)); (case hp => exact (Reps.one (show Kd.M (Kd.int .i64) _ _ _ t435 [.int .i64 t435] from rfl) (Reps.one (show Kd.M (Kd.int .i64) _ _ _ t437 [.int .i64 t437] from rfl) (Reps.none _ _))))
  intro v439 w30 ho31 hb hg_ hnew_
  clear hg_ hnew_
  (first | rw [← Ny438.out] at ho31 | (simp only [Int.reduceToNat] at ho31; rw [← Ny438.out] at ho31))
  have HO440 := m0 (Kd.R_lower ho31 (below_size bz)); replace BK433 := bb BK433 hb; replace BK434 := bb BK434 hb; replace HB := sb HB hb
  clear hb ho31
  obtain ⟨Ao32, co32, eo32⟩ := Kd.R_slice HO440.out
  subst eo32
  refine hK.out _ _ cz (fun hH => ?_)
  clear hK K
  refine norm_ (a' := ?_) ?_ ?_
  rotate_left
  ·show Act.put _ (some 12) _ = _
   exact pz
  refine oneZ 6 (some 13) #[true, true, true, true, true, true, true, false] (one_of HT_.out (by kernel_rfl)) fun K hK => ?_
  refine gz Try.func75 #[.slice Ao32 y438.length co32] ?_
  with_reducible refine (L_first.calls k _ _ y438 t441 _ ?side1 ?side2 A6.out).mono ?_
  (case side1 => exact bc (Kd.R_reads' HO440.out).2.2)
  (case side2 => exact (Kd.R_reads' HO440.out).2.1)
  rintro e w' ⟨rfl, ⟨nd, rfl⟩⟩
  refine ⟨_, rfl, ?_⟩
  refine hK.out _ _ cz (fun hH => ?_)
  clear hK K
  refine norm_ (a' := ?_) ?_ ?_
  rotate_left
  ·show Act.put _ (some 13) _ = _
   exact pz
  refine pZ 7 (some 6) #[true, true, true, true, true, true, true, true] HT_ ?_
  refine done_ (done_of HT_.out (by kernel_rfl)) ?_
  have hnb33 := NB434_433.out
  have hnc33 := NB433_434.out
  obtain ⟨_, _, _, _, _, _⟩ := b3 BK434
  try go_wp2
  refine bodyPost_ret (results_ct rfl _ _ gb434 44 #[.int .i64 0, .int .i64 0, .int .i64 0] (0, 0) _ rfl (bq BK434.out) Try.underlying44 rfl (by kernel_rfl)) rfl ?_
  exact ez
end
section
def Rf_dot.f (a0_0 : Int) (a0_1 : Int) (a0_2 : Int) (a1_0 : Int) (a1_1 : Int) (a1_2 : Int) : Option (Int) := some (wrap64 ((wrap64 ((wrap64 (a0_0 * a1_0)) + (wrap64 (a0_1 * a1_1)))) + (wrap64 (a0_2 * a1_2))))
theorem Rf_dot.calls (a0_0 : Int) (a0_1 : Int) (a0_2 : Int) (a1_0 : Int) (a1_1 : Int) (a1_2 : Int) (r : Int) (w : World) (h : Rf_dot.f a0_0 a0_1 a0_2 a1_0 a1_1 a1_2 = some r) :
  Calls Try.prog 87 #[.agg #[.int .i64 a0_0, .int .i64 a0_1, .int .i64 a0_2], .agg #[.int .i64 a1_0, .int .i64 a1_1, .int .i64 a1_2]] w fun e w' => e = .returned (.int .i64 r) ∧ Below w.heap.size w w' := by
 have hu44 := Try.underlying44
 have hix44_0 : ∀ (g_ : Nat) (W_ : World), (Instr.indexAt 44 (.pointer (some ⟨g_, 0, none⟩)) (.int .i64 0)).run Try.prog W_ = .ok (.pointer (some ⟨g_, 0, none⟩)) W_ := fun _ _ => by kernel_rfl
 have hix44_1 : ∀ (g_ : Nat) (W_ : World), (Instr.indexAt 44 (.pointer (some ⟨g_, 0, none⟩)) (.int .i64 1)).run Try.prog W_ = .ok (.pointer (some ⟨g_, 1, none⟩)) W_ := fun _ _ => by kernel_rfl
 have hix44_2 : ∀ (g_ : Nat) (W_ : World), (Instr.indexAt 44 (.pointer (some ⟨g_, 0, none⟩)) (.int .i64 2)).run Try.prog W_ = .ok (.pointer (some ⟨g_, 2, none⟩)) W_ := fun _ _ => by kernel_rfl
 have HB := m0 (Below.refl w.heap.size w)
 have H : (some (wrap64 ((wrap64 ((wrap64 (a0_0 * a1_0)) + (wrap64 (a0_1 * a1_1)))) + (wrap64 (a0_2 * a1_2))))) = some r := h
 clear h
 obtain rfl := Option.some.inj H
 go_enter Try.func87, Try.ntmps87
 go_wp2_with (first | ((with_reducible refine gate_dst (N := 2) rfl ?_); refine be 2 44 #[.int .i64 a0_0, .int .i64 a0_1, .int .i64 a0_2] ?_; intro gb449 hg w3 hbox hb; have BK449 := m0 hbox; have GE449 := gw w hg; replace HB := sb HB hb; clear hb hbox hg) | ((with_reducible refine gate_dst (N := 3) rfl ?_); refine be 3 44 #[.int .i64 a1_0, .int .i64 a1_1, .int .i64 a1_2] ?_; intro gb450 hg w4 hbox hb; have BK450 := m0 hbox; have GE450 := gw w hg; replace HB := sb HB hb; have NB449_450 := nl BK449 hg; have NB450_449 := ng (nl BK449 hg); replace BK449 := bb BK449 hb; clear hb hbox hg; have hnb5 := NB449_450.out; have hnc5 := NB450_449.out; obtain ⟨_, _, _, _, _, _⟩ := b3 BK449; obtain ⟨_, _, _, _, _, _⟩ := b3 BK450))
 go_ret
 exact ez
end
section
def Rf_cross.f (a0_0 : Int) (a0_1 : Int) (a0_2 : Int) (a1_0 : Int) (a1_1 : Int) (a1_2 : Int) : Option (Int × Int × Int) := some (wrap64 ((wrap64 (a0_1 * a1_2)) - (wrap64 (a0_2 * a1_1))), wrap64 ((wrap64 (a0_2 * a1_0)) - (wrap64 (a0_0 * a1_2))), wrap64 ((wrap64 (a0_0 * a1_1)) - (wrap64 (a0_1 * a1_0))))
theorem Rf_cross.calls (a0_0 : Int) (a0_1 : Int) (a0_2 : Int) (a1_0 : Int) (a1_1 : Int) (a1_2 : Int) (r1 : Int) (r2 : Int) (r3 : Int) (w : World) (h : Rf_cross.f a0_0 a0_1 a0_2 a1_0 a1_1 a1_2 = some (r1, r2, r3)) :
  Calls Try.prog 88 #[.agg #[.int .i64 a0_0, .int .i64 a0_1, .int .i64 a0_2], .agg #[.int .i64 a1_0, .int .i64 a1_1, .int .i64 a1_2]] w fun e w' => e = .returned (.agg #[.int .i64 r1, .int .i64 r2, .int .i64 r3]) ∧ Below w.heap.size w w' := by
 have hu44 := Try.underlying44
 have hix44_0 : ∀ (g_ : Nat) (W_ : World), (Instr.indexAt 44 (.pointer (some ⟨g_, 0, none⟩)) (.int .i64 0)).run Try.prog W_ = .ok (.pointer (some ⟨g_, 0, none⟩)) W_ := fun _ _ => by kernel_rfl
 have hix44_1 : ∀ (g_ : Nat) (W_ : World), (Instr.indexAt 44 (.pointer (some ⟨g_, 0, none⟩)) (.int .i64 1)).run Try.prog W_ = .ok (.pointer (some ⟨g_, 1, none⟩)) W_ := fun _ _ => by kernel_rfl
 have hix44_2 : ∀ (g_ : Nat) (W_ : World), (Instr.indexAt 44 (.pointer (some ⟨g_, 0, none⟩)) (.int .i64 2)).run Try.prog W_ = .ok (.pointer (some ⟨g_, 2, none⟩)) W_ := fun _ _ => by kernel_rfl
 have HB := m0 (Below.refl w.heap.size w)
 have H : (some (wrap64 ((wrap64 (a0_1 * a1_2)) - (wrap64 (a0_2 * a1_1))), wrap64 ((wrap64 (a0_2 * a1_0)) - (wrap64 (a0_0 * a1_2))), wrap64 ((wrap64 (a0_0 * a1_1)) - (wrap64 (a0_1 * a1_0))))) = some (r1, r2, r3) := h
 clear h
 simp only [Option.some.injEq, Prod.mk.injEq] at H
 obtain ⟨rfl, rfl, rfl⟩ := H
 go_enter Try.func88, Try.ntmps88
 go_wp2_with (first | ((with_reducible refine gate_dst (N := 2) rfl ?_); refine be 2 44 #[.int .i64 a0_0, .int .i64 a0_1, .int .i64 a0_2] ?_; intro gb451 hg w3 hbox hb; have BK451 := m0 hbox; have GE451 := gw w hg; replace HB := sb HB hb; clear hb hbox hg) | ((with_reducible refine gate_dst (N := 3) rfl ?_); refine be 3 44 #[.int .i64 a1_0, .int .i64 a1_1, .int .i64 a1_2] ?_; intro gb452 hg w4 hbox hb; have BK452 := m0 hbox; have GE452 := gw w hg; replace HB := sb HB hb; have NB451_452 := nl BK451 hg; have NB452_451 := ng (nl BK451 hg); replace BK451 := bb BK451 hb; clear hb hbox hg) | ((with_reducible refine gate_dst (N := 4) rfl ?_); refine be 4 44 #[.int .i64 0, .int .i64 0, .int .i64 0] ?_; intro gb453 hg w5 hbox hb; have BK453 := m0 hbox; have GE453 := gw w hg; replace HB := sb HB hb; have NB451_453 := nl BK451 hg; have NB453_451 := ng (nl BK451 hg); replace BK451 := bb BK451 hb; have NB452_453 := nl BK452 hg; have NB453_452 := ng (nl BK452 hg); replace BK452 := bb BK452 hb; clear hb hbox hg; have hnb6 := NB451_452.out; have hnc6 := NB452_451.out; have hnb7 := NB451_453.out; have hnc7 := NB453_451.out; obtain ⟨_, _, _, _, _, _⟩ := b3 BK451; have hnb9 := NB452_453.out; have hnc9 := NB453_452.out; obtain ⟨_, _, _, _, _, _⟩ := b3 BK452; obtain ⟨_, _, _, _, _, _⟩ := b3 BK453))
 refine bodyPost_ret (results_cell_row rfl _ _ gb453 44 #[.int .i64 (wrap64 ((wrap64 (a0_1 * a1_2)) - (wrap64 (a0_2 * a1_1)))), .int .i64 (wrap64 ((wrap64 (a0_2 * a1_0)) - (wrap64 (a0_0 * a1_2)))), .int .i64 (wrap64 ((wrap64 (a0_0 * a1_1)) - (wrap64 (a0_1 * a1_0))))] (0, 0) _ rfl (bq BK453.out) Try.underlying44 rfl (by kernel_rfl)) rfl ?_
 exact ez
end
section
mutual
def Rf_Rotations.l0 : Nat → List (S44) → List (S45) → Int → Option ((List (S45)))
  | 0, _, _, _ => none
  | k + 1, x1, x2, x3 => if x3 < (x1.length : Int) then (Rf_Rotations.l1 k x1 x2 x3 0) else (some x2)
def Rf_Rotations.l1 : Nat → List (S44) → List (S45) → Int → Int → Option ((List (S45)))
  | 0, _, _, _, _ => none
  | k + 1, x1, x2, x3, x4 => if x4 < (x1.length : Int) then (if 0 ≤ x3 then (if x3 < (x1.length : Int) then (if 0 ≤ x4 then ((Rf_dot.f ((rd_T44 x1 x3).f0) ((rd_T44 x1 x3).f1) ((rd_T44 x1 x3).f2) ((rd_T44 x1 x4).f0) ((rd_T44 x1 x4).f1) ((rd_T44 x1 x4).f2)).bind fun t459 => (if t459 = 0 then ((Rf_cross.f ((rd_T44 x1 x3).f0) ((rd_T44 x1 x3).f1) ((rd_T44 x1 x3).f2) ((rd_T44 x1 x4).f0) ((rd_T44 x1 x4).f1) ((rd_T44 x1 x4).f2)).bind fun bt464 => (if x2.length < 1954687338268 then (Rf_Rotations.l1 k x1 (x2 ++ [(⟨(⟨(rd_T44 x1 x3).f0, (rd_T44 x1 x3).f1, (rd_T44 x1 x3).f2⟩ : S44), (⟨(rd_T44 x1 x4).f0, (rd_T44 x1 x4).f1, (rd_T44 x1 x4).f2⟩ : S44), (⟨bt464.1, bt464.2.1, bt464.2.2⟩ : S44)⟩ : S45)]) x3 (wrap64 (x4 + 1))) else (none))) else (Rf_Rotations.l1 k x1 x2 x3 (wrap64 (x4 + 1))))) else (none)) else (none)) else (none)) else (Rf_Rotations.l0 k x1 x2 (wrap64 (x3 + 1)))
end
def Rf_Rotations.f (k : Nat)  : Option ((List (S45))) := Rf_Rotations.l0 k (([(⟨(-1), 0, 0⟩ : S44), (⟨0, (-1), 0⟩ : S44), (⟨0, 0, (-1)⟩ : S44), (⟨0, 0, 1⟩ : S44), (⟨0, 1, 0⟩ : S44), (⟨1, 0, 0⟩ : S44)] : List (S44))) ([] : List (S45)) 0
theorem Rf_Rotations.mono_l : ∀ k, (∀ y0 y1 y2, LeO (Rf_Rotations.l0 k y0 y1 y2) (Rf_Rotations.l0 (k + 1) y0 y1 y2)) ∧ (∀ y0 y1 y2 y3, LeO (Rf_Rotations.l1 k y0 y1 y2 y3) (Rf_Rotations.l1 (k + 1) y0 y1 y2 y3))
  | 0 => ⟨fun _ _ _ r h => by simp [Rf_Rotations.l0] at h, fun _ _ _ _ r h => by simp [Rf_Rotations.l1] at h⟩
  | k + 1 => by
    obtain ⟨ih0, ih1⟩ := Rf_Rotations.mono_l k
    refine ⟨?_, ?_⟩
    · intro y0 y1 y2
      unfold Rf_Rotations.l0
      repeat' with_reducible first
        | exact ih0 ..
        | exact ih1 ..
        | exact LeO.refl ..
        | exact LeO.none ..
        | refine LeO.ite ?_ ?_
        | refine LeO.bind ?_ (fun _ => ?_)
    · intro y0 y1 y2 y3
      unfold Rf_Rotations.l1
      repeat' with_reducible first
        | exact ih0 ..
        | exact ih1 ..
        | exact LeO.refl ..
        | exact LeO.none ..
        | refine LeO.ite ?_ ?_
        | refine LeO.bind ?_ (fun _ => ?_)
theorem Rf_Rotations.mono : ∀ k, LeO (Rf_Rotations.f k ) (Rf_Rotations.f (k + 1) ) := by
  intro  k
  obtain ⟨ih0, ih1⟩ := Rf_Rotations.mono_l k
  unfold Rf_Rotations.f
  repeat' with_reducible first
    | exact ih0 ..
    | exact ih1 ..
    | exact LeO.refl ..
    | exact LeO.none ..
    | refine LeO.ite ?_ ?_
    | refine LeO.bind ?_ (fun _ => ?_)
def Rf_Rotations.T9 : Bool × List (List Nat × List Nat) := (true, [([], []), ([], []), ([0, 1], [0, 1]), ([2], [2]), ([], []), ([], []), ([4, 5], [4, 5]), ([6], [6]), ([3, 7], [3, 7]), ([8], [8])])
def Rf_Rotations.B9 : List Nat := [0, 0, 3, 7, 0, 0, 48, 112, 255, 511]
theorem Rf_Rotations.tab9 : rtab .any (opsOf Try.f27 9) = Rf_Rotations.T9 := by kernel_rfl
theorem Rf_Rotations.bits9 : waitsOk Rf_Rotations.T9.2 Rf_Rotations.B9 = true := by kernel_rfl
def Rf_Rotations.T10 : Bool × List (List Nat × List Nat) := (true, [([], []), ([], []), ([], []), ([1, 2], [1, 2]), ([3], [3]), ([], []), ([], []), ([5, 6], [5, 6]), ([7], [7]), ([], []), ([], []), ([9, 10], [9, 10]), ([11], [11]), ([], []), ([], []), ([13, 14], [13, 14]), ([15], [15]), ([12, 16], [12, 16]), ([4, 8, 17], [4, 8, 17]), ([18], [18]), ([0, 19, 17], [0, 19]), ([20, 20, 0, 1, 2, 3, 4, 5, 6, 7, 8, 9, 10, 11, 12, 13, 14, 15, 16, 17, 18, 19, 20], [0, 20])])
def Rf_Rotations.B10 : List Nat := [0, 0, 0, 6, 14, 0, 0, 96, 224, 0, 0, 1536, 3584, 0, 0, 24576, 57344, 130560, 262142, 524286, 1048575, 2097151]
theorem Rf_Rotations.tab10 : rtab .any (opsOf Try.f27 10) = Rf_Rotations.T10 := by kernel_rfl
theorem Rf_Rotations.bits10 : waitsOk Rf_Rotations.T10.2 Rf_Rotations.B10 = true := by kernel_rfl
theorem Rf_Rotations.calls (k : Nat)  (r : List (S45)) (w : World) (h : Rf_Rotations.f k  = some r) :
    Calls Try.prog 27 #[] w fun e w' => ∃ v0_ : Value, e = .returned (v0_) ∧ Kd.R k45 45 w' w.heap.size (fun _ => True) v0_ r ∧ Below w.heap.size w w' := by
  have hu44 := Try.underlying44
  have hu45 := Try.underlying45
  have HB := m0 (Below.refl w.heap.size w)
  have H : (Rf_Rotations.l0 k (([(⟨(-1), 0, 0⟩ : S44), (⟨0, (-1), 0⟩ : S44), (⟨0, 0, (-1)⟩ : S44), (⟨0, 0, 1⟩ : S44), (⟨0, 1, 0⟩ : S44), (⟨1, 0, 0⟩ : S44)] : List (S44))) ([] : List (S45)) 0) = some r := h
  clear h
  obtain ⟨y454, hy454⟩ : ∃ y_ : List (S44), y_ = (([(⟨(-1), 0, 0⟩ : S44), (⟨0, (-1), 0⟩ : S44), (⟨0, 0, (-1)⟩ : S44), (⟨0, 0, 1⟩ : S44), (⟨0, 1, 0⟩ : S44), (⟨1, 0, 0⟩ : S44)] : List (S44))) := ⟨_, rfl⟩
  replace H : (Rf_Rotations.l0 k y454 ([] : List (S45)) 0) = some r := by first | (rw [hy454]; with_reducible exact H) | (have H2_ := (Option.bind_some _ _).symm.trans H; rw [hy454]; with_reducible exact H2_) | (have H2_ := (Option.bind_some _ _).symm.trans H; with_reducible exact H2_) | with_reducible exact H | (rw [hy454]; exact H) | exact H
  have Ny454 := m0 hy454
  clear hy454
  have H' := m0 H
  clear H
  go_enter Try.func27, Try.ntmps27
  go_wp2_with (first | ((with_reducible refine gate_dst (N := 11) rfl ?_); refine Kd.R_lit k44 _ 44 ?hg (N := 11) ?hd (xs := ([(⟨(-1), 0, 0⟩ : S44), (⟨0, (-1), 0⟩ : S44), (⟨0, 0, (-1)⟩ : S44), (⟨0, 0, 1⟩ : S44), (⟨0, 1, 0⟩ : S44), (⟨1, 0, 0⟩ : S44)] : List (S44))) (inner := [.int .i64 (-1), .int .i64 0, .int .i64 0, .int .i64 0, .int .i64 (-1), .int .i64 0, .int .i64 0, .int .i64 0, .int .i64 (-1), .int .i64 0, .int .i64 0, .int .i64 1, .int .i64 0, .int .i64 1, .int .i64 0, .int .i64 1, .int .i64 0, .int .i64 0]) (ok := fun _ => True) (okp := fun _ => True) ?hr ?hp (fun _ hk => hk) trivial (Below.refl _ _) (Nat.le_refl _) (by simp) ?_; (case hd => rfl); (case hg => rfl); (case hr => first | (go_simp; done) | (go_simp; rfl)); (case hp => exact (Reps.c3 (show Kd.M k44 _ _ _ (⟨(-1), 0, 0⟩ : S44) [.int .i64 (-1), .int .i64 0, .int .i64 0] from (k44_mkM _ _ _ (⟨(-1), 0, 0⟩ : S44) )) (Reps.c3 (show Kd.M k44 _ _ _ (⟨0, (-1), 0⟩ : S44) [.int .i64 0, .int .i64 (-1), .int .i64 0] from (k44_mkM _ _ _ (⟨0, (-1), 0⟩ : S44) )) (Reps.c3 (show Kd.M k44 _ _ _ (⟨0, 0, (-1)⟩ : S44) [.int .i64 0, .int .i64 0, .int .i64 (-1)] from (k44_mkM _ _ _ (⟨0, 0, (-1)⟩ : S44) )) (Reps.c3 (show Kd.M k44 _ _ _ (⟨0, 0, 1⟩ : S44) [.int .i64 0, .int .i64 0, .int .i64 1] from (k44_mkM _ _ _ (⟨0, 0, 1⟩ : S44) )) (Reps.c3 (show Kd.M k44 _ _ _ (⟨0, 1, 0⟩ : S44) [.int .i64 0, .int .i64 1, .int .i64 0] from (k44_mkM _ _ _ (⟨0, 1, 0⟩ : S44) )) (Reps.c3 (show Kd.M k44 _ _ _ (⟨1, 0, 0⟩ : S44) [.int .i64 1, .int .i64 0, .int .i64 0] from (k44_mkM _ _ _ (⟨1, 0, 0⟩ : S44) )) (Reps.none _ _)))))))); intro v455 w1 ho2 hb hg_ hnew_; clear hg_ hnew_; (first | rw [← Ny454.out] at ho2 | (simp only [Int.reduceToNat] at ho2; rw [← Ny454.out] at ho2)); have HO456 := m0 (Kd.R_lower ho2 (below_size bz)); replace HB := sb HB hb; clear hb ho2))
  go_loopg [2, 3] k (fun kq v2 v3 w' => ∃ (x2_1 : List (S45)) (x3_1 : Int), v3 = .int .i64 x3_1 ∧ Aside0 (Rf_Rotations.l0 kq y454 x2_1 x3_1 = some r) ∧ Aside0 (kq ≤ k) ∧ Aside0 (Kd.R k44 44 w' w.heap.size (fun _ => True) v455 y454) ∧ Aside0 (Kd.R k45 45 w' w.heap.size (fun _ => True) v2 x2_1) ∧ Aside0 (Below w.heap.size w w'))
  case atStart => exact ⟨(([] : List (S45))), (0), (by first | rfl | (simp; done) | (simp [*]; done)), H', ⟨Nat.le_refl _⟩, ⟨br HO456.out⟩, ⟨by first | exact Kd.R_nil _ _ _ _ _ | exact Kd.N_nil _ _ _ _ _ | exact Kd.V_nil _ _ _ _ _ | exact Kd.Q_nil _ _ _ _ _ | exact Kd.S_nil _ _ _ _ _⟩, ⟨bz⟩⟩
  case round =>
    clear H'
    obtain ⟨x2_1, x3_1, rfl, HA, HK1, HO_1, HO_2, HB⟩ := hrel
    cases gk with
    | zero => exact absurd HA.out (by simp [Rf_Rotations.l0])
    | succ k1 =>
      have H := HA.out
      clear HA
      simp only [Rf_Rotations.l0] at H
      by_cases c3 : x3_1 < (y454.length : Int)
      · rw [if_pos c3] at H
        have c3b0 := decide_eq_true c3
        clear c3
        have H' := m0 H
        clear H
        obtain ⟨Ao4, co4, eo4⟩ := Kd.R_slice HO_1.out
        subst eo4
        go_wp2
        go_loopg [2, 4] k1 (fun kq v2 v4 w' => ∃ (x2_2 : List (S45)) (x4_2 : Int), v4 = .int .i64 x4_2 ∧ Aside0 (Rf_Rotations.l1 kq y454 x2_2 x3_1 x4_2 = some r) ∧ Aside0 (kq ≤ k1) ∧ Aside0 (Kd.R k44 44 w' w.heap.size (fun _ => True) (.slice Ao4 y454.length co4) y454) ∧ Aside0 (Kd.R k45 45 w' w.heap.size (fun _ => True) v2 x2_2) ∧ Aside0 (Below w.heap.size w w'))
        case atStart => exact ⟨(x2_1), (0), (by first | rfl | (simp; done) | (simp [*]; done)), H', ⟨Nat.le_refl _⟩, ⟨br HO_1.out⟩, ⟨br HO_2.out⟩, ⟨bz⟩⟩
        case round =>
          clear H'
          obtain ⟨x2_2, x4_2, rfl, HA, HK2, HO_1, HO_2, HB⟩ := hrel
          cases gk with
          | zero => exact absurd HA.out (by simp [Rf_Rotations.l1])
          | succ k2 =>
            have H := HA.out
            clear HA
            simp only [Rf_Rotations.l1] at H
            by_cases c5 : x4_2 < (y454.length : Int)
            · rw [if_pos c5] at H
              have c5b0 := decide_eq_true c5
              clear c5
              by_cases c6 : 0 ≤ x3_1
              · rw [if_pos c6] at H
                have c6b0 := decide_eq_true c6
                clear c6
                by_cases c7 : x3_1 < (y454.length : Int)
                · rw [if_pos c7] at H
                  have c7b0 := decide_eq_true c7
                  clear c7
                  by_cases c8 : 0 ≤ x4_2
                  · rw [if_pos c8] at H
                    have c8b0 := decide_eq_true c8
                    clear c8
                    replace H := ob H
                    obtain ⟨t459, A9, H⟩ := H
                    (try dsimp only at H)
                    replace A9 := m0 A9
                    by_cases c10 : t459 = 0
                    · rw [if_pos c10] at H
                      have c10b0 := beq_iff_eq.mpr c10
                      have c10b1 := bne_eq_false_iff_eq.mpr c10
                      clear c10
                      replace H := ob H
                      obtain ⟨⟨t464, t465, t466⟩, A11, H⟩ := H
                      (try dsimp only at H)
                      replace A11 := m0 A11
                      by_cases c12 : x2_2.length < 1954687338268
                      · rw [if_pos c12] at H
                        have LMc12 := m0 c12
                        clear c12
                        obtain ⟨y467, hy467⟩ : ∃ y_ : List (S45), y_ = (x2_2 ++ [(⟨(⟨(rd_T44 y454 x3_1).f0, (rd_T44 y454 x3_1).f1, (rd_T44 y454 x3_1).f2⟩ : S44), (⟨(rd_T44 y454 x4_2).f0, (rd_T44 y454 x4_2).f1, (rd_T44 y454 x4_2).f2⟩ : S44), (⟨t464, t465, t466⟩ : S44)⟩ : S45)]) := ⟨_, rfl⟩
                        replace H : (Rf_Rotations.l1 k2 y454 y467 x3_1 (wrap64 (x4_2 + 1))) = some r := by first | (rw [hy467]; with_reducible exact H) | (have H2_ := (Option.bind_some _ _).symm.trans H; rw [hy467]; with_reducible exact H2_) | (have H2_ := (Option.bind_some _ _).symm.trans H; with_reducible exact H2_) | with_reducible exact H | (rw [hy467]; exact H) | exact H
                        have Ny467 := m0 hy467
                        clear hy467
                        have H' := m0 H
                        clear H
                        try go_wp2
                        replace HO_1 := m0 (Kd.R_drew HO_1.out); replace HO_2 := m0 (Kd.R_drew HO_2.out); replace HB := sd HB
                        have p457 : 0 ≤ (x3_1 : Int) := od
                        have q457 : x3_1 < (y454.length : Int) := od
                        obtain ⟨ad457, e457, hx457_0, hx457_1, hx457_2⟩ := at_T44 (Kd.R_reads' HO_1.out).2.2 x3_1 p457 q457
                        cases e457
                        replace p457 := eq_true p457
                        replace q457 := eq_true q457
                        have p458 : 0 ≤ (x4_2 : Int) := od
                        have q458 : x4_2 < (y454.length : Int) := od
                        obtain ⟨ad458, e458, hx458_0, hx458_1, hx458_2⟩ := at_T44 (Kd.R_reads' HO_1.out).2.2 x4_2 p458 q458
                        obtain rfl : ad457 = ad458 := (by injection e458)
                        replace p458 := eq_true p458
                        replace q458 := eq_true q458
                        refine start_ (n := 10) (S := fun w' => w'.cell? (ad457.add ((x3_1).toNat * 3)) = some (.int .i64 ((rd_T44 y454 x3_1).f0)) ∧ w'.cell? ⟨(ad457.add ((x3_1).toNat * 3)).block, (ad457.add ((x3_1).toNat * 3)).off + 1, none⟩ = some (.int .i64 ((rd_T44 y454 x3_1).f1)) ∧ w'.cell? ⟨(ad457.add ((x3_1).toNat * 3)).block, (ad457.add ((x3_1).toNat * 3)).off + 2, none⟩ = some (.int .i64 ((rd_T44 y454 x3_1).f2)) ∧ w'.cell? (ad457.add ((x4_2).toNat * 3)) = some (.int .i64 ((rd_T44 y454 x4_2).f0)) ∧ w'.cell? ⟨(ad457.add ((x4_2).toNat * 3)).block, (ad457.add ((x4_2).toNat * 3)).off + 1, none⟩ = some (.int .i64 ((rd_T44 y454 x4_2).f1)) ∧ w'.cell? ⟨(ad457.add ((x4_2).toNat * 3)).block, (ad457.add ((x4_2).toNat * 3)).off + 2, none⟩ = some (.int .i64 ((rd_T44 y454 x4_2).f2))) (ds := []) #[false, false, false, false, false, false, false, false, false, false] (by kernel_rfl) rfl rfl ⟨hx457_0, hx457_1, hx457_2, hx458_0, hx458_1, hx458_2⟩ (fun hH => ?_); refine with_tabW Rf_Rotations.tab9 Rf_Rotations.bits9 (fun HT_ HW_ => ?_)
                        generalize wr.drew = w13 at HO_1 HO_2 HB hx457_0 hx457_1 hx457_2 hx458_0 hx458_1 hx458_2 hH ⊢
                        refine pZ 0 (some 24) #[true, false, false, false, false, false, false, false, false, false] HT_ ?_
                        refine pZ 1 (some 25) #[true, true, false, false, false, false, false, false, false, false] HT_ ?_
                        refine pZ 2 (some 26) #[true, true, true, false, false, false, false, false, false, false] HT_ ?_
                        refine pZ 4 (some 28) #[true, true, true, false, true, false, false, false, false, false] HT_ ?_
                        refine pZ 5 (some 29) #[true, true, true, false, true, true, false, false, false, false] HT_ ?_
                        refine pZ 6 (some 30) #[true, true, true, false, true, true, true, false, false, false] HT_ ?_
                        refine takeZ 3 (some 27) #[true, true, true, true, true, true, true, false, false, false] (take_ofW HT_.out HW_.out (by kernel_rfl)) hH ?_
                        refine takeZ 7 (some 31) #[true, true, true, true, true, true, true, true, false, false] (take_ofW HT_.out HW_.out (by kernel_rfl)) hH ?_
                        refine oneZ 8 (some 32) #[true, true, true, true, true, true, true, true, true, false] (one_of HT_.out (by kernel_rfl)) fun K hK => ?_
                        refine gz Try.func87 #[.agg #[.int .i64 ((rd_T44 y454 x3_1).f0), .int .i64 ((rd_T44 y454 x3_1).f1), .int .i64 ((rd_T44 y454 x3_1).f2)], .agg #[.int .i64 ((rd_T44 y454 x4_2).f0), .int .i64 ((rd_T44 y454 x4_2).f1), .int .i64 ((rd_T44 y454 x4_2).f2)]] ?_
                        with_reducible refine (Rf_dot.calls ((rd_T44 y454 x3_1).f0) ((rd_T44 y454 x3_1).f1) ((rd_T44 y454 x3_1).f2) ((rd_T44 y454 x4_2).f0) ((rd_T44 y454 x4_2).f1) ((rd_T44 y454 x4_2).f2) t459 _ A9.out).mono ?_
                        rintro e w14 ⟨rfl, hb⟩
                        have HS0_ := (hb.cell (World.block_lt_of_cell? _ _ (hH.1))).trans (hH.1)
                        have HS1_ := (hb.cell (World.block_lt_of_cell? _ _ (hH.2.1))).trans (hH.2.1)
                        have HS2_ := (hb.cell (World.block_lt_of_cell? _ _ (hH.2.2.1))).trans (hH.2.2.1)
                        have HS3_ := (hb.cell (World.block_lt_of_cell? _ _ (hH.2.2.2.1))).trans (hH.2.2.2.1)
                        have HS4_ := (hb.cell (World.block_lt_of_cell? _ _ (hH.2.2.2.2.1))).trans (hH.2.2.2.2.1)
                        have HS5_ := (hb.cell (World.block_lt_of_cell? _ _ (hH.2.2.2.2.2))).trans (hH.2.2.2.2.2)
                        refine ⟨_, rfl, ?_⟩
                        replace HO_1 := rb HO_1 hb; replace HO_2 := rb HO_2 hb; replace HB := sb HB hb
                        (try clear hb)
                        refine hK.out _ _ ⟨HS0_, HS1_, HS2_, HS3_, HS4_, HS5_⟩ (fun hH => ?_)
                        clear hK K
                        refine norm_ (a' := ?_) ?_ ?_
                        rotate_left
                        · show Act.put _ (some 32) _ = _
                          exact pz
                        refine pZ 9 (some 33) #[true, true, true, true, true, true, true, true, true, true] HT_ ?_
                        refine done_ (done_of HT_.out (by kernel_rfl)) ?_
                        try go_wp2
                        replace HO_1 := m0 (Kd.R_drew HO_1.out); replace HO_2 := m0 (Kd.R_drew HO_2.out); replace HB := sd HB
                        have p460 : 0 ≤ (x3_1 : Int) := od
                        have q460 : x3_1 < (y454.length : Int) := od
                        obtain ⟨ad460, e460, hx460_0, hx460_1, hx460_2⟩ := at_T44 (Kd.R_reads' HO_1.out).2.2 x3_1 p460 q460
                        obtain rfl : ad457 = ad460 := (by injection e460)
                        replace p460 := eq_true p460
                        replace q460 := eq_true q460
                        have p461 : 0 ≤ (x4_2 : Int) := od
                        have q461 : x4_2 < (y454.length : Int) := od
                        obtain ⟨ad461, e461, hx461_0, hx461_1, hx461_2⟩ := at_T44 (Kd.R_reads' HO_1.out).2.2 x4_2 p461 q461
                        obtain rfl : ad457 = ad461 := (by injection e461)
                        replace p461 := eq_true p461
                        replace q461 := eq_true q461
                        have p462 : 0 ≤ (x3_1 : Int) := od
                        have q462 : x3_1 < (y454.length : Int) := od
                        obtain ⟨ad462, e462, hx462_0, hx462_1, hx462_2⟩ := at_T44 (Kd.R_reads' HO_1.out).2.2 x3_1 p462 q462
                        obtain rfl : ad457 = ad462 := (by injection e462)
                        replace p462 := eq_true p462
                        replace q462 := eq_true q462
                        have p463 : 0 ≤ (x4_2 : Int) := od
                        have q463 : x4_2 < (y454.length : Int) := od
                        obtain ⟨ad463, e463, hx463_0, hx463_1, hx463_2⟩ := at_T44 (Kd.R_reads' HO_1.out).2.2 x4_2 p463 q463
                        obtain rfl : ad457 = ad463 := (by injection e463)
                        replace p463 := eq_true p463
                        replace q463 := eq_true q463
                        refine start_ (n := 22) (S := fun w' => w'.cell? (ad457.add ((x3_1).toNat * 3)) = some (.int .i64 ((rd_T44 y454 x3_1).f0)) ∧ w'.cell? ⟨(ad457.add ((x3_1).toNat * 3)).block, (ad457.add ((x3_1).toNat * 3)).off + 1, none⟩ = some (.int .i64 ((rd_T44 y454 x3_1).f1)) ∧ w'.cell? ⟨(ad457.add ((x3_1).toNat * 3)).block, (ad457.add ((x3_1).toNat * 3)).off + 2, none⟩ = some (.int .i64 ((rd_T44 y454 x3_1).f2)) ∧ w'.cell? (ad457.add ((x4_2).toNat * 3)) = some (.int .i64 ((rd_T44 y454 x4_2).f0)) ∧ w'.cell? ⟨(ad457.add ((x4_2).toNat * 3)).block, (ad457.add ((x4_2).toNat * 3)).off + 1, none⟩ = some (.int .i64 ((rd_T44 y454 x4_2).f1)) ∧ w'.cell? ⟨(ad457.add ((x4_2).toNat * 3)).block, (ad457.add ((x4_2).toNat * 3)).off + 2, none⟩ = some (.int .i64 ((rd_T44 y454 x4_2).f2)) ∧ w'.cell? (ad457.add ((x3_1).toNat * 3)) = some (.int .i64 ((rd_T44 y454 x3_1).f0)) ∧ w'.cell? ⟨(ad457.add ((x3_1).toNat * 3)).block, (ad457.add ((x3_1).toNat * 3)).off + 1, none⟩ = some (.int .i64 ((rd_T44 y454 x3_1).f1)) ∧ w'.cell? ⟨(ad457.add ((x3_1).toNat * 3)).block, (ad457.add ((x3_1).toNat * 3)).off + 2, none⟩ = some (.int .i64 ((rd_T44 y454 x3_1).f2)) ∧ w'.cell? (ad457.add ((x4_2).toNat * 3)) = some (.int .i64 ((rd_T44 y454 x4_2).f0)) ∧ w'.cell? ⟨(ad457.add ((x4_2).toNat * 3)).block, (ad457.add ((x4_2).toNat * 3)).off + 1, none⟩ = some (.int .i64 ((rd_T44 y454 x4_2).f1)) ∧ w'.cell? ⟨(ad457.add ((x4_2).toNat * 3)).block, (ad457.add ((x4_2).toNat * 3)).off + 2, none⟩ = some (.int .i64 ((rd_T44 y454 x4_2).f2))) (ds := [19, 20]) #[false, false, false, false, false, false, false, false, false, false, false, false, false, false, false, false, false, false, false, false, false, false] (by kernel_rfl) rfl rfl ⟨hx460_0, hx460_1, hx460_2, hx461_0, hx461_1, hx461_2, hx462_0, hx462_1, hx462_2, hx463_0, hx463_1, hx463_2⟩ (fun hH => ?_); refine with_tabW Rf_Rotations.tab10 Rf_Rotations.bits10 (fun HT_ HW_ => ?_)
                        generalize w14.drew = w15 at HO_1 HO_2 HB hx460_0 hx460_1 hx460_2 hx461_0 hx461_1 hx461_2 hx462_0 hx462_1 hx462_2 hx463_0 hx463_1 hx463_2 hH ⊢
                        refine pZ 0 (some 34) (bs 22 1) HT_ ?_
                        refine pZ 1 (some 35) (bs 22 3) HT_ ?_
                        refine pZ 2 (some 36) (bs 22 7) HT_ ?_
                        refine pZ 3 (some 37) (bs 22 15) HT_ ?_
                        refine pZ 5 (some 39) (bs 22 47) HT_ ?_
                        refine pZ 6 (some 40) (bs 22 111) HT_ ?_
                        refine pZ 7 (some 41) (bs 22 239) HT_ ?_
                        refine pZ 9 (some 43) (bs 22 751) HT_ ?_
                        refine pZ 10 (some 44) (bs 22 1775) HT_ ?_
                        refine pZ 11 (some 45) (bs 22 3823) HT_ ?_
                        refine pZ 13 (some 47) (bs 22 12015) HT_ ?_
                        refine pZ 14 (some 48) (bs 22 28399) HT_ ?_
                        refine pZ 15 (some 49) (bs 22 61167) HT_ ?_
                        refine takeZ 4 (some 38) (bs 22 61183) (take_ofW HT_.out HW_.out (by kernel_rfl)) hH ?_
                        refine takeZ 8 (some 42) (bs 22 61439) (take_ofW HT_.out HW_.out (by kernel_rfl)) hH ?_
                        refine takeZ 12 (some 46) (bs 22 65535) (take_ofW HT_.out HW_.out (by kernel_rfl)) hH ?_
                        refine takeZ 16 (some 50) (bs 22 131071) (take_ofW HT_.out HW_.out (by kernel_rfl)) hH ?_
                        refine oneZ 17 (some 51) (bs 22 262143) (one_of HT_.out (by kernel_rfl)) fun K hK => ?_
                        refine gz Try.func88 #[.agg #[.int .i64 ((rd_T44 y454 x3_1).f0), .int .i64 ((rd_T44 y454 x3_1).f1), .int .i64 ((rd_T44 y454 x3_1).f2)], .agg #[.int .i64 ((rd_T44 y454 x4_2).f0), .int .i64 ((rd_T44 y454 x4_2).f1), .int .i64 ((rd_T44 y454 x4_2).f2)]] ?_
                        with_reducible refine (Rf_cross.calls ((rd_T44 y454 x3_1).f0) ((rd_T44 y454 x3_1).f1) ((rd_T44 y454 x3_1).f2) ((rd_T44 y454 x4_2).f0) ((rd_T44 y454 x4_2).f1) ((rd_T44 y454 x4_2).f2) t464 t465 t466 _ A11.out).mono ?_
                        rintro e w16 ⟨rfl, hb⟩
                        have HS0_ := (hb.cell (World.block_lt_of_cell? _ _ (hH.1))).trans (hH.1)
                        have HS1_ := (hb.cell (World.block_lt_of_cell? _ _ (hH.2.1))).trans (hH.2.1)
                        have HS2_ := (hb.cell (World.block_lt_of_cell? _ _ (hH.2.2.1))).trans (hH.2.2.1)
                        have HS3_ := (hb.cell (World.block_lt_of_cell? _ _ (hH.2.2.2.1))).trans (hH.2.2.2.1)
                        have HS4_ := (hb.cell (World.block_lt_of_cell? _ _ (hH.2.2.2.2.1))).trans (hH.2.2.2.2.1)
                        have HS5_ := (hb.cell (World.block_lt_of_cell? _ _ (hH.2.2.2.2.2.1))).trans (hH.2.2.2.2.2.1)
                        have HS6_ := (hb.cell (World.block_lt_of_cell? _ _ (hH.2.2.2.2.2.2.1))).trans (hH.2.2.2.2.2.2.1)
                        have HS7_ := (hb.cell (World.block_lt_of_cell? _ _ (hH.2.2.2.2.2.2.2.1))).trans (hH.2.2.2.2.2.2.2.1)
                        have HS8_ := (hb.cell (World.block_lt_of_cell? _ _ (hH.2.2.2.2.2.2.2.2.1))).trans (hH.2.2.2.2.2.2.2.2.1)
                        have HS9_ := (hb.cell (World.block_lt_of_cell? _ _ (hH.2.2.2.2.2.2.2.2.2.1))).trans (hH.2.2.2.2.2.2.2.2.2.1)
                        have HS10_ := (hb.cell (World.block_lt_of_cell? _ _ (hH.2.2.2.2.2.2.2.2.2.2.1))).trans (hH.2.2.2.2.2.2.2.2.2.2.1)
                        have HS11_ := (hb.cell (World.block_lt_of_cell? _ _ (hH.2.2.2.2.2.2.2.2.2.2.2))).trans (hH.2.2.2.2.2.2.2.2.2.2.2)
                        refine ⟨_, rfl, ?_⟩
                        replace HO_1 := rb HO_1 hb; replace HO_2 := rb HO_2 hb; replace HB := sb HB hb
                        (try clear hb)
                        refine hK.out _ _ ⟨HS0_, HS1_, HS2_, HS3_, HS4_, HS5_, HS6_, HS7_, HS8_, HS9_, HS10_, HS11_⟩ (fun hH => ?_)
                        clear hK K
                        refine norm_ (a' := ?_) ?_ ?_
                        rotate_left
                        · show Act.put _ (some 51) _ = _
                          exact pz
                        refine pZ 18 (some 52) (bs 22 524287) HT_ ?_
                        refine last_ (i := 19) (N := some 53) (bs 22 1048575) rfl rfl (one_of HT_.out (by kernel_rfl)) (by decide) (fun K hK => ?_)
                        refine value_ (w1 := ?_) (v := ?_) (by rfl) rfl ?_ ?_
                        rotate_left 2
                        · go_simp
                          constructor
                          · rfl
                          · rfl
                        refine hK.out _ _ ?_
                        clear hK K
                        refine norm_ (a' := ?_) ?_ ?_
                        rotate_left
                        · show Act.put _ (some 53) _ = _
                          exact pz
                        refine last_ (i := 20) (N := some 54) (bs 22 2097151) rfl rfl (one_of HT_.out (by kernel_rfl)) (by decide) (fun K hK => ?_)
                        refine Kd.R_append_step k45 (w0 := w) w.heap.size (by rfl) (.tmp 34) (.tmp 53) 50 45 (.agg #[(.int .i64 0), (.int .i64 0), (.int .i64 0), (.int .i64 0), (.int .i64 0), (.int .i64 0), (.int .i64 0), (.int .i64 0), (.int .i64 0)]) 72 rfl Try.underlying50 info45 rfl (by decide) (by omega) u2 x2_2 (⟨(⟨(rd_T44 y454 x3_1).f0, (rd_T44 y454 x3_1).f1, (rd_T44 y454 x3_1).f2⟩ : S44), (⟨(rd_T44 y454 x4_2).f0, (rd_T44 y454 x4_2).f1, (rd_T44 y454 x4_2).f2⟩ : S44), (⟨t464, t465, t466⟩ : S44)⟩ : S45) [.int .i64 ((rd_T44 y454 x3_1).f0), .int .i64 ((rd_T44 y454 x3_1).f1), .int .i64 ((rd_T44 y454 x3_1).f2), .int .i64 ((rd_T44 y454 x4_2).f0), .int .i64 ((rd_T44 y454 x4_2).f1), .int .i64 ((rd_T44 y454 x4_2).f2), .int .i64 t464, .int .i64 t465, .int .i64 t466] (fun _ => True) (fun _ => False) rfl rfl ?aP (fun _ hk => hk.elim) ?aF ?aO ?aB ?aS ?aL ?_
                        (case aP => exact k45_mkM _ _ _ (⟨(⟨(rd_T44 y454 x3_1).f0, (rd_T44 y454 x3_1).f1, (rd_T44 y454 x3_1).f2⟩ : S44), (⟨(rd_T44 y454 x4_2).f0, (rd_T44 y454 x4_2).f1, (rd_T44 y454 x4_2).f2⟩ : S44), (⟨t464, t465, t466⟩ : S44)⟩ : S45))
                        (case aB => exact bz)
                        (case aF => exact (fun _ _ => trivial))
                        (case aO => exact (br HO_2.out))
                        (case aS => exact (below_size bz))
                        (case aL => have := LMc12.out; omega)
                        intro v468 w17 ho hb hg hat
                        rw [← Ny467.out] at ho
                        have n0_ := m0 (Kd.R_over' (br HO_1.out) (Kd.R_typed (br HO_2.out)) (by decide) hg); have n1_ := m0 (hb); have n2_ := m0 (ho); clear HO_1; clear HB; clear HO_2; have HO_1 := n0_; have HB := n1_; have HO469 := n2_; clear n0_ n1_ n2_
                        clear ho hb hg hat
                        refine hK.out _ _ ?_
                        clear hK K
                        refine norm_ (a' := ?_) ?_ ?_
                        rotate_left
                        · show Act.put _ (some 54) _ = _
                          exact pz
                        refine pZ 21 (some 2) (bs 22 4194303) HT_ ?_
                        refine done_ (done_of HT_.out (by kernel_rfl)) ?_
                        try go_wp2
                        go_roundg k2
                        case measure => have := HK1.out; have := HK2.out; omega
                        case rel => exact ⟨(y467), (wrap64 (x4_2 + 1)), (by first | rfl | (simp; done) | (simp [*]; done)), H', ⟨by have := HK1.out; have := HK2.out; omega⟩, ⟨br HO_1.out⟩, ⟨br HO469.out⟩, ⟨bz⟩⟩
                      · rw [if_neg c12] at H
                        exact absurd H (by simp)
                    · rw [if_neg c10] at H
                      have c10b0 := beq_eq_false_iff_ne.mpr c10
                      have c10b1 := bne_iff_ne.mpr c10
                      have H' := m0 H
                      clear H
                      try go_wp2
                      replace HO_1 := m0 (Kd.R_drew HO_1.out); replace HO_2 := m0 (Kd.R_drew HO_2.out); replace HB := sd HB
                      have p457 : 0 ≤ (x3_1 : Int) := od
                      have q457 : x3_1 < (y454.length : Int) := od
                      obtain ⟨ad457, e457, hx457_0, hx457_1, hx457_2⟩ := at_T44 (Kd.R_reads' HO_1.out).2.2 x3_1 p457 q457
                      cases e457
                      replace p457 := eq_true p457
                      replace q457 := eq_true q457
                      have p458 : 0 ≤ (x4_2 : Int) := od
                      have q458 : x4_2 < (y454.length : Int) := od
                      obtain ⟨ad458, e458, hx458_0, hx458_1, hx458_2⟩ := at_T44 (Kd.R_reads' HO_1.out).2.2 x4_2 p458 q458
                      obtain rfl : ad457 = ad458 := (by injection e458)
                      replace p458 := eq_true p458
                      replace q458 := eq_true q458
                      refine start_ (n := 10) (S := fun w' => w'.cell? (ad457.add ((x3_1).toNat * 3)) = some (.int .i64 ((rd_T44 y454 x3_1).f0)) ∧ w'.cell? ⟨(ad457.add ((x3_1).toNat * 3)).block, (ad457.add ((x3_1).toNat * 3)).off + 1, none⟩ = some (.int .i64 ((rd_T44 y454 x3_1).f1)) ∧ w'.cell? ⟨(ad457.add ((x3_1).toNat * 3)).block, (ad457.add ((x3_1).toNat * 3)).off + 2, none⟩ = some (.int .i64 ((rd_T44 y454 x3_1).f2)) ∧ w'.cell? (ad457.add ((x4_2).toNat * 3)) = some (.int .i64 ((rd_T44 y454 x4_2).f0)) ∧ w'.cell? ⟨(ad457.add ((x4_2).toNat * 3)).block, (ad457.add ((x4_2).toNat * 3)).off + 1, none⟩ = some (.int .i64 ((rd_T44 y454 x4_2).f1)) ∧ w'.cell? ⟨(ad457.add ((x4_2).toNat * 3)).block, (ad457.add ((x4_2).toNat * 3)).off + 2, none⟩ = some (.int .i64 ((rd_T44 y454 x4_2).f2))) (ds := []) #[false, false, false, false, false, false, false, false, false, false] (by kernel_rfl) rfl rfl ⟨hx457_0, hx457_1, hx457_2, hx458_0, hx458_1, hx458_2⟩ (fun hH => ?_); refine with_tabW Rf_Rotations.tab9 Rf_Rotations.bits9 (fun HT_ HW_ => ?_)
                      generalize wr.drew = w18 at HO_1 HO_2 HB hx457_0 hx457_1 hx457_2 hx458_0 hx458_1 hx458_2 hH ⊢
                      refine pZ 0 (some 24) #[true, false, false, false, false, false, false, false, false, false] HT_ ?_
                      refine pZ 1 (some 25) #[true, true, false, false, false, false, false, false, false, false] HT_ ?_
                      refine pZ 2 (some 26) #[true, true, true, false, false, false, false, false, false, false] HT_ ?_
                      refine pZ 4 (some 28) #[true, true, true, false, true, false, false, false, false, false] HT_ ?_
                      refine pZ 5 (some 29) #[true, true, true, false, true, true, false, false, false, false] HT_ ?_
                      refine pZ 6 (some 30) #[true, true, true, false, true, true, true, false, false, false] HT_ ?_
                      refine takeZ 3 (some 27) #[true, true, true, true, true, true, true, false, false, false] (take_ofW HT_.out HW_.out (by kernel_rfl)) hH ?_
                      refine takeZ 7 (some 31) #[true, true, true, true, true, true, true, true, false, false] (take_ofW HT_.out HW_.out (by kernel_rfl)) hH ?_
                      refine oneZ 8 (some 32) #[true, true, true, true, true, true, true, true, true, false] (one_of HT_.out (by kernel_rfl)) fun K hK => ?_
                      refine gz Try.func87 #[.agg #[.int .i64 ((rd_T44 y454 x3_1).f0), .int .i64 ((rd_T44 y454 x3_1).f1), .int .i64 ((rd_T44 y454 x3_1).f2)], .agg #[.int .i64 ((rd_T44 y454 x4_2).f0), .int .i64 ((rd_T44 y454 x4_2).f1), .int .i64 ((rd_T44 y454 x4_2).f2)]] ?_
                      with_reducible refine (Rf_dot.calls ((rd_T44 y454 x3_1).f0) ((rd_T44 y454 x3_1).f1) ((rd_T44 y454 x3_1).f2) ((rd_T44 y454 x4_2).f0) ((rd_T44 y454 x4_2).f1) ((rd_T44 y454 x4_2).f2) t459 _ A9.out).mono ?_
                      rintro e w19 ⟨rfl, hb⟩
                      have HS0_ := (hb.cell (World.block_lt_of_cell? _ _ (hH.1))).trans (hH.1)
                      have HS1_ := (hb.cell (World.block_lt_of_cell? _ _ (hH.2.1))).trans (hH.2.1)
                      have HS2_ := (hb.cell (World.block_lt_of_cell? _ _ (hH.2.2.1))).trans (hH.2.2.1)
                      have HS3_ := (hb.cell (World.block_lt_of_cell? _ _ (hH.2.2.2.1))).trans (hH.2.2.2.1)
                      have HS4_ := (hb.cell (World.block_lt_of_cell? _ _ (hH.2.2.2.2.1))).trans (hH.2.2.2.2.1)
                      have HS5_ := (hb.cell (World.block_lt_of_cell? _ _ (hH.2.2.2.2.2))).trans (hH.2.2.2.2.2)
                      refine ⟨_, rfl, ?_⟩
                      replace HO_1 := rb HO_1 hb; replace HO_2 := rb HO_2 hb; replace HB := sb HB hb
                      (try clear hb)
                      refine hK.out _ _ ⟨HS0_, HS1_, HS2_, HS3_, HS4_, HS5_⟩ (fun hH => ?_)
                      clear hK K
                      refine norm_ (a' := ?_) ?_ ?_
                      rotate_left
                      · show Act.put _ (some 32) _ = _
                        exact pz
                      refine pZ 9 (some 33) #[true, true, true, true, true, true, true, true, true, true] HT_ ?_
                      refine done_ (done_of HT_.out (by kernel_rfl)) ?_
                      try go_wp2
                      go_roundg k2
                      case measure => have := HK1.out; have := HK2.out; omega
                      case rel => exact ⟨(x2_2), (wrap64 (x4_2 + 1)), (by first | rfl | (simp; done) | (simp [*]; done)), H', ⟨by have := HK1.out; have := HK2.out; omega⟩, ⟨br HO_1.out⟩, ⟨br HO_2.out⟩, ⟨bz⟩⟩
                  · rw [if_neg c8] at H
                    exact absurd H (by simp)
                · rw [if_neg c7] at H
                  exact absurd H (by simp)
              · rw [if_neg c6] at H
                exact absurd H (by simp)
            · rw [if_neg c5] at H
              have c5b0 := decide_eq_false c5
              clear c5
              have H' := m0 H
              clear H
              go_wp2
              go_roundg k2
              case measure => have := HK1.out; have := HK2.out; omega
              case rel => exact ⟨(x2_2), (wrap64 (x3_1 + 1)), (by first | rfl | (simp; done) | (simp [*]; done)), H', ⟨by have := HK1.out; have := HK2.out; omega⟩, ⟨br HO_1.out⟩, ⟨br HO_2.out⟩, ⟨bz⟩⟩
      · rw [if_neg c3] at H
        have c3b0 := decide_eq_false c3
        clear c3
        obtain rfl := Option.some.inj H
        obtain ⟨Ao20, co20, eo20⟩ := Kd.R_slice HO_1.out
        subst eo20
        go_wp2
        go_ret
        exact ⟨_, by first | rfl | (simp [errW_none, errW_some] <;> rfl) | (simp [*, errW_none, errW_some] <;> rfl), by (with_reducible repeat (first | apply Kd.R_alloc | apply Kd.R_drewN | apply Kd.R_drew)); exact HO_2.out, by repeat (first | (with_reducible first | exact HB.out | apply below_alloc | apply pw_below_drewN | apply below_drew1) | exact HB.out)⟩
end
section
def Rf_isDirection.l0 : Nat → Int → Int → Int → Int → Option (Bool)
 | 0, _, _, _, _ => none
 | k + 1, x3, x471000, x471001, x471002 => if x3 < 3 then (if x3 = 0 then ((Bs_Within.f x471000 (-20) 20).bind fun t471 => (if t471 = true then (Rf_isDirection.l0 k (wrap64 (x3 + 1)) x471000 x471001 x471002) else (some false))) else (if x3 = 1 then ((Bs_Within.f x471001 (-20) 20).bind fun t472 => (if t472 = true then (Rf_isDirection.l0 k (wrap64 (x3 + 1)) x471000 x471001 x471002) else (some false))) else (if x3 = 2 then ((Bs_Within.f x471002 (-20) 20).bind fun t473 => (if t473 = true then (Rf_isDirection.l0 k (wrap64 (x3 + 1)) x471000 x471001 x471002) else (some false))) else (none)))) else (some true)
def Rf_isDirection.f (k : Nat) (a0_0 : Int) (a0_1 : Int) (a0_2 : Int) : Option (Bool) := Rf_isDirection.l0 k 0 a0_0 a0_1 a0_2
theorem Rf_isDirection.mono_l : ∀ k, (∀ y0 y1 y2 y3, LeO (Rf_isDirection.l0 k y0 y1 y2 y3) (Rf_isDirection.l0 (k + 1) y0 y1 y2 y3))
 | 0 => fun _ _ _ _ r h => by simp [Rf_isDirection.l0] at h
 | k + 1 => by
  have ih0 := Rf_isDirection.mono_l k
  ·intro y0 y1 y2 y3
   unfold Rf_isDirection.l0
   repeat' with_reducible first
    | exact ih0 ..
    | exact LeO.refl ..
    | exact LeO.none ..
    | refine LeO.ite ?_ ?_
    | refine LeO.bind ?_ (fun _ => ?_)
theorem Rf_isDirection.mono : ∀ a0 a1 a2 k, LeO (Rf_isDirection.f k a0 a1 a2) (Rf_isDirection.f (k + 1) a0 a1 a2) := by
 intro a0 a1 a2 k
 have ih0 := Rf_isDirection.mono_l k
 unfold Rf_isDirection.f
 repeat' with_reducible first
  | exact ih0 ..
  | exact LeO.refl ..
  | exact LeO.none ..
  | refine LeO.ite ?_ ?_
  | refine LeO.bind ?_ (fun _ => ?_)
theorem Rf_isDirection.calls (k : Nat) (a0_0 : Int) (a0_1 : Int) (a0_2 : Int) (r : Bool) (w : World) (h : Rf_isDirection.f k a0_0 a0_1 a0_2 = some r) :
  Calls Try.prog 89 #[.agg #[.int .i64 a0_0, .int .i64 a0_1, .int .i64 a0_2]] w fun e w' => e = .returned (.bool r) ∧ Below w.heap.size w w' := by
 have hu44 := Try.underlying44
 have hix44_0 : ∀ (g_ : Nat) (W_ : World), (Instr.indexAt 44 (.pointer (some ⟨g_, 0, none⟩)) (.int .i64 0)).run Try.prog W_ = .ok (.pointer (some ⟨g_, 0, none⟩)) W_ := fun _ _ => by kernel_rfl
 have hix44_1 : ∀ (g_ : Nat) (W_ : World), (Instr.indexAt 44 (.pointer (some ⟨g_, 0, none⟩)) (.int .i64 1)).run Try.prog W_ = .ok (.pointer (some ⟨g_, 1, none⟩)) W_ := fun _ _ => by kernel_rfl
 have hix44_2 : ∀ (g_ : Nat) (W_ : World), (Instr.indexAt 44 (.pointer (some ⟨g_, 0, none⟩)) (.int .i64 2)).run Try.prog W_ = .ok (.pointer (some ⟨g_, 2, none⟩)) W_ := fun _ _ => by kernel_rfl
 have HB := m0 (Below.refl w.heap.size w)
 have H : (Rf_isDirection.l0 k 0 a0_0 a0_1 a0_2) = some r := h
 clear h
 have H' := m0 H
 clear H
 go_enter Try.func89, Try.ntmps89
 go_wp2_with (first | ((with_reducible refine gate_dst (N := 1) rfl ?_); refine be 1 44 #[.int .i64 a0_0, .int .i64 a0_1, .int .i64 a0_2] ?_; intro gb470 hg w2 hbox hb; have BK470 := m0 hbox; have GE470 := gw w hg; replace HB := sb HB hb; clear hb hbox hg))
 go_loopg [3] k (fun kq v3 w' => ∃ (x3_1 : Int), v3 = .int .i64 x3_1 ∧ Aside0 (Rf_isDirection.l0 kq x3_1 a0_0 a0_1 a0_2 = some r) ∧ Aside0 (kq ≤ k) ∧ Aside0 (w'.heap[gb470]? = some (.cells #[.int .i64 a0_0, .int .i64 a0_1, .int .i64 a0_2] 44 (0, 0))) ∧ Aside0 (Below w.heap.size w w'))
 case atStart => exact ⟨(0), (by first | rfl | (simp; done) | (simp [*]; done)), H', ⟨Nat.le_refl _⟩, ⟨bk BK470.out⟩, ⟨bz⟩⟩
 case round =>
  clear H'
  obtain ⟨x3_1, rfl, HA, HK1, BK470, HB⟩ := hrel
  cases gk with
  | zero => exact absurd HA.out (by simp [Rf_isDirection.l0])
  | succ k1 =>
   have H := HA.out
   clear HA
   simp only [Rf_isDirection.l0] at H
   by_cases c3 : x3_1 < 3
   ·rw [if_pos c3] at H
    have c3b0 := decide_eq_true c3
    clear c3
    by_cases c4 : x3_1 = 0
    ·rw [if_pos c4] at H
     have c4b0 := beq_iff_eq.mpr c4
     have c4b1 := bne_eq_false_iff_eq.mpr c4
     clear c4
     have hiv5 : ∀ (g_ : Nat) (W_ : World), (Instr.indexAt 44 (.pointer (some ⟨g_, 0, none⟩)) (.int .i64 x3_1)).run Try.prog W_ = .ok (.pointer (some ⟨g_, 0, none⟩)) W_ := fun g_ W_ => by rw [show (x3_1 : Int) = 0 from eq_of_beq (by first | (with_reducible assumption) | assumption)]; exact hix44_0 g_ W_
     replace H := ob H
     obtain ⟨t471, A6, H⟩ := H
     (try dsimp only at H)
     replace A6 := m0 A6
     by_cases c7 : t471 = true
     ·subst c7
      rw [if_pos rfl] at H
      have H' := m0 H
      clear H
      obtain ⟨_, _, _, _, _, _⟩ := b3 BK470
      go_wp2_with (first | ((with_reducible refine gate_callee (f := 24) rfl ?_); refine gl (some 11) Try.func24 #[.int .i64 a0_0, .int .i64 (-20), .int .i64 20] ?_; (with_reducible refine (Bs_Within.calls a0_0 (-20) 20 true _ A6.out).mono ?_); rintro e w' ⟨rfl, ⟨nd, rfl⟩⟩; refine ⟨_, rfl, ?_⟩))
      go_roundg k1
      case measure => have := HK1.out; omega
      case rel => exact ⟨(wrap64 (x3_1 + 1)), (by first | rfl | (simp; done) | (simp [*]; done)), H', ⟨by have := HK1.out; omega⟩, ⟨bk BK470.out⟩, ⟨bz⟩⟩
     ·replace c7 := Bool.eq_false_iff.mpr c7
      subst c7
      rw [if_neg (show ¬ (false = true) by decide)] at H
      obtain rfl := Option.some.inj H
      obtain ⟨_, _, _, _, _, _⟩ := b3 BK470
      go_wp2_with (first | ((with_reducible refine gate_callee (f := 24) rfl ?_); refine gl (some 11) Try.func24 #[.int .i64 a0_0, .int .i64 (-20), .int .i64 20] ?_; (with_reducible refine (Bs_Within.calls a0_0 (-20) 20 false _ A6.out).mono ?_); rintro e w' ⟨rfl, ⟨nd, rfl⟩⟩; refine ⟨_, rfl, ?_⟩))
      go_ret
      exact ez
    ·rw [if_neg c4] at H
     have c4b0 := beq_eq_false_iff_ne.mpr c4
     have c4b1 := bne_iff_ne.mpr c4
     by_cases c10 : x3_1 = 1
     ·rw [if_pos c10] at H
      have c10b0 := beq_iff_eq.mpr c10
      have c10b1 := bne_eq_false_iff_eq.mpr c10
      clear c10
      have hiv11 : ∀ (g_ : Nat) (W_ : World), (Instr.indexAt 44 (.pointer (some ⟨g_, 0, none⟩)) (.int .i64 x3_1)).run Try.prog W_ = .ok (.pointer (some ⟨g_, 1, none⟩)) W_ := fun g_ W_ => by rw [show (x3_1 : Int) = 1 from eq_of_beq (by first | (with_reducible assumption) | assumption)]; exact hix44_1 g_ W_
      replace H := ob H
      obtain ⟨t472, A12, H⟩ := H
      (try dsimp only at H)
      replace A12 := m0 A12
      by_cases c13 : t472 = true
      ·subst c13
       rw [if_pos rfl] at H
       have H' := m0 H
       clear H
       obtain ⟨_, _, _, _, _, _⟩ := b3 BK470
       go_wp2_with (first | ((with_reducible refine gate_callee (f := 24) rfl ?_); refine gl (some 11) Try.func24 #[.int .i64 a0_1, .int .i64 (-20), .int .i64 20] ?_; (with_reducible refine (Bs_Within.calls a0_1 (-20) 20 true _ A12.out).mono ?_); rintro e w' ⟨rfl, ⟨nd, rfl⟩⟩; refine ⟨_, rfl, ?_⟩))
       go_roundg k1
       case measure => have := HK1.out; omega
       case rel => exact ⟨(wrap64 (x3_1 + 1)), (by first | rfl | (simp; done) | (simp [*]; done)), H', ⟨by have := HK1.out; omega⟩, ⟨bk BK470.out⟩, ⟨bz⟩⟩
      ·replace c13 := Bool.eq_false_iff.mpr c13
       subst c13
       rw [if_neg (show ¬ (false = true) by decide)] at H
       obtain rfl := Option.some.inj H
       obtain ⟨_, _, _, _, _, _⟩ := b3 BK470
       go_wp2_with (first | ((with_reducible refine gate_callee (f := 24) rfl ?_); refine gl (some 11) Try.func24 #[.int .i64 a0_1, .int .i64 (-20), .int .i64 20] ?_; (with_reducible refine (Bs_Within.calls a0_1 (-20) 20 false _ A12.out).mono ?_); rintro e w' ⟨rfl, ⟨nd, rfl⟩⟩; refine ⟨_, rfl, ?_⟩))
       go_ret
       exact ez
     ·rw [if_neg c10] at H
      have c10b0 := beq_eq_false_iff_ne.mpr c10
      have c10b1 := bne_iff_ne.mpr c10
      by_cases c16 : x3_1 = 2
      ·rw [if_pos c16] at H
       have c16b0 := beq_iff_eq.mpr c16
       have c16b1 := bne_eq_false_iff_eq.mpr c16
       clear c16
       have hiv17 : ∀ (g_ : Nat) (W_ : World), (Instr.indexAt 44 (.pointer (some ⟨g_, 0, none⟩)) (.int .i64 x3_1)).run Try.prog W_ = .ok (.pointer (some ⟨g_, 2, none⟩)) W_ := fun g_ W_ => by rw [show (x3_1 : Int) = 2 from eq_of_beq (by first | (with_reducible assumption) | assumption)]; exact hix44_2 g_ W_
       replace H := ob H
       obtain ⟨t473, A18, H⟩ := H
       (try dsimp only at H)
       replace A18 := m0 A18
       by_cases c19 : t473 = true
       ·subst c19
        rw [if_pos rfl] at H
        have H' := m0 H
        clear H
        obtain ⟨_, _, _, _, _, _⟩ := b3 BK470
        go_wp2_with (first | ((with_reducible refine gate_callee (f := 24) rfl ?_); refine gl (some 11) Try.func24 #[.int .i64 a0_2, .int .i64 (-20), .int .i64 20] ?_; (with_reducible refine (Bs_Within.calls a0_2 (-20) 20 true _ A18.out).mono ?_); rintro e w' ⟨rfl, ⟨nd, rfl⟩⟩; refine ⟨_, rfl, ?_⟩))
        go_roundg k1
        case measure => have := HK1.out; omega
        case rel => exact ⟨(wrap64 (x3_1 + 1)), (by first | rfl | (simp; done) | (simp [*]; done)), H', ⟨by have := HK1.out; omega⟩, ⟨bk BK470.out⟩, ⟨bz⟩⟩
       ·replace c19 := Bool.eq_false_iff.mpr c19
        subst c19
        rw [if_neg (show ¬ (false = true) by decide)] at H
        obtain rfl := Option.some.inj H
        obtain ⟨_, _, _, _, _, _⟩ := b3 BK470
        go_wp2_with (first | ((with_reducible refine gate_callee (f := 24) rfl ?_); refine gl (some 11) Try.func24 #[.int .i64 a0_2, .int .i64 (-20), .int .i64 20] ?_; (with_reducible refine (Bs_Within.calls a0_2 (-20) 20 false _ A18.out).mono ?_); rintro e w' ⟨rfl, ⟨nd, rfl⟩⟩; refine ⟨_, rfl, ?_⟩))
        go_ret
        exact ez
      ·rw [if_neg c16] at H
       exact absurd H (by simp)
   ·rw [if_neg c3] at H
    have c3b0 := decide_eq_false c3
    clear c3
    obtain rfl := Option.some.inj H
    go_wp2
    go_ret
    exact ez
end
section
def Rf_TurnedErr.f (k : Nat) (a0 : Int) (a1_0 : Int) (a1_1 : Int) (a1_2 : Int) : Option (Int) := (Bs_Within.f a0 0 23).bind fun t475 => (if t475 = true then ((Rf_isDirection.f k a1_0 a1_1 a1_2).bind fun t476 => (if t476 = true then (some 0) else (some 2))) else (some 2))
theorem Rf_TurnedErr.mono : ∀ a0 a1 a2 a3 k, LeO (Rf_TurnedErr.f k a0 a1 a2 a3) (Rf_TurnedErr.f (k + 1) a0 a1 a2 a3) := by
 intro a0 a1 a2 a3 k
 unfold Rf_TurnedErr.f
 repeat' with_reducible first
  | exact Rf_isDirection.mono ..
  | exact LeO.refl ..
  | exact LeO.none ..
  | refine LeO.ite ?_ ?_
  | refine LeO.bind ?_ (fun _ => ?_)
theorem Rf_TurnedErr.calls (k : Nat) (a0 : Int) (a1_0 : Int) (a1_1 : Int) (a1_2 : Int) (r : Int) (w : World) (h : Rf_TurnedErr.f k a0 a1_0 a1_1 a1_2 = some r) :
  Calls Try.prog 28 #[.int .i64 a0, .agg #[.int .i64 a1_0, .int .i64 a1_1, .int .i64 a1_2]] w fun e w' => e = .returned (.int .i64 r) ∧ Below w.heap.size w w' := by
 have hu44 := Try.underlying44
 have HB := m0 (Below.refl w.heap.size w)
 have H : ((Bs_Within.f a0 0 23).bind fun t475 => (if t475 = true then ((Rf_isDirection.f k a1_0 a1_1 a1_2).bind fun t476 => (if t476 = true then (some 0) else (some 2))) else (some 2))) = some r := h
 clear h
 replace H := ob H
 obtain ⟨t475, A3, H⟩ := H
 (try dsimp only at H)
 replace A3 := m0 A3
 by_cases c4 : t475 = true
 ·subst c4
  rw [if_pos rfl] at H
  replace H := ob H
  obtain ⟨t476, A5, H⟩ := H
  (try dsimp only at H)
  replace A5 := m0 A5
  by_cases c6 : t476 = true
  ·subst c6
   rw [if_pos rfl] at H
   obtain rfl := Option.some.inj H
   go_enter Try.func28, Try.ntmps28
   go_wp2_with (first | ((with_reducible refine gate_dst (N := 3) rfl ?_); refine be 3 44 #[.int .i64 a1_0, .int .i64 a1_1, .int .i64 a1_2] ?_; intro gb474 hg w7 hbox hb; have BK474 := m0 hbox; have GE474 := gw w hg; replace HB := sb HB hb; clear hb hbox hg) | ((with_reducible refine gate_callee (f := 24) rfl ?_); refine gl (some 6) Try.func24 #[.int .i64 a0, .int .i64 0, .int .i64 23] ?_; (with_reducible refine (Bs_Within.calls a0 0 23 true _ A3.out).mono ?_); rintro e w' ⟨rfl, ⟨nd, rfl⟩⟩; refine ⟨_, rfl, ?_⟩; obtain ⟨_, _, _, _, _, _⟩ := b3 BK474) | (go_at_call 89; (with_reducible refine (Rf_isDirection.calls k a1_0 a1_1 a1_2 true _ A5.out).mono ?_); rintro e w9 ⟨rfl, hb⟩; replace BK474 := bb BK474 hb; replace HB := sb HB hb; (try clear hb)))
   go_ret
   exact ez
  ·replace c6 := Bool.eq_false_iff.mpr c6
   subst c6
   rw [if_neg (show ¬ (false = true) by decide)] at H
   obtain rfl := Option.some.inj H
   go_enter Try.func28, Try.ntmps28
   go_wp2_with (first | ((with_reducible refine gate_dst (N := 3) rfl ?_); refine be 3 44 #[.int .i64 a1_0, .int .i64 a1_1, .int .i64 a1_2] ?_; intro gb474 hg w10 hbox hb; have BK474 := m0 hbox; have GE474 := gw w hg; replace HB := sb HB hb; clear hb hbox hg) | ((with_reducible refine gate_callee (f := 24) rfl ?_); refine gl (some 6) Try.func24 #[.int .i64 a0, .int .i64 0, .int .i64 23] ?_; (with_reducible refine (Bs_Within.calls a0 0 23 true _ A3.out).mono ?_); rintro e w' ⟨rfl, ⟨nd, rfl⟩⟩; refine ⟨_, rfl, ?_⟩; obtain ⟨_, _, _, _, _, _⟩ := b3 BK474) | (go_at_call 89; (with_reducible refine (Rf_isDirection.calls k a1_0 a1_1 a1_2 false _ A5.out).mono ?_); rintro e w12 ⟨rfl, hb⟩; replace BK474 := bb BK474 hb; replace HB := sb HB hb; (try clear hb)))
   go_ret
   exact ez
 ·replace c4 := Bool.eq_false_iff.mpr c4
  subst c4
  rw [if_neg (show ¬ (false = true) by decide)] at H
  obtain rfl := Option.some.inj H
  go_enter Try.func28, Try.ntmps28
  go_wp2_with (first | ((with_reducible refine gate_dst (N := 3) rfl ?_); refine be 3 44 #[.int .i64 a1_0, .int .i64 a1_1, .int .i64 a1_2] ?_; intro gb474 hg w13 hbox hb; have BK474 := m0 hbox; have GE474 := gw w hg; replace HB := sb HB hb; clear hb hbox hg) | ((with_reducible refine gate_callee (f := 24) rfl ?_); refine gl (some 6) Try.func24 #[.int .i64 a0, .int .i64 0, .int .i64 23] ?_; (with_reducible refine (Bs_Within.calls a0 0 23 false _ A3.out).mono ?_); rintro e w' ⟨rfl, ⟨nd, rfl⟩⟩; refine ⟨_, rfl, ?_⟩))
  go_ret
  exact ez
end
end Go.Proofs.Ytibhfahbabgbaaa.A
