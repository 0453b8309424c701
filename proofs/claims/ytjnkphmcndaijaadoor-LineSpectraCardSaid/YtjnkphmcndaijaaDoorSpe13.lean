/- Walks of the program's functions (printed, made shorter), each with what it computes. -/
import Derived.Test.YtjnkphmcndaijaaDoorSpe04
import Derived.Test.YtjnkphmcndaijaaDoorSpe06
import Derived.Test.YtjnkphmcndaijaaDoorSpe09
import Derived.Test.YtjnkphmcndaijaaDoorSpe03
import Derived.Test.YtjnkphmcndaijaaDoorSpe12
namespace Go.Proofs.YtjnkphmcndaijaaDoor.A
set_option maxHeartbeats 8000000
set_option maxRecDepth 100000
open Go.RowKit Go.Proofs.YtjnkphmcndaijaaDoorW.PrintWords Go.Proofs.YtjnkphmcndaijaaDoorW.PrintLast Go.Proofs.YtjnkphmcndaijaaDoorW.PrintMore
attribute [local go_sem] max2_int min2_int max_two min_two max_three min_three max_four min_four
set_option linter.unusedVariables false
set_option linter.unusedSimpArgs false
section
def line_PeakOf.f (k : Nat) (l0 : List Int) : Option (Int × Int) := (line_open.f l0).bind fun bt622 => (if bt622.2 = 0 then ((Sp_peak.f k bt622.1).bind fun t626 => (some (t626, 0))) else (some (0, bt622.2)))
theorem line_PeakOf.mono : ∀ a0 k, LeO (line_PeakOf.f k a0) (line_PeakOf.f (k + 1) a0) := by
 intro a0 k
 unfold line_PeakOf.f
 repeat' first
   | (with_reducible exact Sp_peak.mono _ _)
   | (with_reducible exact LeO.refl _)
   | (with_reducible exact LeO.none _)
   | (with_reducible refine LeO.ite ?_ ?_)
   | (with_reducible refine LeO.bind ?_ (fun _ => ?_))
   | exact Sp_peak.mono _ _
   | exact LeO.none _
   | refine LeO.ite ?_ ?_
   | refine LeO.bind ?_ (fun _ => ?_)
theorem line_PeakOf.calls (k : Nat) (A0 : Option Addr) (c0 : Nat) (l0 : List Int) (r1 : Int) (r2 : Int) (w : World) (hr0 : Kd.C (Kd.int .i64) w A0 l0.length l0) (hc0 : l0.length ≤ c0) (h : line_PeakOf.f k l0 = some (r1, r2)) :
  Calls Tryd.prog 32 #[.slice A0 l0.length c0] w fun e w' => e = .returned (.tuple #[.int .i64 r1, .int .i64 r2]) ∧ Below w.heap.size w w' := by
 have HR0 := m0 hr0
 have HC0 := m0 hc0
 clear hr0 hc0
 have HB := m0 (Below.refl w.heap.size w)
 have H : ((line_open.f l0).bind fun bt622 => (if bt622.2 = 0 then ((Sp_peak.f k bt622.1).bind fun t626 => (some (t626, 0))) else (some (0, bt622.2)))) = some (r1, r2) := h
 clear h
 replace H := ob H
 obtain ⟨⟨t622, t625⟩, A20, H⟩ := H
 (try dsimp only at H)
 have A2 := m0 A20
 clear A20
 by_cases c3 : t625 = 0
 ·rw [if_pos c3] at H
  have c3b0 := beq_iff_eq.mpr c3
  have c3b1 := bne_eq_false_iff_eq.mpr c3
  clear c3
  replace H := ob H
  obtain ⟨t626, A40, H⟩ := H
  (try dsimp only at H)
  have A4 := m0 A40
  clear A40
  simp only [Option.some.injEq, Prod.mk.injEq] at H
  obtain ⟨rfl, rfl⟩ := H
  go_enter Tryd.func32, Tryd.ntmps32
  go_wp2_with (first | ((with_reducible refine gate_callee (f := 102) rfl ?_); refine gl (some 8) Tryd.func102 #[.slice A0 l0.length c0] ?_; (with_reducible refine (line_open.calls (fun k_ => k_ < w.heap.size) _ _ l0 t622 t625 _ ?side1 A2.out).mono ?_); (case side1 => exact Kd.V_mk HC0.out (Kd.F_below (Kd.C_F (Kd.heap_int .i64) HR0.out) bz)); rintro e w5 ⟨v623, rfl, ho0, hb⟩; refine ⟨_, rfl, ?_⟩; have HO624 := m0 (Kd.V_lower (Kd.V_mono (ok' := fun k_ => True) ho0 (fun k_ hk_ => trivial)) (below_size bz)); replace HB := sb HB hb; (try clear hb); (try clear ho0); obtain ⟨Ao6, co6, eo6⟩ := Kd.V_slice HO624.out; subst eo6) | ((with_reducible refine gate_callee (f := 103) rfl ?_); refine gl (some 15) Tryd.func103 #[.slice Ao6 t622.length co6] ?_; (with_reducible refine (Sp_peak.calls k _ _ t622 t626 _ ?side1 ?side2 A4.out).mono ?_); (case side1 => repeat (first | exact (Kd.V_reads' HO624.out).2.2 | (with_reducible refine Kd.C_alloc ?_ _) | (with_reducible refine Kd.C_drewN ?_ _) | (with_reducible refine Kd.C_drew ?_))); (case side2 => exact (Kd.V_reads' HO624.out).2.1); rintro e w7 ⟨rfl, hb⟩; refine ⟨_, rfl, ?_⟩; replace HO624 := m0 (Kd.V_below (by (with_reducible repeat (first | apply Kd.V_alloc | apply Kd.V_drewN | apply Kd.V_drew)); exact HO624.out) hb); replace HB := sb HB hb; (try clear hb)))
  go_ret2
  exact ez
 ·rw [if_neg c3] at H
  have c3b0 := beq_eq_false_iff_ne.mpr c3
  have c3b1 := bne_iff_ne.mpr c3
  simp only [Option.some.injEq, Prod.mk.injEq] at H
  obtain ⟨rfl, rfl⟩ := H
  go_enter Tryd.func32, Tryd.ntmps32
  go_wp2_with (first | ((with_reducible refine gate_callee (f := 102) rfl ?_); refine gl (some 8) Tryd.func102 #[.slice A0 l0.length c0] ?_; (with_reducible refine (line_open.calls (fun k_ => k_ < w.heap.size) _ _ l0 t622 t625 _ ?side1 A2.out).mono ?_); (case side1 => exact Kd.V_mk HC0.out (Kd.F_below (Kd.C_F (Kd.heap_int .i64) HR0.out) bz)); rintro e w8 ⟨v623, rfl, ho0, hb⟩; refine ⟨_, rfl, ?_⟩; have HO624 := m0 (Kd.V_lower (Kd.V_mono (ok' := fun k_ => True) ho0 (fun k_ hk_ => trivial)) (below_size bz)); replace HB := sb HB hb; (try clear hb); (try clear ho0)))
  go_ret2
  exact ez
end
section
def line_PeaksOf.l0 : Nat → List Int → Int → List Int → Int → Int → Option (List Int × Int)
 | 0, _, _, _, _, _ => none
 | k + 1, x6, x7, x20, x21, x22 => if x22 < x21 then (if 0 ≤ x22 then (if x22 < (x20.length : Int) then (if (rd x20 x22) = x7 then (if x6.length < 17592186044416 then (line_PeaksOf.l0 k (x6 ++ [x22]) x7 x20 x21 (wrap64 (x22 + 1))) else (none)) else (line_PeaksOf.l0 k x6 x7 x20 x21 (wrap64 (x22 + 1)))) else (none)) else (none)) else (some (x6, 0))
def line_PeaksOf.f (k : Nat) (l0 : List Int) : Option (List Int × Int) := (line_open.f l0).bind fun bt1483 => (if bt1483.2 = 0 then ((Sp_int_106.f k bt1483.1).bind fun t1487 => (line_PeaksOf.l0 k ([] : List Int) t1487 bt1483.1 (bt1483.1.length : Int) 0)) else (some (([] : List Int), bt1483.2)))
theorem line_PeaksOf.mono_l : ∀ k, (∀ y0 y1 y2 y3 y4, LeO (line_PeaksOf.l0 k y0 y1 y2 y3 y4) (line_PeaksOf.l0 (k + 1) y0 y1 y2 y3 y4))
 | 0 => fun _ _ _ _ _ r h => by simp [line_PeaksOf.l0] at h
 | k + 1 => by
  have ih0 := line_PeaksOf.mono_l k
  ·intro y0 y1 y2 y3 y4
   unfold line_PeaksOf.l0
   repeat' first
   | (with_reducible exact ih0 _ _ _ _ _)
   | (with_reducible exact Sp_int_106.mono _ _)
   | (with_reducible exact LeO.refl _)
   | (with_reducible exact LeO.none _)
   | (with_reducible refine LeO.ite ?_ ?_)
   | (with_reducible refine LeO.bind ?_ (fun _ => ?_))
   | exact ih0 _ _ _ _ _
   | exact Sp_int_106.mono _ _
   | exact LeO.none _
   | refine LeO.ite ?_ ?_
   | refine LeO.bind ?_ (fun _ => ?_)
theorem line_PeaksOf.mono : ∀ a0 k, LeO (line_PeaksOf.f k a0) (line_PeaksOf.f (k + 1) a0) := by
 intro a0 k
 have ih0 := line_PeaksOf.mono_l k
 unfold line_PeaksOf.f
 repeat' first
   | (with_reducible exact ih0 _ _ _ _ _)
   | (with_reducible exact Sp_int_106.mono _ _)
   | (with_reducible exact LeO.refl _)
   | (with_reducible exact LeO.none _)
   | (with_reducible refine LeO.ite ?_ ?_)
   | (with_reducible refine LeO.bind ?_ (fun _ => ?_))
   | exact ih0 _ _ _ _ _
   | exact Sp_int_106.mono _ _
   | exact LeO.none _
   | refine LeO.ite ?_ ?_
   | refine LeO.bind ?_ (fun _ => ?_)
theorem line_PeaksOf.calls (k : Nat) (A0 : Option Addr) (c0 : Nat) (l0 : List Int) (r1 : List Int) (r2 : Int) (w : World) (hr0 : Kd.C (Kd.int .i64) w A0 l0.length l0) (hc0 : l0.length ≤ c0) (h : line_PeaksOf.f k l0 = some (r1, r2)) :
  Calls Tryd.prog 76 #[.slice A0 l0.length c0] w fun e w' => ∃ v0_ : Value, e = .returned (.tuple #[v0_, .int .i64 r2]) ∧ Kd.R (Kd.int .i64) 3 w' w.heap.size (fun _ => True) v0_ r1 ∧ Below w.heap.size w w' := by
 have HR0 := m0 hr0
 have HC0 := m0 hc0
 clear hr0 hc0
 have HB := m0 (Below.refl w.heap.size w)
 have H : ((line_open.f l0).bind fun bt1483 => (if bt1483.2 = 0 then ((Sp_int_106.f k bt1483.1).bind fun t1487 => (line_PeaksOf.l0 k ([] : List Int) t1487 bt1483.1 (bt1483.1.length : Int) 0)) else (some (([] : List Int), bt1483.2)))) = some (r1, r2) := h
 clear h
 replace H := ob H
 obtain ⟨⟨t1483, t1486⟩, A20, H⟩ := H
 (try dsimp only at H)
 have A2 := m0 A20
 clear A20
 by_cases c3 : t1486 = 0
 ·rw [if_pos c3] at H
  have c3b0 := beq_iff_eq.mpr c3
  have c3b1 := bne_eq_false_iff_eq.mpr c3
  clear c3
  replace H := ob H
  obtain ⟨t1487, A40, H⟩ := H
  (try dsimp only at H)
  have A4 := m0 A40
  clear A40
  have H' := m0 H
  clear H
  go_enter Tryd.func76, Tryd.ntmps76
  go_wp2_with (first | ((with_reducible refine gate_callee (f := 102) rfl ?_); refine gl (some 12) Tryd.func102 #[.slice A0 l0.length c0] ?_; (with_reducible refine (line_open.calls (fun k_ => k_ < w.heap.size) _ _ l0 t1483 t1486 _ ?side1 A2.out).mono ?_); (case side1 => exact Kd.V_mk HC0.out (Kd.F_below (Kd.C_F (Kd.heap_int .i64) HR0.out) bz)); rintro e w5 ⟨v1484, rfl, ho0, hb⟩; refine ⟨_, rfl, ?_⟩; have HO1485 := m0 (Kd.V_lower (Kd.V_mono (ok' := fun k_ => True) ho0 (fun k_ hk_ => trivial)) (below_size bz)); replace HB := sb HB hb; (try clear hb); (try clear ho0); obtain ⟨Ao6, co6, eo6⟩ := Kd.V_slice HO1485.out; subst eo6) | ((with_reducible refine gate_callee (f := 106) rfl ?_); refine gl (some 19) Tryd.func106 #[.slice Ao6 t1483.length co6] ?_; (with_reducible refine (Sp_int_106.calls k _ _ t1483 t1487 _ ?side1 ?side2 A4.out).mono ?_); (case side1 => repeat (first | exact (Kd.V_reads' HO1485.out).2.2 | (with_reducible refine Kd.C_alloc ?_ _) | (with_reducible refine Kd.C_drewN ?_ _) | (with_reducible refine Kd.C_drew ?_))); (case side2 => exact (Kd.V_reads' HO1485.out).2.1); rintro e w7 ⟨rfl, hb⟩; refine ⟨_, rfl, ?_⟩; replace HO1485 := m0 (Kd.V_below (by (with_reducible repeat (first | apply Kd.V_alloc | apply Kd.V_drewN | apply Kd.V_drew)); exact HO1485.out) hb); replace HB := sb HB hb; (try clear hb)))
  go_loopg [6, 22] k (fun kq v6 v22 w' => ∃ (x6_1 : List Int) (x22_1 : Int), v22 = .int .i64 x22_1 ∧ Aside0 (line_PeaksOf.l0 kq x6_1 t1487 t1483 (t1483.length : Int) x22_1 = some (r1, r2)) ∧ Aside0 (kq ≤ k) ∧ Aside0 (Kd.R (Kd.int .i64) 3 w' w.heap.size (fun _ => True) v6 x6_1) ∧ Aside0 (Kd.V (Kd.int .i64) 3 w' w.heap.size (fun k_ => some k_ ≠ (v6 : Value).ownBlock) (.slice Ao6 t1483.length co6) t1483) ∧ Aside0 (Below w.heap.size w w'))
  case atStart => exact ⟨(([] : List Int)), (0), (by first | rfl | (simp; done) | (simp [*]; done)), H', ⟨Nat.le_refl _⟩, ⟨by first | exact Kd.R_nil _ _ _ _ _ | exact Kd.N_nil _ _ _ _ _ | exact Kd.V_nil _ _ _ _ _ | exact Kd.Q_nil _ _ _ _ _ | exact Kd.S_nil _ _ _ _ _⟩, ⟨by (with_reducible repeat (first | apply Kd.V_alloc | apply Kd.V_drewN | apply Kd.V_drew)); exact Kd.V_mono HO1485.out (fun _ hk => (by simp [Value.ownBlock]))⟩, ⟨bz⟩⟩
  case round =>
   clear H'
   try clear c1
   try clear p2
   try clear c3
   try clear c3b0
   try clear c3b1
   try clear c7
   obtain ⟨x6_1, x22_1, rfl, HA, HK1, HO_6, HO_20, HB⟩ := hrel
   cases gk with
   | zero => exact absurd HA.out (by simp [line_PeaksOf.l0])
   | succ k1 =>
    have H := HA.out
    clear HA
    simp only [line_PeaksOf.l0] at H
    by_cases c8 : x22_1 < (t1483.length : Int)
    ·rw [if_pos c8] at H
     have c8b0 := decide_eq_true c8
     clear c8
     by_cases c9 : 0 ≤ x22_1
     ·rw [if_pos c9] at H
      have c9b0 := decide_eq_true c9
      clear c9
      by_cases c10 : x22_1 < (t1483.length : Int)
      ·rw [if_pos c10] at H
       have c10b0 := decide_eq_true c10
       clear c10
       by_cases c11 : (rd t1483 x22_1) = t1487
       ·rw [if_pos c11] at H
        have c11b0 := beq_iff_eq.mpr c11
        have c11b1 := bne_eq_false_iff_eq.mpr c11
        clear c11
        by_cases c12 : x6_1.length < 17592186044416
        ·rw [if_pos c12] at H
         have LMc12 := m0 c12
         clear c12
         obtain ⟨y1489, hy1489⟩ : ∃ y_ : List Int, y_ = (x6_1 ++ [x22_1]) := ⟨_, rfl⟩
         replace H : (line_PeaksOf.l0 k1 y1489 t1487 t1483 (t1483.length : Int) (wrap64 (x22_1 + 1))) = some (r1, r2) := by first | (rw [hy1489]; with_reducible exact H) | (have H2_ := (Option.bind_some _ _).symm.trans H; rw [hy1489]; with_reducible exact H2_) | (have H2_ := (Option.bind_some _ _).symm.trans H; with_reducible exact H2_) | with_reducible exact H | (rw [hy1489]; exact H) | exact H
         have Ny1489 := m0 hy1489
         clear hy1489
         have H' := m0 H
         clear H
         have p1488 : 0 ≤ (x22_1 : Int) := of_decide_eq_true (by first | (with_reducible assumption) | assumption)
         have q1488 : x22_1 < (t1483.length : Int) := of_decide_eq_true (by first | (with_reducible assumption) | assumption)
         obtain ⟨ad1488, e1488, hx1488_0⟩ := Kd.at_int (Kd.V_reads' HO_20.out).2.2 x22_1 p1488 q1488
         cases e1488
         replace p1488 := eq_true p1488
         replace q1488 := eq_true q1488
         go_wp2_with (first | ((with_reducible refine gate_builtin (b := .append) (xs := #[.tmp 30, .tmp 32]) rfl ?_); at_builtin; refine Kd.R_append (Kd.int .i64) (w0 := w) w.heap.size rfl (.tmp 30) (.tmp 32) 22 3 (.int .i64 0) 8 rfl Tryd.underlying22 info3 rfl (by decide) (by omega) u6 x6_1 x22_1 [.int .i64 x22_1] (fun _ => True) (fun _ => False) rfl rfl ?aP (fun _ hk => hk.elim) ?aF ?aO ?aB ?aS ?aL ?_; (case aP => exact rfl); (case aB => exact bz); (case aF => exact (fun _ _ => trivial)); (case aO => exact (br HO_6.out)); (case aS => exact (below_size bz)); (case aL => have := LMc12.out; omega); intro v1490 w13 ho hb hg hat; rw [← Ny1489.out] at ho; have n0_ := m0 (Kd.V_afterv (ok := (fun _ => True)) (by (with_reducible repeat (first | apply Kd.V_alloc | apply Kd.V_drewN | apply Kd.V_drew)); exact Kd.V_mono HO_20.out (fun _ hk => ⟨trivial, hk⟩)) hg hat); have n1_ := m0 (hb); have n2_ := m0 (ho); clear HO_20; clear HB; clear HO_6; have HO_20 := n0_; have HB := n1_; have HO1491 := n2_; clear n0_ n1_ n2_; clear ho hb hg hat))
         go_roundg k1
         case measure => have := HK1.out; omega
         case rel => exact ⟨(y1489), (wrap64 (x22_1 + 1)), (by first | rfl | (simp; done) | (simp [*]; done)), H', ⟨by have := HK1.out; omega⟩, ⟨br HO1491.out⟩, ⟨by (with_reducible repeat (first | apply Kd.V_alloc | apply Kd.V_drewN | apply Kd.V_drew)); exact Kd.V_mono HO_20.out (fun _ hk => hk.2)⟩, ⟨bz⟩⟩
        ·rw [if_neg c12] at H
         exact absurd H (by simp)
       ·rw [if_neg c11] at H
        have c11b0 := beq_eq_false_iff_ne.mpr c11
        have c11b1 := bne_iff_ne.mpr c11
        have H' := m0 H
        clear H
        have p1488 : 0 ≤ (x22_1 : Int) := of_decide_eq_true (by first | (with_reducible assumption) | assumption)
        have q1488 : x22_1 < (t1483.length : Int) := of_decide_eq_true (by first | (with_reducible assumption) | assumption)
        obtain ⟨ad1488, e1488, hx1488_0⟩ := Kd.at_int (Kd.V_reads' HO_20.out).2.2 x22_1 p1488 q1488
        cases e1488
        replace p1488 := eq_true p1488
        replace q1488 := eq_true q1488
        go_wp2
        go_roundg k1
        case measure => have := HK1.out; omega
        case rel => exact ⟨(x6_1), (wrap64 (x22_1 + 1)), (by first | rfl | (simp; done) | (simp [*]; done)), H', ⟨by have := HK1.out; omega⟩, ⟨br HO_6.out⟩, ⟨by (with_reducible repeat (first | apply Kd.V_alloc | apply Kd.V_drewN | apply Kd.V_drew)); exact HO_20.out⟩, ⟨bz⟩⟩
      ·rw [if_neg c10] at H
       exact absurd H (by simp)
     ·rw [if_neg c9] at H
      exact absurd H (by simp)
    ·rw [if_neg c8] at H
     have c8b0 := decide_eq_false c8
     clear c8
     simp only [Option.some.injEq, Prod.mk.injEq] at H
     obtain ⟨rfl, rfl⟩ := H
     go_wp2
     go_ret2
     exact ⟨_, by first | rfl | (simp [errW_none, errW_some] <;> rfl) | (simp [*, errW_none, errW_some] <;> rfl), by (with_reducible repeat (first | apply Kd.R_alloc | apply Kd.R_drewN | apply Kd.R_drew)); exact HO_6.out, by repeat (first | (with_reducible first | exact HB.out | apply below_alloc | apply pw_below_drewN | apply below_drew1) | exact HB.out)⟩
 ·rw [if_neg c3] at H
  have c3b0 := beq_eq_false_iff_ne.mpr c3
  have c3b1 := bne_iff_ne.mpr c3
  simp only [Option.some.injEq, Prod.mk.injEq] at H
  obtain ⟨rfl, rfl⟩ := H
  go_enter Tryd.func76, Tryd.ntmps76
  go_wp2_with (first | ((with_reducible refine gate_callee (f := 102) rfl ?_); refine gl (some 12) Tryd.func102 #[.slice A0 l0.length c0] ?_; (with_reducible refine (line_open.calls (fun k_ => k_ < w.heap.size) _ _ l0 t1483 t1486 _ ?side1 A2.out).mono ?_); (case side1 => exact Kd.V_mk HC0.out (Kd.F_below (Kd.C_F (Kd.heap_int .i64) HR0.out) bz)); rintro e w14 ⟨v1484, rfl, ho0, hb⟩; refine ⟨_, rfl, ?_⟩; have HO1485 := m0 (Kd.V_lower (Kd.V_mono (ok' := fun k_ => True) ho0 (fun k_ hk_ => trivial)) (below_size bz)); replace HB := sb HB hb; (try clear hb); (try clear ho0)))
  go_ret2
  exact ⟨_, by first | rfl | (simp [errW_none, errW_some] <;> rfl) | (simp [*, errW_none, errW_some] <;> rfl), by first | exact Kd.R_nil _ _ _ _ _ | exact Kd.N_nil _ _ _ _ _ | exact Kd.V_nil _ _ _ _ _ | exact Kd.Q_nil _ _ _ _ _ | exact Kd.S_nil _ _ _ _ _, by repeat (first | (with_reducible first | exact HB.out | apply below_alloc | apply pw_below_drewN | apply below_drew1) | exact HB.out)⟩
end
section
def line_Whitened.l0 : Nat → List Int → List Int → List Int → Int → Int → Option (List Int × Int)
 | 0, _, _, _, _, _ => none
 | k + 1, x8, x10, x36, x37, x38 => if x38 < x37 then (if 0 ≤ x38 then (if x38 < (x36.length : Int) then (if x38 < (x8.length : Int) then (if x10.length < 17592186044416 then (line_Whitened.l0 k x8 (x10 ++ [mx 0 (wrap64 ((rd x36 x38) - (rd x8 x38)))]) x36 x37 (wrap64 (x38 + 1))) else (none)) else (none)) else (none)) else (none)) else (some (x10, 0))
def line_Whitened.f (k : Nat) (l0 : List Int) (l1 : List Int) : Option (List Int × Int) := (line_open.f l0).bind fun bt1492 => ((line_open.f l1).bind fun bt1496 => ((line_unless.f ((bt1492.1.length : Int) == (bt1496.1.length : Int)) 13).bind fun t1500 => ((line_first.f k (([bt1492.2, bt1496.2, t1500] : List Int))).bind fun t1504 => (if t1504 = 0 then (line_Whitened.l0 k bt1496.1 ([] : List Int) bt1492.1 (bt1492.1.length : Int) 0) else (some (([] : List Int), t1504))))))
theorem line_Whitened.mono_l : ∀ k, (∀ y0 y1 y2 y3 y4, LeO (line_Whitened.l0 k y0 y1 y2 y3 y4) (line_Whitened.l0 (k + 1) y0 y1 y2 y3 y4))
 | 0 => fun _ _ _ _ _ r h => by simp [line_Whitened.l0] at h
 | k + 1 => by
  have ih0 := line_Whitened.mono_l k
  ·intro y0 y1 y2 y3 y4
   unfold line_Whitened.l0
   repeat' first
   | (with_reducible exact ih0 _ _ _ _ _)
   | (with_reducible exact line_first.mono _ _)
   | (with_reducible exact LeO.refl _)
   | (with_reducible exact LeO.none _)
   | (with_reducible refine LeO.ite ?_ ?_)
   | (with_reducible refine LeO.bind ?_ (fun _ => ?_))
   | exact ih0 _ _ _ _ _
   | exact line_first.mono _ _
   | exact LeO.none _
   | refine LeO.ite ?_ ?_
   | refine LeO.bind ?_ (fun _ => ?_)
theorem line_Whitened.mono : ∀ a0 a1 k, LeO (line_Whitened.f k a0 a1) (line_Whitened.f (k + 1) a0 a1) := by
 intro a0 a1 k
 have ih0 := line_Whitened.mono_l k
 unfold line_Whitened.f
 repeat' first
   | (with_reducible exact ih0 _ _ _ _ _)
   | (with_reducible exact line_first.mono _ _)
   | (with_reducible exact LeO.refl _)
   | (with_reducible exact LeO.none _)
   | (with_reducible refine LeO.ite ?_ ?_)
   | (with_reducible refine LeO.bind ?_ (fun _ => ?_))
   | exact ih0 _ _ _ _ _
   | exact line_first.mono _ _
   | exact LeO.none _
   | refine LeO.ite ?_ ?_
   | refine LeO.bind ?_ (fun _ => ?_)
theorem line_Whitened.calls (k : Nat) (A0 : Option Addr) (c0 : Nat) (l0 : List Int) (A1 : Option Addr) (c1 : Nat) (l1 : List Int) (r1 : List Int) (r2 : Int) (w : World) (hr0 : Kd.C (Kd.int .i64) w A0 l0.length l0) (hc0 : l0.length ≤ c0) (hr1 : Kd.C (Kd.int .i64) w A1 l1.length l1) (hc1 : l1.length ≤ c1) (h : line_Whitened.f k l0 l1 = some (r1, r2)) :
  Calls Tryd.prog 77 #[.slice A0 l0.length c0, .slice A1 l1.length c1] w fun e w' => ∃ v0_ : Value, e = .returned (.tuple #[v0_, .int .i64 r2]) ∧ Kd.R (Kd.int .i64) 3 w' w.heap.size (fun _ => True) v0_ r1 ∧ Below w.heap.size w w' := by
 have HR0 := m0 hr0
 have HC0 := m0 hc0
 clear hr0 hc0
 have HR1 := m0 hr1
 have HC1 := m0 hc1
 clear hr1 hc1
 have HB := m0 (Below.refl w.heap.size w)
 have H : ((line_open.f l0).bind fun bt1492 => ((line_open.f l1).bind fun bt1496 => ((line_unless.f ((bt1492.1.length : Int) == (bt1496.1.length : Int)) 13).bind fun t1500 => ((line_first.f k (([bt1492.2, bt1496.2, t1500] : List Int))).bind fun t1504 => (if t1504 = 0 then (line_Whitened.l0 k bt1496.1 ([] : List Int) bt1492.1 (bt1492.1.length : Int) 0) else (some (([] : List Int), t1504))))))) = some (r1, r2) := h
 clear h
 replace H := ob H
 obtain ⟨⟨t1492, t1495⟩, A30, H⟩ := H
 (try dsimp only at H)
 have A3 := m0 A30
 clear A30
 replace H := ob H
 obtain ⟨⟨t1496, t1499⟩, A40, H⟩ := H
 (try dsimp only at H)
 have A4 := m0 A40
 clear A40
 replace H := ob H
 obtain ⟨t1500, A50, H⟩ := H
 (try dsimp only at H)
 have A5 := m0 A50
 clear A50
 obtain ⟨y1501, hy1501⟩ : ∃ y_ : List Int, y_ = (([t1495, t1499, t1500] : List Int)) := ⟨_, rfl⟩
 replace H : ((line_first.f k y1501).bind fun t1504 => (if t1504 = 0 then (line_Whitened.l0 k t1496 ([] : List Int) t1492 (t1492.length : Int) 0) else (some (([] : List Int), t1504)))) = some (r1, r2) := by first | (rw [hy1501]; with_reducible exact H) | (have H2_ := (Option.bind_some _ _).symm.trans H; rw [hy1501]; with_reducible exact H2_) | (have H2_ := (Option.bind_some _ _).symm.trans H; with_reducible exact H2_) | with_reducible exact H | (rw [hy1501]; exact H) | exact H
 have Ny1501 := m0 hy1501
 clear hy1501
 replace H := ob H
 obtain ⟨t1504, A60, H⟩ := H
 (try dsimp only at H)
 have A6 := m0 A60
 clear A60
 by_cases c7 : t1504 = 0
 ·rw [if_pos c7] at H
  have c7b0 := beq_iff_eq.mpr c7
  have c7b1 := bne_eq_false_iff_eq.mpr c7
  clear c7
  have H' := m0 H
  clear H
  go_enter Tryd.func77, Tryd.ntmps77
  go_wp2_with (first | ((with_reducible refine gate_callee (f := 102) rfl ?_); refine gl (some 15) Tryd.func102 #[.slice A0 l0.length c0] ?_; (with_reducible refine (line_open.calls (fun k_ => k_ < w.heap.size) _ _ l0 t1492 t1495 _ ?side1 A3.out).mono ?_); (case side1 => exact Kd.V_mk HC0.out (Kd.F_below (Kd.C_F (Kd.heap_int .i64) HR0.out) bz)); rintro e w8 ⟨v1493, rfl, ho0, hb⟩; refine ⟨_, rfl, ?_⟩; have HO1494 := m0 (Kd.V_lower (Kd.V_mono (ok' := fun k_ => True) ho0 (fun k_ hk_ => trivial)) (below_size bz)); replace HB := sb HB hb; (try clear hb); (try clear ho0)) | ((with_reducible refine gate_callee (f := 102) rfl ?_); refine gl (some 20) Tryd.func102 #[.slice A1 l1.length c1] ?_; (with_reducible refine (line_open.calls (fun k_ => k_ < w.heap.size) _ _ l1 t1496 t1499 _ ?side1 A4.out).mono ?_); (case side1 => exact Kd.V_mk HC1.out (Kd.F_below (Kd.C_F (Kd.heap_int .i64) HR1.out) bz)); rintro e w9 ⟨v1497, rfl, ho0, hb⟩; refine ⟨_, rfl, ?_⟩; replace HO1494 := m0 (Kd.V_below (by (with_reducible repeat (first | apply Kd.V_alloc | apply Kd.V_drewN | apply Kd.V_drew)); exact HO1494.out) hb); have HO1498 := m0 (Kd.V_lower (Kd.V_mono (ok' := fun k_ => True) ho0 (fun k_ hk_ => trivial)) (below_size bz)); replace HB := sb HB hb; (try clear hb); (try clear ho0); obtain ⟨Ao10, co10, eo10⟩ := Kd.V_slice HO1494.out; subst eo10; obtain ⟨Ao11, co11, eo11⟩ := Kd.V_slice HO1498.out; subst eo11) | ((with_reducible refine gate_callee (f := 93) rfl ?_); refine gl (some 30) Tryd.func93 #[.bool ((t1492.length : Int) == (t1496.length : Int)), .int .i64 13] ?_; (with_reducible refine (line_unless.calls ((t1492.length : Int) == (t1496.length : Int)) 13 t1500 _ A5.out).mono ?_); rintro e w' ⟨rfl, ⟨nd, rfl⟩⟩; refine ⟨_, rfl, ?_⟩) | ((with_reducible refine gate_dst (N := 31) rfl ?_); refine Kd.R_lit (Kd.int .i64) _ 31 ?hg (N := 31) ?hd (xs := ([t1495, t1499, t1500] : List Int)) (inner := [.int .i64 t1495, .int .i64 t1499, .int .i64 t1500]) (ok := fun _ => True) (okp := fun _ => True) ?hr ?hp (fun _ hk => hk) trivial (Below.refl _ _) (Nat.le_refl _) (by simp) ?_; (case hd => rfl); (case hg => rfl); (case hr => first | (go_simp; done) | (go_simp; rfl)); (case hp => exact (Reps.one (show Kd.M (Kd.int .i64) _ _ _ t1495 [.int .i64 t1495] from rfl) (Reps.one (show Kd.M (Kd.int .i64) _ _ _ t1499 [.int .i64 t1499] from rfl) (Reps.one (show Kd.M (Kd.int .i64) _ _ _ t1500 [.int .i64 t1500] from rfl) (Reps.none _ _))))); intro v1502 w12 ho13 hb hg_ hnew_; clear hg_ hnew_; (first | rw [← Ny1501.out] at ho13 | (simp only [Int.reduceToNat] at ho13; rw [← Ny1501.out] at ho13)); replace HO1494 := m0 (Kd.V_elder' (by (with_reducible repeat (first | apply Kd.V_alloc | apply Kd.V_drewN | apply Kd.V_drew)); exact HO1494.out) (Kd.R_base ho13) hb); replace HO1498 := m0 (Kd.V_elder' (by (with_reducible repeat (first | apply Kd.V_alloc | apply Kd.V_drewN | apply Kd.V_drew)); exact HO1498.out) (Kd.R_base ho13) hb); have HO1503 := m0 (Kd.R_lower ho13 (below_size bz)); replace HB := sb HB hb; clear hb ho13; obtain ⟨Ao14, co14, eo14⟩ := Kd.R_slice HO1503.out; subst eo14) | ((with_reducible refine gate_callee (f := 91) rfl ?_); refine gl (some 32) Tryd.func91 #[.slice Ao14 y1501.length co14] ?_; (with_reducible refine (line_first.calls k _ _ y1501 t1504 _ ?side1 ?side2 A6.out).mono ?_); (case side1 => exact bc (Kd.R_reads' HO1503.out).2.2); (case side2 => exact (Kd.R_reads' HO1503.out).2.1); rintro e w' ⟨rfl, ⟨nd, rfl⟩⟩; refine ⟨_, rfl, ?_⟩))
  go_loopg [10, 38] k (fun kq v10 v38 w' => ∃ (x10_1 : List Int) (x38_1 : Int), v38 = .int .i64 x38_1 ∧ Aside0 (line_Whitened.l0 kq t1496 x10_1 t1492 (t1492.length : Int) x38_1 = some (r1, r2)) ∧ Aside0 (kq ≤ k) ∧ Aside0 (Kd.V (Kd.int .i64) 3 w' w.heap.size (fun k_ => some k_ ≠ (v10 : Value).ownBlock) (.slice Ao11 t1496.length co11) t1496) ∧ Aside0 (Kd.R (Kd.int .i64) 3 w' w.heap.size (fun _ => True) v10 x10_1) ∧ Aside0 (Kd.V (Kd.int .i64) 3 w' w.heap.size (fun k_ => some k_ ≠ (v10 : Value).ownBlock) (.slice Ao10 t1492.length co10) t1492) ∧ Aside0 (Below w.heap.size w w'))
  case atStart => exact ⟨(([] : List Int)), (0), (by first | rfl | (simp; done) | (simp [*]; done)), H', ⟨Nat.le_refl _⟩, ⟨by (with_reducible repeat (first | apply Kd.V_alloc | apply Kd.V_drewN | apply Kd.V_drew)); exact Kd.V_mono HO1498.out (fun _ hk => (by simp [Value.ownBlock]))⟩, ⟨by first | exact Kd.R_nil _ _ _ _ _ | exact Kd.N_nil _ _ _ _ _ | exact Kd.V_nil _ _ _ _ _ | exact Kd.Q_nil _ _ _ _ _ | exact Kd.S_nil _ _ _ _ _⟩, ⟨by (with_reducible repeat (first | apply Kd.V_alloc | apply Kd.V_drewN | apply Kd.V_drew)); exact Kd.V_mono HO1494.out (fun _ hk => (by simp [Value.ownBlock]))⟩, ⟨bz⟩⟩
  case round =>
   clear H'
   try clear c1
   try clear p2
   try clear c7
   try clear c7b0
   try clear c7b1
   try clear c9
   try clear c10
   obtain ⟨x10_1, x38_1, rfl, HA, HK1, HO_8, HO_10, HO_36, HB⟩ := hrel
   cases gk with
   | zero => exact absurd HA.out (by simp [line_Whitened.l0])
   | succ k1 =>
    have H := HA.out
    clear HA
    simp only [line_Whitened.l0] at H
    by_cases c15 : x38_1 < (t1492.length : Int)
    ·rw [if_pos c15] at H
     have c15b0 := decide_eq_true c15
     clear c15
     by_cases c16 : 0 ≤ x38_1
     ·rw [if_pos c16] at H
      have c16b0 := decide_eq_true c16
      clear c16
      by_cases c17 : x38_1 < (t1492.length : Int)
      ·rw [if_pos c17] at H
       have c17b0 := decide_eq_true c17
       clear c17
       by_cases c18 : x38_1 < (t1496.length : Int)
       ·rw [if_pos c18] at H
        have c18b0 := decide_eq_true c18
        clear c18
        obtain ⟨ji19, hji19⟩ : ∃ j_ : Int, (mx 0 (wrap64 ((rd t1492 x38_1) - (rd t1496 x38_1)))) = j_ := ⟨_, rfl⟩
        replace H : (if x10_1.length < 17592186044416 then (line_Whitened.l0 k1 t1496 (x10_1 ++ [ji19]) t1492 (t1492.length : Int) (wrap64 (x38_1 + 1))) else (none)) = some (r1, r2) := by first | (rw [hji19] at H; exact H) | (simp only [hji19] at H ⊢; exact H)
        have hji19_ : (if 0 < (wrap64 ((rd t1492 x38_1) - (rd t1496 x38_1))) then (wrap64 ((rd t1492 x38_1) - (rd t1496 x38_1))) else 0) = ji19 := hji19
        by_cases c20 : x10_1.length < 17592186044416
        ·rw [if_pos c20] at H
         have LMc20 := m0 c20
         clear c20
         obtain ⟨y1507, hy1507⟩ : ∃ y_ : List Int, y_ = (x10_1 ++ [ji19]) := ⟨_, rfl⟩
         replace H : (line_Whitened.l0 k1 t1496 y1507 t1492 (t1492.length : Int) (wrap64 (x38_1 + 1))) = some (r1, r2) := by first | (rw [hy1507]; with_reducible exact H) | (have H2_ := (Option.bind_some _ _).symm.trans H; rw [hy1507]; with_reducible exact H2_) | (have H2_ := (Option.bind_some _ _).symm.trans H; with_reducible exact H2_) | with_reducible exact H | (rw [hy1507]; exact H) | exact H
         have Ny1507 := m0 hy1507
         clear hy1507
         have H' := m0 H
         clear H
         have p1505 : 0 ≤ (x38_1 : Int) := of_decide_eq_true (by first | (with_reducible assumption) | assumption)
         have q1505 : x38_1 < (t1492.length : Int) := of_decide_eq_true (by first | (with_reducible assumption) | assumption)
         obtain ⟨ad1505, e1505, hx1505_0⟩ := Kd.at_int (Kd.V_reads' HO_36.out).2.2 x38_1 p1505 q1505
         cases e1505
         replace p1505 := eq_true p1505
         replace q1505 := eq_true q1505
         have p1506 : 0 ≤ (x38_1 : Int) := of_decide_eq_true (by first | (with_reducible assumption) | assumption)
         have q1506 : x38_1 < (t1496.length : Int) := of_decide_eq_true (by first | (with_reducible assumption) | assumption)
         obtain ⟨ad1506, e1506, hx1506_0⟩ := Kd.at_int (Kd.V_reads' HO_8.out).2.2 x38_1 p1506 q1506
         cases e1506
         replace p1506 := eq_true p1506
         replace q1506 := eq_true q1506
         go_wp2_with (first | ((with_reducible refine gate_builtin (b := .append) (xs := #[.tmp 43, .tmp 51]) rfl ?_); at_builtin; refine Kd.R_append (Kd.int .i64) (w0 := w) w.heap.size rfl (.tmp 43) (.tmp 51) 22 3 (.int .i64 0) 8 rfl Tryd.underlying22 info3 rfl (by decide) (by omega) u10 x10_1 ji19 [.int .i64 ji19] (fun _ => True) (fun _ => False) rfl rfl ?aP (fun _ hk => hk.elim) ?aF ?aO ?aB ?aS ?aL ?_; (case aP => exact rfl); (case aB => exact bz); (case aF => exact (fun _ _ => trivial)); (case aO => exact (br HO_10.out)); (case aS => exact (below_size bz)); (case aL => have := LMc20.out; omega); intro v1508 w21 ho hb hg hat; rw [← Ny1507.out] at ho; have n0_ := m0 (Kd.V_afterv (ok := (fun _ => True)) (by (with_reducible repeat (first | apply Kd.V_alloc | apply Kd.V_drewN | apply Kd.V_drew)); exact Kd.V_mono HO_8.out (fun _ hk => ⟨trivial, hk⟩)) hg hat); have n1_ := m0 (Kd.V_afterv (ok := (fun _ => True)) (by (with_reducible repeat (first | apply Kd.V_alloc | apply Kd.V_drewN | apply Kd.V_drew)); exact Kd.V_mono HO_36.out (fun _ hk => ⟨trivial, hk⟩)) hg hat); have n2_ := m0 (hb); have n3_ := m0 (ho); clear HO_8; clear HO_36; clear HB; clear HO_10; have HO_8 := n0_; have HO_36 := n1_; have HB := n2_; have HO1509 := n3_; clear n0_ n1_ n2_ n3_; clear ho hb hg hat))
         go_roundg k1
         case measure => have := HK1.out; omega
         case rel => exact ⟨(y1507), (wrap64 (x38_1 + 1)), (by first | rfl | (simp; done) | (simp [*]; done)), H', ⟨by have := HK1.out; omega⟩, ⟨by (with_reducible repeat (first | apply Kd.V_alloc | apply Kd.V_drewN | apply Kd.V_drew)); exact Kd.V_mono HO_8.out (fun _ hk => hk.2)⟩, ⟨br HO1509.out⟩, ⟨by (with_reducible repeat (first | apply Kd.V_alloc | apply Kd.V_drewN | apply Kd.V_drew)); exact Kd.V_mono HO_36.out (fun _ hk => hk.2)⟩, ⟨bz⟩⟩
        ·rw [if_neg c20] at H
         exact absurd H (by simp)
       ·rw [if_neg c18] at H
        exact absurd H (by simp)
      ·rw [if_neg c17] at H
       exact absurd H (by simp)
     ·rw [if_neg c16] at H
      exact absurd H (by simp)
    ·rw [if_neg c15] at H
     have c15b0 := decide_eq_false c15
     clear c15
     simp only [Option.some.injEq, Prod.mk.injEq] at H
     obtain ⟨rfl, rfl⟩ := H
     go_wp2
     go_ret2
     exact ⟨_, by first | rfl | (simp [errW_none, errW_some] <;> rfl) | (simp [*, errW_none, errW_some] <;> rfl), by (with_reducible repeat (first | apply Kd.R_alloc | apply Kd.R_drewN | apply Kd.R_drew)); exact HO_10.out, by repeat (first | (with_reducible first | exact HB.out | apply below_alloc | apply pw_below_drewN | apply below_drew1) | exact HB.out)⟩
 ·rw [if_neg c7] at H
  have c7b0 := beq_eq_false_iff_ne.mpr c7
  have c7b1 := bne_iff_ne.mpr c7
  simp only [Option.some.injEq, Prod.mk.injEq] at H
  obtain ⟨rfl, rfl⟩ := H
  go_enter Tryd.func77, Tryd.ntmps77
  go_wp2_with (first | ((with_reducible refine gate_callee (f := 102) rfl ?_); refine gl (some 15) Tryd.func102 #[.slice A0 l0.length c0] ?_; (with_reducible refine (line_open.calls (fun k_ => k_ < w.heap.size) _ _ l0 t1492 t1495 _ ?side1 A3.out).mono ?_); (case side1 => exact Kd.V_mk HC0.out (Kd.F_below (Kd.C_F (Kd.heap_int .i64) HR0.out) bz)); rintro e w22 ⟨v1493, rfl, ho0, hb⟩; refine ⟨_, rfl, ?_⟩; have HO1494 := m0 (Kd.V_lower (Kd.V_mono (ok' := fun k_ => True) ho0 (fun k_ hk_ => trivial)) (below_size bz)); replace HB := sb HB hb; (try clear hb); (try clear ho0)) | ((with_reducible refine gate_callee (f := 102) rfl ?_); refine gl (some 20) Tryd.func102 #[.slice A1 l1.length c1] ?_; (with_reducible refine (line_open.calls (fun k_ => k_ < w.heap.size) _ _ l1 t1496 t1499 _ ?side1 A4.out).mono ?_); (case side1 => exact Kd.V_mk HC1.out (Kd.F_below (Kd.C_F (Kd.heap_int .i64) HR1.out) bz)); rintro e w23 ⟨v1497, rfl, ho0, hb⟩; refine ⟨_, rfl, ?_⟩; replace HO1494 := m0 (Kd.V_below (by (with_reducible repeat (first | apply Kd.V_alloc | apply Kd.V_drewN | apply Kd.V_drew)); exact HO1494.out) hb); have HO1498 := m0 (Kd.V_lower (Kd.V_mono (ok' := fun k_ => True) ho0 (fun k_ hk_ => trivial)) (below_size bz)); replace HB := sb HB hb; (try clear hb); (try clear ho0); obtain ⟨Ao24, co24, eo24⟩ := Kd.V_slice HO1494.out; subst eo24; obtain ⟨Ao25, co25, eo25⟩ := Kd.V_slice HO1498.out; subst eo25) | ((with_reducible refine gate_callee (f := 93) rfl ?_); refine gl (some 30) Tryd.func93 #[.bool ((t1492.length : Int) == (t1496.length : Int)), .int .i64 13] ?_; (with_reducible refine (line_unless.calls ((t1492.length : Int) == (t1496.length : Int)) 13 t1500 _ A5.out).mono ?_); rintro e w' ⟨rfl, ⟨nd, rfl⟩⟩; refine ⟨_, rfl, ?_⟩) | ((with_reducible refine gate_dst (N := 31) rfl ?_); refine Kd.R_lit (Kd.int .i64) _ 31 ?hg (N := 31) ?hd (xs := ([t1495, t1499, t1500] : List Int)) (inner := [.int .i64 t1495, .int .i64 t1499, .int .i64 t1500]) (ok := fun _ => True) (okp := fun _ => True) ?hr ?hp (fun _ hk => hk) trivial (Below.refl _ _) (Nat.le_refl _) (by simp) ?_; (case hd => rfl); (case hg => rfl); (case hr => first | (go_simp; done) | (go_simp; rfl)); (case hp => exact (Reps.one (show Kd.M (Kd.int .i64) _ _ _ t1495 [.int .i64 t1495] from rfl) (Reps.one (show Kd.M (Kd.int .i64) _ _ _ t1499 [.int .i64 t1499] from rfl) (Reps.one (show Kd.M (Kd.int .i64) _ _ _ t1500 [.int .i64 t1500] from rfl) (Reps.none _ _))))); intro v1502 w26 ho27 hb hg_ hnew_; clear hg_ hnew_; (first | rw [← Ny1501.out] at ho27 | (simp only [Int.reduceToNat] at ho27; rw [← Ny1501.out] at ho27)); replace HO1494 := m0 (Kd.V_elder' (by (with_reducible repeat (first | apply Kd.V_alloc | apply Kd.V_drewN | apply Kd.V_drew)); exact HO1494.out) (Kd.R_base ho27) hb); replace HO1498 := m0 (Kd.V_elder' (by (with_reducible repeat (first | apply Kd.V_alloc | apply Kd.V_drewN | apply Kd.V_drew)); exact HO1498.out) (Kd.R_base ho27) hb); have HO1503 := m0 (Kd.R_lower ho27 (below_size bz)); replace HB := sb HB hb; clear hb ho27; obtain ⟨Ao28, co28, eo28⟩ := Kd.R_slice HO1503.out; subst eo28) | ((with_reducible refine gate_callee (f := 91) rfl ?_); refine gl (some 32) Tryd.func91 #[.slice Ao28 y1501.length co28] ?_; (with_reducible refine (line_first.calls k _ _ y1501 t1504 _ ?side1 ?side2 A6.out).mono ?_); (case side1 => exact bc (Kd.R_reads' HO1503.out).2.2); (case side2 => exact (Kd.R_reads' HO1503.out).2.1); rintro e w' ⟨rfl, ⟨nd, rfl⟩⟩; refine ⟨_, rfl, ?_⟩))
  go_ret2
  exact ⟨_, by first | rfl | (simp [errW_none, errW_some] <;> rfl) | (simp [*, errW_none, errW_some] <;> rfl), by first | exact Kd.R_nil _ _ _ _ _ | exact Kd.N_nil _ _ _ _ _ | exact Kd.V_nil _ _ _ _ _ | exact Kd.Q_nil _ _ _ _ _ | exact Kd.S_nil _ _ _ _ _, by repeat (first | (with_reducible first | exact HB.out | apply below_alloc | apply pw_below_drewN | apply below_drew1) | exact HB.out)⟩
end
section
def Rf_SpectrumErr.f (k : Nat) (l0 : List Int) : Option (Int) := (Rf_CheckSpectrum.f k l0).bind fun bt409 => (some bt409.2)
theorem Rf_SpectrumErr.mono : ∀ a0 k, LeO (Rf_SpectrumErr.f k a0) (Rf_SpectrumErr.f (k + 1) a0) := by
 intro a0 k
 unfold Rf_SpectrumErr.f
 repeat' first
   | (with_reducible exact Rf_CheckSpectrum.mono _ _)
   | (with_reducible exact LeO.refl _)
   | (with_reducible exact LeO.none _)
   | (with_reducible refine LeO.ite ?_ ?_)
   | (with_reducible refine LeO.bind ?_ (fun _ => ?_))
   | exact Rf_CheckSpectrum.mono _ _
   | exact LeO.none _
   | refine LeO.ite ?_ ?_
   | refine LeO.bind ?_ (fun _ => ?_)
theorem Rf_SpectrumErr.calls (k : Nat) (A0 : Option Addr) (c0 : Nat) (l0 : List Int) (r : Int) (w : World) (hr0 : Kd.C (Kd.int .i64) w A0 l0.length l0) (hc0 : l0.length ≤ c0) (h : Rf_SpectrumErr.f k l0 = some r) :
  Calls Tryd.prog 30 #[.slice A0 l0.length c0] w fun e w' => e = .returned (.int .i64 r) ∧ Drawn0 w w' := by
 have HR0 := m0 hr0
 have HC0 := m0 hc0
 clear hr0 hc0
 have H : ((Rf_CheckSpectrum.f k l0).bind fun bt409 => (some bt409.2)) = some r := h
 clear h
 replace H := ob H
 obtain ⟨⟨t409, t410⟩, A20, H⟩ := H
 (try dsimp only at H)
 have A2 := m0 A20
 clear A20
 obtain rfl := Option.some.inj H
 go_enter Tryd.func30, Tryd.ntmps30
 go_wp2_with (first | ((with_reducible refine gate_callee (f := 78) rfl ?_); refine gl (some 7) Tryd.func78 #[.slice A0 l0.length c0] ?_; (with_reducible refine (Rf_CheckSpectrum.calls k _ _ l0 t409 t410 _ ?side1 ?side2 A2.out).mono ?_); (case side1 => repeat (first | exact HR0.out | (with_reducible refine Kd.C_alloc ?_ _) | (with_reducible refine Kd.C_drewN ?_ _) | (with_reducible refine Kd.C_drew ?_))); (case side2 => exact HC0.out); rintro e w' ⟨rfl, ⟨nd, rfl⟩⟩; refine ⟨_, rfl, ?_⟩))
 go_ret
 exact ⟨by first | rfl | (simp; done) | (simp [*]; done), by repeat (first | exact Drawn0.refl _ | apply Drawn0.step)⟩
end
section
def Rf_BothErr.f (k : Nat) (l0 : List Int) (l1 : List Int) : Option (Int) := (Rf_SpectrumErr.f k l0).bind fun t1510 => (if t1510 = 0 then ((Rf_SpectrumErr.f k l1).bind fun t1511 => (if t1511 = 0 then (if (l0.length : Int) = (l1.length : Int) then (some 0) else (some 13)) else (some t1511))) else (some t1510))
theorem Rf_BothErr.mono : ∀ a0 a1 k, LeO (Rf_BothErr.f k a0 a1) (Rf_BothErr.f (k + 1) a0 a1) := by
 intro a0 a1 k
 unfold Rf_BothErr.f
 repeat' first
   | (with_reducible exact Rf_SpectrumErr.mono _ _)
   | (with_reducible exact LeO.refl _)
   | (with_reducible exact LeO.none _)
   | (with_reducible refine LeO.ite ?_ ?_)
   | (with_reducible refine LeO.bind ?_ (fun _ => ?_))
   | exact Rf_SpectrumErr.mono _ _
   | exact LeO.none _
   | refine LeO.ite ?_ ?_
   | refine LeO.bind ?_ (fun _ => ?_)
theorem Rf_BothErr.calls (k : Nat) (A0 : Option Addr) (c0 : Nat) (l0 : List Int) (A1 : Option Addr) (c1 : Nat) (l1 : List Int) (r : Int) (w : World) (hr0 : Kd.C (Kd.int .i64) w A0 l0.length l0) (hc0 : l0.length ≤ c0) (hr1 : Kd.C (Kd.int .i64) w A1 l1.length l1) (hc1 : l1.length ≤ c1) (h : Rf_BothErr.f k l0 l1 = some r) :
  Calls Tryd.prog 80 #[.slice A0 l0.length c0, .slice A1 l1.length c1] w fun e w' => e = .returned (.int .i64 r) ∧ Drawn0 w w' := by
 have HR0 := m0 hr0
 have HC0 := m0 hc0
 clear hr0 hc0
 have HR1 := m0 hr1
 have HC1 := m0 hc1
 clear hr1 hc1
 have H : ((Rf_SpectrumErr.f k l0).bind fun t1510 => (if t1510 = 0 then ((Rf_SpectrumErr.f k l1).bind fun t1511 => (if t1511 = 0 then (if (l0.length : Int) = (l1.length : Int) then (some 0) else (some 13)) else (some t1511))) else (some t1510))) = some r := h
 clear h
 replace H := ob H
 obtain ⟨t1510, A30, H⟩ := H
 (try dsimp only at H)
 have A3 := m0 A30
 clear A30
 by_cases c4 : t1510 = 0
 ·rw [if_pos c4] at H
  have c4b0 := beq_iff_eq.mpr c4
  have c4b1 := bne_eq_false_iff_eq.mpr c4
  clear c4
  replace H := ob H
  obtain ⟨t1511, A50, H⟩ := H
  (try dsimp only at H)
  have A5 := m0 A50
  clear A50
  by_cases c6 : t1511 = 0
  ·rw [if_pos c6] at H
   have c6b0 := beq_iff_eq.mpr c6
   have c6b1 := bne_eq_false_iff_eq.mpr c6
   clear c6
   by_cases c7 : (l0.length : Int) = (l1.length : Int)
   ·rw [if_pos c7] at H
    have c7b0 := beq_iff_eq.mpr c7
    have c7b1 := bne_eq_false_iff_eq.mpr c7
    have c7b2 : (l0.length == l1.length) = true := by first | simpa using c7 | (simp at c7 ⊢; omega)
    clear c7
    obtain rfl := Option.some.inj H
    go_enter Tryd.func80, Tryd.ntmps80
    go_wp2_with (first | ((with_reducible refine gate_callee (f := 30) rfl ?_); refine gl (some 8) Tryd.func30 #[.slice A0 l0.length c0] ?_; (with_reducible refine (Rf_SpectrumErr.calls k _ _ l0 t1510 _ ?side1 ?side2 A3.out).mono ?_); (case side1 => repeat (first | exact HR0.out | (with_reducible refine Kd.C_alloc ?_ _) | (with_reducible refine Kd.C_drewN ?_ _) | (with_reducible refine Kd.C_drew ?_))); (case side2 => exact HC0.out); rintro e w' ⟨rfl, ⟨nd, rfl⟩⟩; refine ⟨_, rfl, ?_⟩) | ((with_reducible refine gate_callee (f := 30) rfl ?_); refine gl (some 13) Tryd.func30 #[.slice A1 l1.length c1] ?_; (with_reducible refine (Rf_SpectrumErr.calls k _ _ l1 t1511 _ ?side1 ?side2 A5.out).mono ?_); (case side1 => repeat (first | exact HR1.out | (with_reducible refine Kd.C_alloc ?_ _) | (with_reducible refine Kd.C_drewN ?_ _) | (with_reducible refine Kd.C_drew ?_))); (case side2 => exact HC1.out); rintro e w' ⟨rfl, ⟨nd, rfl⟩⟩; refine ⟨_, rfl, ?_⟩))
    go_ret
    exact ⟨by first | rfl | (simp; done) | (simp [*]; done), by repeat (first | exact Drawn0.refl _ | apply Drawn0.step)⟩
   ·rw [if_neg c7] at H
    have c7b0 := beq_eq_false_iff_ne.mpr c7
    have c7b1 := bne_iff_ne.mpr c7
    have c7b2 : (l0.length == l1.length) = false := by first | simpa using c7 | (simp at c7 ⊢; omega)
    obtain rfl := Option.some.inj H
    go_enter Tryd.func80, Tryd.ntmps80
    go_wp2_with (first | ((with_reducible refine gate_callee (f := 30) rfl ?_); refine gl (some 8) Tryd.func30 #[.slice A0 l0.length c0] ?_; (with_reducible refine (Rf_SpectrumErr.calls k _ _ l0 t1510 _ ?side1 ?side2 A3.out).mono ?_); (case side1 => repeat (first | exact HR0.out | (with_reducible refine Kd.C_alloc ?_ _) | (with_reducible refine Kd.C_drewN ?_ _) | (with_reducible refine Kd.C_drew ?_))); (case side2 => exact HC0.out); rintro e w' ⟨rfl, ⟨nd, rfl⟩⟩; refine ⟨_, rfl, ?_⟩) | ((with_reducible refine gate_callee (f := 30) rfl ?_); refine gl (some 13) Tryd.func30 #[.slice A1 l1.length c1] ?_; (with_reducible refine (Rf_SpectrumErr.calls k _ _ l1 t1511 _ ?side1 ?side2 A5.out).mono ?_); (case side1 => repeat (first | exact HR1.out | (with_reducible refine Kd.C_alloc ?_ _) | (with_reducible refine Kd.C_drewN ?_ _) | (with_reducible refine Kd.C_drew ?_))); (case side2 => exact HC1.out); rintro e w' ⟨rfl, ⟨nd, rfl⟩⟩; refine ⟨_, rfl, ?_⟩))
    go_ret
    exact ⟨by first | rfl | (simp; done) | (simp [*]; done), by repeat (first | exact Drawn0.refl _ | apply Drawn0.step)⟩
  ·rw [if_neg c6] at H
   have c6b0 := beq_eq_false_iff_ne.mpr c6
   have c6b1 := bne_iff_ne.mpr c6
   obtain rfl := Option.some.inj H
   go_enter Tryd.func80, Tryd.ntmps80
   go_wp2_with (first | ((with_reducible refine gate_callee (f := 30) rfl ?_); refine gl (some 8) Tryd.func30 #[.slice A0 l0.length c0] ?_; (with_reducible refine (Rf_SpectrumErr.calls k _ _ l0 t1510 _ ?side1 ?side2 A3.out).mono ?_); (case side1 => repeat (first | exact HR0.out | (with_reducible refine Kd.C_alloc ?_ _) | (with_reducible refine Kd.C_drewN ?_ _) | (with_reducible refine Kd.C_drew ?_))); (case side2 => exact HC0.out); rintro e w' ⟨rfl, ⟨nd, rfl⟩⟩; refine ⟨_, rfl, ?_⟩) | ((with_reducible refine gate_callee (f := 30) rfl ?_); refine gl (some 13) Tryd.func30 #[.slice A1 l1.length c1] ?_; (with_reducible refine (Rf_SpectrumErr.calls k _ _ l1 t1511 _ ?side1 ?side2 A5.out).mono ?_); (case side1 => repeat (first | exact HR1.out | (with_reducible refine Kd.C_alloc ?_ _) | (with_reducible refine Kd.C_drewN ?_ _) | (with_reducible refine Kd.C_drew ?_))); (case side2 => exact HC1.out); rintro e w' ⟨rfl, ⟨nd, rfl⟩⟩; refine ⟨_, rfl, ?_⟩))
   go_ret
   exact ⟨by first | rfl | (simp; done) | (simp [*]; done), by repeat (first | exact Drawn0.refl _ | apply Drawn0.step)⟩
 ·rw [if_neg c4] at H
  have c4b0 := beq_eq_false_iff_ne.mpr c4
  have c4b1 := bne_iff_ne.mpr c4
  obtain rfl := Option.some.inj H
  go_enter Tryd.func80, Tryd.ntmps80
  go_wp2_with (first | ((with_reducible refine gate_callee (f := 30) rfl ?_); refine gl (some 8) Tryd.func30 #[.slice A0 l0.length c0] ?_; (with_reducible refine (Rf_SpectrumErr.calls k _ _ l0 t1510 _ ?side1 ?side2 A3.out).mono ?_); (case side1 => repeat (first | exact HR0.out | (with_reducible refine Kd.C_alloc ?_ _) | (with_reducible refine Kd.C_drewN ?_ _) | (with_reducible refine Kd.C_drew ?_))); (case side2 => exact HC0.out); rintro e w' ⟨rfl, ⟨nd, rfl⟩⟩; refine ⟨_, rfl, ?_⟩))
  go_ret
  exact ⟨by first | rfl | (simp; done) | (simp [*]; done), by repeat (first | exact Drawn0.refl _ | apply Drawn0.step)⟩
end
section
def Rf_Whitened.l0 : Nat → List Int → List Int → List Int → Int → Option (List Int)
 | 0, _, _, _, _ => none
 | k + 1, x0, x1, x5, x6 => if x6 < (x0.length : Int) then (if 0 ≤ x6 then (if x6 < (x1.length : Int) then (if x5.length < 17592186044416 then (Rf_Whitened.l0 k x0 x1 (x5 ++ [mx 0 (wrap64 ((rd x0 x6) - (rd x1 x6)))]) (wrap64 (x6 + 1))) else (none)) else (none)) else (none)) else (some x5)
def Rf_Whitened.f (k : Nat) (l0 : List Int) (l1 : List Int) : Option (List Int) := Rf_Whitened.l0 k l0 l1 ([] : List Int) 0
theorem Rf_Whitened.mono_l : ∀ k, (∀ y0 y1 y2 y3, LeO (Rf_Whitened.l0 k y0 y1 y2 y3) (Rf_Whitened.l0 (k + 1) y0 y1 y2 y3))
 | 0 => fun _ _ _ _ r h => by simp [Rf_Whitened.l0] at h
 | k + 1 => by
  have ih0 := Rf_Whitened.mono_l k
  ·intro y0 y1 y2 y3
   unfold Rf_Whitened.l0
   repeat' first
   | (with_reducible exact ih0 _ _ _ _)
   | (with_reducible exact LeO.refl _)
   | (with_reducible exact LeO.none _)
   | (with_reducible refine LeO.ite ?_ ?_)
   | (with_reducible refine LeO.bind ?_ (fun _ => ?_))
   | exact ih0 _ _ _ _
   | exact LeO.none _
   | refine LeO.ite ?_ ?_
   | refine LeO.bind ?_ (fun _ => ?_)
theorem Rf_Whitened.mono : ∀ a0 a1 k, LeO (Rf_Whitened.f k a0 a1) (Rf_Whitened.f (k + 1) a0 a1) := by
 intro a0 a1 k
 have ih0 := Rf_Whitened.mono_l k
 unfold Rf_Whitened.f
 repeat' first
   | (with_reducible exact ih0 _ _ _ _)
   | (with_reducible exact LeO.refl _)
   | (with_reducible exact LeO.none _)
   | (with_reducible refine LeO.ite ?_ ?_)
   | (with_reducible refine LeO.bind ?_ (fun _ => ?_))
   | exact ih0 _ _ _ _
   | exact LeO.none _
   | refine LeO.ite ?_ ?_
   | refine LeO.bind ?_ (fun _ => ?_)
def Rf_Whitened.T5 : Bool × List (List Nat × List Nat) := (true, [([], []), ([], []), ([], []), ([1, 2], [1, 2]), ([3], [3]), ([], []), ([], []), ([5, 6], [5, 6]), ([7], [7]), ([4, 8], [4, 8]), ([9], [9]), ([10], [10]), ([0, 11], [0, 11]), ([12, 12, 0, 1, 2, 3, 4, 5, 6, 7, 8, 9, 10, 11, 12], [0, 12])])
def Rf_Whitened.B5 : List Nat := [0, 0, 0, 6, 14, 0, 0, 96, 224, 510, 1022, 2046, 4095, 8191]
theorem Rf_Whitened.tab5 : rtab .any (opsOf Tryd.f81 5) = Rf_Whitened.T5 := by kernel_rfl
theorem Rf_Whitened.bits5 : waitsOk Rf_Whitened.T5.2 Rf_Whitened.B5 = true := by kernel_rfl
theorem Rf_Whitened.calls (k : Nat) (A0 : Option Addr) (c0 : Nat) (l0 : List Int) (A1 : Option Addr) (c1 : Nat) (l1 : List Int) (r : List Int) (w : World) (hr0 : Kd.C (Kd.int .i64) w A0 l0.length l0) (hc0 : l0.length ≤ c0) (hr1 : Kd.C (Kd.int .i64) w A1 l1.length l1) (hc1 : l1.length ≤ c1) (h : Rf_Whitened.f k l0 l1 = some r) :
  Calls Tryd.prog 81 #[.slice A0 l0.length c0, .slice A1 l1.length c1] w fun e w' => ∃ v0_ : Value, e = .returned (v0_) ∧ Kd.R (Kd.int .i64) 3 w' w.heap.size (fun _ => True) v0_ r ∧ Below w.heap.size w w' := by
 have HR0 := m0 hr0
 have HC0 := m0 hc0
 clear hr0 hc0
 have HR1 := m0 hr1
 have HC1 := m0 hc1
 clear hr1 hc1
 have HB := m0 (Below.refl w.heap.size w)
 have H : (Rf_Whitened.l0 k l0 l1 ([] : List Int) 0) = some r := h
 clear h
 have H' := m0 H
 clear H
 go_enter Tryd.func81, Tryd.ntmps81
 go_wp2
 go_loopg [5, 6] k (fun kq v5 v6 w' => ∃ (x5_1 : List Int) (x6_1 : Int), v6 = .int .i64 x6_1 ∧ Aside0 (Rf_Whitened.l0 kq l0 l1 x5_1 x6_1 = some r) ∧ Aside0 (kq ≤ k) ∧ Aside0 (Kd.R (Kd.int .i64) 3 w' w.heap.size (fun _ => True) v5 x5_1) ∧ Aside0 (Below w.heap.size w w'))
 case atStart => exact ⟨(([] : List Int)), (0), (by first | rfl | (simp; done) | (simp [*]; done)), H', ⟨Nat.le_refl _⟩, ⟨by first | exact Kd.R_nil _ _ _ _ _ | exact Kd.N_nil _ _ _ _ _ | exact Kd.V_nil _ _ _ _ _ | exact Kd.Q_nil _ _ _ _ _ | exact Kd.S_nil _ _ _ _ _⟩, ⟨bz⟩⟩
 case round =>
  clear H'
  try clear c1
  try clear p2
  obtain ⟨x5_1, x6_1, rfl, HA, HK1, HO_5, HB⟩ := hrel
  cases gk with
  | zero => exact absurd HA.out (by simp [Rf_Whitened.l0])
  | succ k1 =>
   have H := HA.out
   clear HA
   simp only [Rf_Whitened.l0] at H
   by_cases c3 : x6_1 < (l0.length : Int)
   ·rw [if_pos c3] at H
    have c3b0 := decide_eq_true c3
    clear c3
    by_cases c4 : 0 ≤ x6_1
    ·rw [if_pos c4] at H
     have c4b0 := decide_eq_true c4
     clear c4
     by_cases c5 : x6_1 < (l1.length : Int)
     ·rw [if_pos c5] at H
      have c5b0 := decide_eq_true c5
      clear c5
      obtain ⟨ji6, hji6⟩ : ∃ j_ : Int, (mx 0 (wrap64 ((rd l0 x6_1) - (rd l1 x6_1)))) = j_ := ⟨_, rfl⟩
      replace H : (if x5_1.length < 17592186044416 then (Rf_Whitened.l0 k1 l0 l1 (x5_1 ++ [ji6]) (wrap64 (x6_1 + 1))) else (none)) = some r := by first | (rw [hji6] at H; exact H) | (simp only [hji6] at H ⊢; exact H)
      have hji6_ : (if 0 < (wrap64 ((rd l0 x6_1) - (rd l1 x6_1))) then (wrap64 ((rd l0 x6_1) - (rd l1 x6_1))) else 0) = ji6 := hji6
      by_cases c7 : x5_1.length < 17592186044416
      ·rw [if_pos c7] at H
       have LMc7 := m0 c7
       clear c7
       obtain ⟨y1514, hy1514⟩ : ∃ y_ : List Int, y_ = (x5_1 ++ [ji6]) := ⟨_, rfl⟩
       replace H : (Rf_Whitened.l0 k1 l0 l1 y1514 (wrap64 (x6_1 + 1))) = some r := by first | (rw [hy1514]; with_reducible exact H) | (have H2_ := (Option.bind_some _ _).symm.trans H; rw [hy1514]; with_reducible exact H2_) | (have H2_ := (Option.bind_some _ _).symm.trans H; with_reducible exact H2_) | with_reducible exact H | (rw [hy1514]; exact H) | exact H
       have Ny1514 := m0 hy1514
       clear hy1514
       have H' := m0 H
       clear H
       try go_wp2
       replace HO_5 := m0 (Kd.R_drew HO_5.out); replace HB := sd HB
       have p1512 : 0 ≤ (x6_1 : Int) := of_decide_eq_true (by first | (with_reducible assumption) | assumption)
       have q1512 : x6_1 < (l0.length : Int) := of_decide_eq_true (by first | (with_reducible assumption) | assumption)
       obtain ⟨ad1512, e1512, hx1512_0⟩ := Kd.at_int HR0.out x6_1 p1512 q1512
       have hw1512_0 := hx1512_0
       cases e1512
       replace hx1512_0 := (HB.out.cell (World.block_lt_of_cell? w _ hx1512_0)).trans hx1512_0
       replace p1512 := eq_true p1512
       replace q1512 := eq_true q1512
       have p1513 : 0 ≤ (x6_1 : Int) := of_decide_eq_true (by first | (with_reducible assumption) | assumption)
       have q1513 : x6_1 < (l1.length : Int) := of_decide_eq_true (by first | (with_reducible assumption) | assumption)
       obtain ⟨ad1513, e1513, hx1513_0⟩ := Kd.at_int HR1.out x6_1 p1513 q1513
       have hw1513_0 := hx1513_0
       cases e1513
       replace hx1513_0 := (HB.out.cell (World.block_lt_of_cell? w _ hx1513_0)).trans hx1513_0
       replace p1513 := eq_true p1513
       replace q1513 := eq_true q1513
       refine start_ (n := 14) (S := fun w' => w'.cell? (ad1512.add (x6_1).toNat) = some (.int .i64 (rd l0 x6_1)) ∧ w'.cell? (ad1513.add (x6_1).toNat) = some (.int .i64 (rd l1 x6_1))) (ds := []) #[false, false, false, false, false, false, false, false, false, false, false, false, false, false] (by kernel_rfl) rfl rfl ⟨((HB.out.cell (World.block_lt_of_cell? w _ hw1512_0)).trans hw1512_0), ((HB.out.cell (World.block_lt_of_cell? w _ hw1513_0)).trans hw1513_0)⟩ (fun hHeld => ?_); refine with_tabW Rf_Whitened.tab5 Rf_Whitened.bits5 (fun HT_ HW_ => ?_)
       generalize wr.drew = w8 at HO_5 HB hx1512_0 hx1513_0 hHeld ⊢
       refine pureZ (i := 0) (N := some 13) (bs 14 1) HT_ ?_
       refine pureZ (i := 1) (N := some 14) (bs 14 3) HT_ ?_
       refine pureZ (i := 2) (N := some 15) (bs 14 7) HT_ ?_
       refine pureZ (i := 3) (N := some 16) (bs 14 15) HT_ ?_
       refine pureZ (i := 5) (N := some 18) (bs 14 47) HT_ ?_
       refine pureZ (i := 6) (N := some 19) (bs 14 111) HT_ ?_
       refine pureZ (i := 7) (N := some 20) (bs 14 239) HT_ ?_
       refine takeZ 4 (some 17) (bs 14 255) (take_ofW HT_.out HW_.out (by kernel_rfl)) hHeld ?_
       refine takeZ 8 (some 21) (bs 14 511) (take_ofW HT_.out HW_.out (by kernel_rfl)) hHeld ?_
       refine pureZ (i := 9) (N := some 22) (bs 14 1023) HT_ ?_
       refine pureZ (i := 10) (N := some 23) (bs 14 2047) HT_ ?_
       refine oneZ 11 (some 24) (bs 14 4095) (one_of HT_.out (by kernel_rfl)) fun K hK => ?_
       refine value_ (w1 := ?_) (v := ?_) (by rfl) rfl ?_ ?_
       rotate_left 2
       ·go_simp
        constructor
        ·rfl
        ·rfl
       refine hK.out _ _ ⟨(World.cell?_alloc_lt _ _ _ (World.block_lt_of_cell? _ _ (((HB.out.cell (World.block_lt_of_cell? w _ hw1512_0)).trans hw1512_0)))).trans (((HB.out.cell (World.block_lt_of_cell? w _ hw1512_0)).trans hw1512_0)), (World.cell?_alloc_lt _ _ _ (World.block_lt_of_cell? _ _ (((HB.out.cell (World.block_lt_of_cell? w _ hw1513_0)).trans hw1513_0)))).trans (((HB.out.cell (World.block_lt_of_cell? w _ hw1513_0)).trans hw1513_0))⟩ (fun hHeld => ?_)
       clear hK K
       refine norm_ (a' := ?_) ?_ ?_
       rotate_left
       ·show Act.put _ (some 24) _ = _
        exact pz
       refine oneZ 12 (some 25) (bs 14 8191) (one_of HT_.out (by kernel_rfl)) fun K hK => ?_
       refine Kd.R_append_step (Kd.int .i64) (w0 := w) w.heap.size (by rfl) (.tmp 13) (.tmp 24) 22 3 (.int .i64 0) 8 rfl Tryd.underlying22 info3 rfl (by decide) (by omega) u5 x5_1 ji6 [.int .i64 ji6] (fun _ => True) (fun _ => False) rfl rfl ?aP (fun _ hk => hk.elim) ?aF ?aO ?aB ?aS ?aL ?_
       (case aP => exact rfl)
       (case aB => exact bz)
       (case aF => exact (fun _ _ => trivial))
       (case aO => exact (br HO_5.out))
       (case aS => exact (below_size bz))
       (case aL => have := LMc7.out; omega)
       intro v1515 w9 ho hb hg hat
       rw [← Ny1514.out] at ho
       have n0_ := m0 (hb); have n1_ := m0 (ho); clear HB; clear HO_5; have HB := n0_; have HO1516 := n1_; clear n0_ n1_
       clear ho hb hg hat
       refine hK.out _ _ ⟨((HB.out.cell (World.block_lt_of_cell? w _ hw1512_0)).trans hw1512_0), ((HB.out.cell (World.block_lt_of_cell? w _ hw1513_0)).trans hw1513_0)⟩ (fun hHeld => ?_)
       clear hK K
       refine norm_ (a' := ?_) ?_ ?_
       rotate_left
       ·show Act.put _ (some 25) _ = _
        exact pz
       refine pureZ (i := 13) (N := some 5) (bs 14 16383) HT_ ?_
       refine done_ (done_of HT_.out (by kernel_rfl)) ?_
       try go_wp2
       go_roundg k1
       case measure => have := HK1.out; omega
       case rel => exact ⟨(y1514), (wrap64 (x6_1 + 1)), (by first | rfl | (simp; done) | (simp [*]; done)), H', ⟨by have := HK1.out; omega⟩, ⟨br HO1516.out⟩, ⟨bz⟩⟩
      ·rw [if_neg c7] at H
       exact absurd H (by simp)
     ·rw [if_neg c5] at H
      exact absurd H (by simp)
    ·rw [if_neg c4] at H
     exact absurd H (by simp)
   ·rw [if_neg c3] at H
    have c3b0 := decide_eq_false c3
    clear c3
    obtain rfl := Option.some.inj H
    go_wp2
    go_ret
    exact ⟨_, by first | rfl | (simp [errW_none, errW_some] <;> rfl) | (simp [*, errW_none, errW_some] <;> rfl), by (with_reducible repeat (first | apply Kd.R_alloc | apply Kd.R_drewN | apply Kd.R_drew)); exact HO_5.out, by repeat (first | (with_reducible first | exact HB.out | apply below_alloc | apply pw_below_drewN | apply below_drew1) | exact HB.out)⟩
end
section
mutual
def Lw_LineSpectra.j0 : Nat → List Int → List Int → Bool → Option (Bool)
  | 0, _, _, _ => none
  | k + 1, x0, x1, x24 => if x24 = true then (some true) else ((Bs_CopyInts.f x0).bind fun t1520 => ((line_CheckSpectrum.f t1520).bind fun bt1523 => ((Bs_CopyInts.f x0).bind fun t1525 => ((line_PeakOf.f k t1525).bind fun bt1528 => ((Bs_CopyInts.f x0).bind fun t1530 => ((line_PeaksOf.f k t1530).bind fun bt1533 => ((Bs_CopyInts.f x0).bind fun t1537 => ((Bs_CopyInts.f x1).bind fun t1540 => ((line_Whitened.f k t1537 t1540).bind fun bt1543 => ((Rf_CheckSpectrum.f k x0).bind fun bt1547 => (if bt1523.2 = bt1547.2 then (Lw_LineSpectra.j1 k x0 x1 bt1528.1 bt1528.2 bt1533.1 bt1533.2 bt1543.1 bt1543.2 bt1547.2 (bt1523.1 != bt1547.1)) else (Lw_LineSpectra.j1 k x0 x1 bt1528.1 bt1528.2 bt1533.1 bt1533.2 bt1543.1 bt1543.2 bt1547.2 true))))))))))))
def Lw_LineSpectra.j1 : Nat → List Int → List Int → Int → Int → List Int → Int → List Int → Int → Int → Bool → Option (Bool)
  | 0, _, _, _, _, _, _, _, _, _, _ => none
  | k + 1, x0, x1, x7, x8, x9, x10, x11, x12, x14, x63 => if x63 = true then (some false) else (if x14 = 0 then (if x8 = 0 then ((Rf_Peak.f k x0).bind fun t1549 => (if x7 = t1549 then (if x10 = 0 then ((Rf_Peaks.f k x0).bind fun t1550 => ((Bs_Ints.f k x9 t1550).bind fun t1553 => (Lw_LineSpectra.j2 k x0 x1 x11 x12 (!t1553)))) else (Lw_LineSpectra.j2 k x0 x1 x11 x12 true)) else (Lw_LineSpectra.j2 k x0 x1 x11 x12 true))) else (Lw_LineSpectra.j2 k x0 x1 x11 x12 true)) else (if x8 = x14 then (if x10 = x14 then (if x7 = 0 then (if (x9.length : Int) = 0 then (Lw_LineSpectra.j2 k x0 x1 x11 x12 false) else (Lw_LineSpectra.j2 k x0 x1 x11 x12 true)) else (Lw_LineSpectra.j2 k x0 x1 x11 x12 true)) else (Lw_LineSpectra.j2 k x0 x1 x11 x12 true)) else (Lw_LineSpectra.j2 k x0 x1 x11 x12 true)))
def Lw_LineSpectra.j2 : Nat → List Int → List Int → List Int → Int → Bool → Option (Bool)
  | 0, _, _, _, _, _ => none
  | k + 1, x0, x1, x11, x12, x109 => if x109 = true then (some false) else ((Rf_BothErr.f k x0 x1).bind fun t1554 => (if t1554 = 0 then (if x12 = 0 then ((Rf_Whitened.f k x0 x1).bind fun t1555 => ((Bs_Ints.f k x11 t1555).bind fun t1558 => (some t1558))) else (some false)) else (if x12 = t1554 then (some ((x11.length : Int) == 0)) else (some false))))
end
def Lw_LineSpectra.f (k : Nat) (l0 : List Int) (l1 : List Int) : Option (Bool) := (Lw_awake.f k).bind fun t1517 => (if t1517 = true then ((Lw_short.f l0).bind fun t1518 => (if t1518 = true then ((Lw_short.f l1).bind fun t1519 => (Lw_LineSpectra.j0 k l0 l1 (!t1519))) else (Lw_LineSpectra.j0 k l0 l1 true))) else (some false))
theorem Lw_LineSpectra.mono_l : ∀ k, (∀ y0 y1 y2, LeO (Lw_LineSpectra.j0 k y0 y1 y2) (Lw_LineSpectra.j0 (k + 1) y0 y1 y2)) ∧ (∀ y0 y1 y2 y3 y4 y5 y6 y7 y8 y9, LeO (Lw_LineSpectra.j1 k y0 y1 y2 y3 y4 y5 y6 y7 y8 y9) (Lw_LineSpectra.j1 (k + 1) y0 y1 y2 y3 y4 y5 y6 y7 y8 y9)) ∧ (∀ y0 y1 y2 y3 y4, LeO (Lw_LineSpectra.j2 k y0 y1 y2 y3 y4) (Lw_LineSpectra.j2 (k + 1) y0 y1 y2 y3 y4))
  | 0 => ⟨fun _ _ _ r h => by simp [Lw_LineSpectra.j0] at h, fun _ _ _ _ _ _ _ _ _ _ r h => by simp [Lw_LineSpectra.j1] at h, fun _ _ _ _ _ r h => by simp [Lw_LineSpectra.j2] at h⟩
  | k + 1 => by
    obtain ⟨ih0, ih1, ih2⟩ := Lw_LineSpectra.mono_l k
    refine ⟨?_, ?_, ?_⟩
    · intro y0 y1 y2
      unfold Lw_LineSpectra.j0
      repeat' first
      | (with_reducible exact ih0 _ _ _)
      | (with_reducible exact ih1 _ _ _ _ _ _ _ _ _ _)
      | (with_reducible exact ih2 _ _ _ _ _)
      | (with_reducible exact Bs_Ints.mono _ _ _)
      | (with_reducible exact Lw_awake.mono _)
      | (with_reducible exact Rf_BothErr.mono _ _ _)
      | (with_reducible exact Rf_CheckSpectrum.mono _ _)
      | (with_reducible exact Rf_Peak.mono _ _)
      | (with_reducible exact Rf_Peaks.mono _ _)
      | (with_reducible exact Rf_Whitened.mono _ _ _)
      | (with_reducible exact line_PeakOf.mono _ _)
      | (with_reducible exact line_PeaksOf.mono _ _)
      | (with_reducible exact line_Whitened.mono _ _ _)
      | (with_reducible exact LeO.refl _)
      | (with_reducible exact LeO.none _)
      | (with_reducible refine LeO.ite ?_ ?_)
      | (with_reducible refine LeO.bind ?_ (fun _ => ?_))
      | exact ih0 _ _ _
      | exact ih1 _ _ _ _ _ _ _ _ _ _
      | exact ih2 _ _ _ _ _
      | exact Bs_Ints.mono _ _ _
      | exact Lw_awake.mono _
      | exact Rf_BothErr.mono _ _ _
      | exact Rf_CheckSpectrum.mono _ _
      | exact Rf_Peak.mono _ _
      | exact Rf_Peaks.mono _ _
      | exact Rf_Whitened.mono _ _ _
      | exact line_PeakOf.mono _ _
      | exact line_PeaksOf.mono _ _
      | exact line_Whitened.mono _ _ _
      | exact LeO.none _
      | refine LeO.ite ?_ ?_
      | refine LeO.bind ?_ (fun _ => ?_)
    · intro y0 y1 y2 y3 y4 y5 y6 y7 y8 y9
      unfold Lw_LineSpectra.j1
      repeat' first
      | (with_reducible exact ih0 _ _ _)
      | (with_reducible exact ih1 _ _ _ _ _ _ _ _ _ _)
      | (with_reducible exact ih2 _ _ _ _ _)
      | (with_reducible exact Bs_Ints.mono _ _ _)
      | (with_reducible exact Lw_awake.mono _)
      | (with_reducible exact Rf_BothErr.mono _ _ _)
      | (with_reducible exact Rf_CheckSpectrum.mono _ _)
      | (with_reducible exact Rf_Peak.mono _ _)
      | (with_reducible exact Rf_Peaks.mono _ _)
      | (with_reducible exact Rf_Whitened.mono _ _ _)
      | (with_reducible exact line_PeakOf.mono _ _)
      | (with_reducible exact line_PeaksOf.mono _ _)
      | (with_reducible exact line_Whitened.mono _ _ _)
      | (with_reducible exact LeO.refl _)
      | (with_reducible exact LeO.none _)
      | (with_reducible refine LeO.ite ?_ ?_)
      | (with_reducible refine LeO.bind ?_ (fun _ => ?_))
      | exact ih0 _ _ _
      | exact ih1 _ _ _ _ _ _ _ _ _ _
      | exact ih2 _ _ _ _ _
      | exact Bs_Ints.mono _ _ _
      | exact Lw_awake.mono _
      | exact Rf_BothErr.mono _ _ _
      | exact Rf_CheckSpectrum.mono _ _
      | exact Rf_Peak.mono _ _
      | exact Rf_Peaks.mono _ _
      | exact Rf_Whitened.mono _ _ _
      | exact line_PeakOf.mono _ _
      | exact line_PeaksOf.mono _ _
      | exact line_Whitened.mono _ _ _
      | exact LeO.none _
      | refine LeO.ite ?_ ?_
      | refine LeO.bind ?_ (fun _ => ?_)
    · intro y0 y1 y2 y3 y4
      unfold Lw_LineSpectra.j2
      repeat' first
      | (with_reducible exact ih0 _ _ _)
      | (with_reducible exact ih1 _ _ _ _ _ _ _ _ _ _)
      | (with_reducible exact ih2 _ _ _ _ _)
      | (with_reducible exact Bs_Ints.mono _ _ _)
      | (with_reducible exact Lw_awake.mono _)
      | (with_reducible exact Rf_BothErr.mono _ _ _)
      | (with_reducible exact Rf_CheckSpectrum.mono _ _)
      | (with_reducible exact Rf_Peak.mono _ _)
      | (with_reducible exact Rf_Peaks.mono _ _)
      | (with_reducible exact Rf_Whitened.mono _ _ _)
      | (with_reducible exact line_PeakOf.mono _ _)
      | (with_reducible exact line_PeaksOf.mono _ _)
      | (with_reducible exact line_Whitened.mono _ _ _)
      | (with_reducible exact LeO.refl _)
      | (with_reducible exact LeO.none _)
      | (with_reducible refine LeO.ite ?_ ?_)
      | (with_reducible refine LeO.bind ?_ (fun _ => ?_))
      | exact ih0 _ _ _
      | exact ih1 _ _ _ _ _ _ _ _ _ _
      | exact ih2 _ _ _ _ _
      | exact Bs_Ints.mono _ _ _
      | exact Lw_awake.mono _
      | exact Rf_BothErr.mono _ _ _
      | exact Rf_CheckSpectrum.mono _ _
      | exact Rf_Peak.mono _ _
      | exact Rf_Peaks.mono _ _
      | exact Rf_Whitened.mono _ _ _
      | exact line_PeakOf.mono _ _
      | exact line_PeaksOf.mono _ _
      | exact line_Whitened.mono _ _ _
      | exact LeO.none _
      | refine LeO.ite ?_ ?_
      | refine LeO.bind ?_ (fun _ => ?_)
theorem Lw_LineSpectra.mono : ∀ a0 a1 k, LeO (Lw_LineSpectra.f k a0 a1) (Lw_LineSpectra.f (k + 1) a0 a1) := by
  intro a0 a1 k
  obtain ⟨ih0, ih1, ih2⟩ := Lw_LineSpectra.mono_l k
  unfold Lw_LineSpectra.f
  repeat' first
      | (with_reducible exact ih0 _ _ _)
      | (with_reducible exact ih1 _ _ _ _ _ _ _ _ _ _)
      | (with_reducible exact ih2 _ _ _ _ _)
      | (with_reducible exact Bs_Ints.mono _ _ _)
      | (with_reducible exact Lw_awake.mono _)
      | (with_reducible exact Rf_BothErr.mono _ _ _)
      | (with_reducible exact Rf_CheckSpectrum.mono _ _)
      | (with_reducible exact Rf_Peak.mono _ _)
      | (with_reducible exact Rf_Peaks.mono _ _)
      | (with_reducible exact Rf_Whitened.mono _ _ _)
      | (with_reducible exact line_PeakOf.mono _ _)
      | (with_reducible exact line_PeaksOf.mono _ _)
      | (with_reducible exact line_Whitened.mono _ _ _)
      | (with_reducible exact LeO.refl _)
      | (with_reducible exact LeO.none _)
      | (with_reducible refine LeO.ite ?_ ?_)
      | (with_reducible refine LeO.bind ?_ (fun _ => ?_))
      | exact ih0 _ _ _
      | exact ih1 _ _ _ _ _ _ _ _ _ _
      | exact ih2 _ _ _ _ _
      | exact Bs_Ints.mono _ _ _
      | exact Lw_awake.mono _
      | exact Rf_BothErr.mono _ _ _
      | exact Rf_CheckSpectrum.mono _ _
      | exact Rf_Peak.mono _ _
      | exact Rf_Peaks.mono _ _
      | exact Rf_Whitened.mono _ _ _
      | exact line_PeakOf.mono _ _
      | exact line_PeaksOf.mono _ _
      | exact line_Whitened.mono _ _ _
      | exact LeO.none _
      | refine LeO.ite ?_ ?_
      | refine LeO.bind ?_ (fun _ => ?_)
theorem Lw_LineSpectra.calls (k : Nat) (A0 : Option Addr) (c0 : Nat) (l0 : List Int) (A1 : Option Addr) (c1 : Nat) (l1 : List Int) (r : Bool) (w : World) (hr0 : Kd.C (Kd.int .i64) w A0 l0.length l0) (hc0 : l0.length ≤ c0) (hr1 : Kd.C (Kd.int .i64) w A1 l1.length l1) (hc1 : l1.length ≤ c1) (hG : EstG w) (h : Lw_LineSpectra.f k l0 l1 = some r) :
    Calls Tryd.prog 15 #[.slice A0 l0.length c0, .slice A1 l1.length c1] w fun e w' => e = .returned (.bool r) ∧ Below w.heap.size w w' := by
  have HG := m0 hG
  clear hG
  have HR0 := m0 hr0
  have HC0 := m0 hc0
  clear hr0 hc0
  have HR1 := m0 hr1
  have HC1 := m0 hc1
  clear hr1 hc1
  have HB := m0 (Below.refl w.heap.size w)
  have H : ((Lw_awake.f k).bind fun t1517 => (if t1517 = true then ((Lw_short.f l0).bind fun t1518 => (if t1518 = true then ((Lw_short.f l1).bind fun t1519 => (Lw_LineSpectra.j0 k l0 l1 (!t1519))) else (Lw_LineSpectra.j0 k l0 l1 true))) else (some false))) = some r := h
  clear h
  replace H := ob H
  obtain ⟨t1517, A30, H⟩ := H
  (try dsimp only at H)
  have A3 := m0 A30
  clear A30
  by_cases c4 : t1517 = true
  · subst c4
    rw [if_pos rfl] at H
    have HC5 := m0 H
    clear H
    go_enter Tryd.func15, Tryd.ntmps15
    go_upto_region 3 with (first | ((with_reducible refine gate_callee (f := 18) rfl ?_); refine gl (some 15) Tryd.func18 #[] ?_; (with_reducible refine (Lw_awake.calls k  true _ ?side1 A3.out).mono ?_); (case side1 => exact EstG.below HG.out bz); rintro e w6 ⟨rfl, hb⟩; refine ⟨_, rfl, ?_⟩; replace HB := sb HB hb; (try clear hb)))
    (try simp only [Act.put, List.setIfInBounds_toArray, List.set_cons_zero, List.set_cons_succ])
    go_cut [24] (fun v24 wc => ∃ (kq : Nat) (x24_4 : Bool), v24 = .bool x24_4 ∧ Aside0 (Lw_LineSpectra.j0 kq l0 l1 x24_4 = some r) ∧ Aside0 (kq ≤ k) ∧ Aside0 (Below w.heap.size w wc))
    case first =>
      have H := HC5.out
      clear HC5
      replace H := ob H
      obtain ⟨t1518, A70, H⟩ := H
      (try dsimp only at H)
      have A7 := m0 A70
      clear A70
      by_cases c8 : t1518 = true
      · subst c8
        rw [if_pos rfl] at H
        replace H := ob H
        obtain ⟨t1519, A90, H⟩ := H
        (try dsimp only at H)
        have A9 := m0 A90
        clear A90
        have H' := m0 H
        clear H
        go_wp2_with (first | ((with_reducible refine gate_callee (f := 50) rfl ?_); refine gl (some 18) Tryd.func50 #[.slice A0 l0.length c0] ?_; (with_reducible refine (Lw_short.calls _ _ l0 true _ ?side1 ?side2 A7.out).mono ?_); (case side1 => exact cb HR0 HB); (case side2 => exact HC0.out); rintro e w' ⟨rfl, ⟨nd, rfl⟩⟩; refine ⟨_, rfl, ?_⟩) | (go_at_call 50; (with_reducible refine (Lw_short.calls _ _ l1 t1519 _ ?side1 ?side2 A9.out).mono ?_); (case side1 => repeat (first | exact (Kd.C_below HR1.out bz) | (with_reducible refine Kd.C_alloc ?_ _) | (with_reducible refine Kd.C_drewN ?_ _) | (with_reducible refine Kd.C_drew ?_))); (case side2 => exact HC1.out); rintro e w' ⟨rfl, ⟨nd, rfl⟩⟩))
        go_meet
        case rel => exact ⟨_, (!t1519), (by first | rfl | (simp; done) | (simp [*]; done)), H', ⟨by first | omega | exact Nat.le_refl _⟩, ⟨bz⟩⟩
      · replace c8 := Bool.eq_false_iff.mpr c8
        subst c8
        rw [if_neg (show ¬ (false = true) by decide)] at H
        have H' := m0 H
        clear H
        go_wp2_with (first | ((with_reducible refine gate_callee (f := 50) rfl ?_); refine gl (some 18) Tryd.func50 #[.slice A0 l0.length c0] ?_; (with_reducible refine (Lw_short.calls _ _ l0 false _ ?side1 ?side2 A7.out).mono ?_); (case side1 => exact cb HR0 HB); (case side2 => exact HC0.out); rintro e w' ⟨rfl, ⟨nd, rfl⟩⟩; refine ⟨_, rfl, ?_⟩))
        go_meet
        case rel => exact ⟨_, (true), (by first | rfl | (simp; done) | (simp [*]; done)), H', ⟨by first | omega | exact Nat.le_refl _⟩, ⟨bz⟩⟩
    case rest =>
      clear HC5
      try clear c1
      try clear p2
      try clear c4
      try clear c5
      try clear c8
      obtain ⟨kq, x24_4, rfl, HA, HJ4, HB⟩ := hcut
      cases kq with
      | zero => exact absurd HA.out (by simp [Lw_LineSpectra.j0])
      | succ kj4 =>
        have H := HA.out
        clear HA
        simp only [Lw_LineSpectra.j0] at H
        by_cases c10 : x24_4 = true
        · subst c10
          rw [if_pos rfl] at H
          obtain rfl := Option.some.inj H
          go_wp2
          go_ret
          exact ez
        · replace c10 := Bool.eq_false_iff.mpr c10
          subst c10
          rw [if_neg (show ¬ (false = true) by decide)] at H
          replace H := ob H
          obtain ⟨t1520, A110, H⟩ := H
          (try dsimp only at H)
          have A11 := m0 A110
          clear A110
          replace H := ob H
          obtain ⟨⟨t1523, t1524⟩, A120, H⟩ := H
          (try dsimp only at H)
          have A12 := m0 A120
          clear A120
          replace H := ob H
          obtain ⟨t1525, A130, H⟩ := H
          (try dsimp only at H)
          have A13 := m0 A130
          clear A130
          replace H := ob H
          obtain ⟨⟨t1528, t1529⟩, A140, H⟩ := H
          (try dsimp only at H)
          have A14 := m0 A140
          clear A140
          replace H := ob H
          obtain ⟨t1530, A150, H⟩ := H
          (try dsimp only at H)
          have A15 := m0 A150
          clear A150
          replace H := ob H
          obtain ⟨⟨t1533, t1534⟩, A160, H⟩ := H
          (try dsimp only at H)
          have A16 := m0 A160
          clear A160
          replace H := ob H
          obtain ⟨t1537, A170, H⟩ := H
          (try dsimp only at H)
          have A17 := m0 A170
          clear A170
          replace H := ob H
          obtain ⟨t1540, A180, H⟩ := H
          (try dsimp only at H)
          have A18 := m0 A180
          clear A180
          replace H := ob H
          obtain ⟨⟨t1543, t1544⟩, A190, H⟩ := H
          (try dsimp only at H)
          have A19 := m0 A190
          clear A190
          replace H := ob H
          obtain ⟨⟨t1547, t1548⟩, A200, H⟩ := H
          (try dsimp only at H)
          have A20 := m0 A200
          clear A200
          have HC21 := m0 H
          clear H
          go_upto_region 10 with (first | ((with_reducible refine gate_callee (f := 33) rfl ?_); refine gl (some 27) Tryd.func33 #[.slice A0 l0.length c0] ?_; (with_reducible refine (Bs_CopyInts.calls _ _ l0 t1520 _ ?side1 ?side2 A11.out).mono ?_); (case side1 => exact cb HR0 HB); (case side2 => exact HC0.out); rintro e w22 ⟨v1521, rfl, ho0, hb⟩; refine ⟨_, rfl, ?_⟩; have HO1522 := m0 (Kd.R_lower ho0 (below_size bz)); replace HB := sb HB hb; (try clear hb); (try clear ho0); obtain ⟨Ao23, co23, eo23⟩ := Kd.R_slice HO1522.out; subst eo23) | ((with_reducible refine gate_callee (f := 75) rfl ?_); refine gl (some 28) Tryd.func75 #[.slice Ao23 t1520.length co23] ?_; (with_reducible refine (line_CheckSpectrum.calls _ _ t1520 t1523 t1524 _ ?side1 ?side2 A12.out).mono ?_); (case side1 => exact bc (Kd.R_reads' HO1522.out).2.2); (case side2 => exact (Kd.R_reads' HO1522.out).2.1); rintro e w24 ⟨rfl, hb⟩; refine ⟨_, rfl, ?_⟩; replace HO1522 := rb HO1522 hb; replace HB := sb HB hb; (try clear hb)) | ((with_reducible refine gate_callee (f := 33) rfl ?_); refine gl (some 33) Tryd.func33 #[.slice A0 l0.length c0] ?_; (with_reducible refine (Bs_CopyInts.calls _ _ l0 t1525 _ ?side1 ?side2 A13.out).mono ?_); (case side1 => exact cb HR0 HB); (case side2 => exact HC0.out); rintro e w25 ⟨v1526, rfl, ho0, hb⟩; refine ⟨_, rfl, ?_⟩; have HO1527 := m0 (Kd.R_lower (Kd.R_new' ho0 (Kd.R_lt (br HO1522.out))) (below_size bz)); replace HO1522 := m0 (Kd.R_elder' (br HO1522.out) (Kd.R_base ho0) hb); replace HB := sb HB hb; (try clear hb); (try clear ho0); obtain ⟨Ao26, co26, eo26⟩ := Kd.R_slice HO1527.out; subst eo26) | ((with_reducible refine gate_callee (f := 32) rfl ?_); refine gl (some 34) Tryd.func32 #[.slice Ao26 t1525.length co26] ?_; (with_reducible refine (line_PeakOf.calls kj4 _ _ t1525 t1528 t1529 _ ?side1 ?side2 A14.out).mono ?_); (case side1 => exact bc (Kd.R_reads' HO1527.out).2.2); (case side2 => exact (Kd.R_reads' HO1527.out).2.1); rintro e w27 ⟨rfl, hb⟩; refine ⟨_, rfl, ?_⟩; replace HO1522 := rb HO1522 hb; replace HO1527 := rb HO1527 hb; replace HB := sb HB hb; (try clear hb)) | ((with_reducible refine gate_callee (f := 33) rfl ?_); refine gl (some 39) Tryd.func33 #[.slice A0 l0.length c0] ?_; (with_reducible refine (Bs_CopyInts.calls _ _ l0 t1530 _ ?side1 ?side2 A15.out).mono ?_); (case side1 => exact cb HR0 HB); (case side2 => exact HC0.out); rintro e w28 ⟨v1531, rfl, ho0, hb⟩; refine ⟨_, rfl, ?_⟩; have HO1532 := m0 (Kd.R_lower (Kd.R_new' (Kd.R_new' ho0 (Kd.R_lt (br HO1522.out))) (Kd.R_lt (br HO1527.out))) (below_size bz)); replace HO1522 := m0 (Kd.R_elder' (br HO1522.out) (Kd.R_base ho0) hb); replace HO1527 := m0 (Kd.R_elder' (br HO1527.out) (Kd.R_base ho0) hb); replace HB := sb HB hb; (try clear hb); (try clear ho0); obtain ⟨Ao29, co29, eo29⟩ := Kd.R_slice HO1532.out; subst eo29) | ((with_reducible refine gate_callee (f := 76) rfl ?_); refine gl (some 40) Tryd.func76 #[.slice Ao29 t1530.length co29] ?_; (with_reducible refine (line_PeaksOf.calls kj4 _ _ t1530 t1533 t1534 _ ?side1 ?side2 A16.out).mono ?_); (case side1 => exact bc (Kd.R_reads' HO1532.out).2.2); (case side2 => exact (Kd.R_reads' HO1532.out).2.1); rintro e w30 ⟨v1535, rfl, ho0, hb⟩; refine ⟨_, rfl, ?_⟩; have HO1536 := m0 (Kd.R_lower (Kd.R_new' (Kd.R_new' (Kd.R_new' ho0 (Kd.R_lt (br HO1522.out))) (Kd.R_lt (br HO1527.out))) (Kd.R_lt (br HO1532.out))) (below_size bz)); replace HO1522 := m0 (Kd.R_elder' (br HO1522.out) (Kd.R_base ho0) hb); replace HO1527 := m0 (Kd.R_elder' (br HO1527.out) (Kd.R_base ho0) hb); replace HO1532 := m0 (Kd.R_elder' (br HO1532.out) (Kd.R_base ho0) hb); replace HB := sb HB hb; (try clear hb); (try clear ho0)) | ((with_reducible refine gate_callee (f := 33) rfl ?_); refine gl (some 45) Tryd.func33 #[.slice A0 l0.length c0] ?_; (with_reducible refine (Bs_CopyInts.calls _ _ l0 t1537 _ ?side1 ?side2 A17.out).mono ?_); (case side1 => exact cb HR0 HB); (case side2 => exact HC0.out); rintro e w31 ⟨v1538, rfl, ho0, hb⟩; refine ⟨_, rfl, ?_⟩; have HO1539 := m0 (Kd.R_lower (Kd.R_new' (Kd.R_new' (Kd.R_new' (Kd.R_new' ho0 (Kd.R_lt (br HO1522.out))) (Kd.R_lt (br HO1527.out))) (Kd.R_lt (br HO1532.out))) (Kd.R_lt (br HO1536.out))) (below_size bz)); replace HO1522 := m0 (Kd.R_elder' (br HO1522.out) (Kd.R_base ho0) hb); replace HO1527 := m0 (Kd.R_elder' (br HO1527.out) (Kd.R_base ho0) hb); replace HO1532 := m0 (Kd.R_elder' (br HO1532.out) (Kd.R_base ho0) hb); replace HO1536 := m0 (Kd.R_elder' (br HO1536.out) (Kd.R_base ho0) hb); replace HB := sb HB hb; (try clear hb); (try clear ho0)) | ((with_reducible refine gate_callee (f := 33) rfl ?_); refine gl (some 47) Tryd.func33 #[.slice A1 l1.length c1] ?_; (with_reducible refine (Bs_CopyInts.calls _ _ l1 t1540 _ ?side1 ?side2 A18.out).mono ?_); (case side1 => exact cb HR1 HB); (case side2 => exact HC1.out); rintro e w32 ⟨v1541, rfl, ho0, hb⟩; refine ⟨_, rfl, ?_⟩; have HO1542 := m0 (Kd.R_lower (Kd.R_new' (Kd.R_new' (Kd.R_new' (Kd.R_new' (Kd.R_new' ho0 (Kd.R_lt (br HO1522.out))) (Kd.R_lt (br HO1527.out))) (Kd.R_lt (br HO1532.out))) (Kd.R_lt (br HO1536.out))) (Kd.R_lt (br HO1539.out))) (below_size bz)); replace HO1522 := m0 (Kd.R_elder' (br HO1522.out) (Kd.R_base ho0) hb); replace HO1527 := m0 (Kd.R_elder' (br HO1527.out) (Kd.R_base ho0) hb); replace HO1532 := m0 (Kd.R_elder' (br HO1532.out) (Kd.R_base ho0) hb); replace HO1536 := m0 (Kd.R_elder' (br HO1536.out) (Kd.R_base ho0) hb); replace HO1539 := m0 (Kd.R_elder' (br HO1539.out) (Kd.R_base ho0) hb); replace HB := sb HB hb; (try clear hb); (try clear ho0); obtain ⟨Ao33, co33, eo33⟩ := Kd.R_slice HO1539.out; subst eo33; obtain ⟨Ao34, co34, eo34⟩ := Kd.R_slice HO1542.out; subst eo34) | ((with_reducible refine gate_callee (f := 77) rfl ?_); refine gl (some 48) Tryd.func77 #[.slice Ao33 t1537.length co33, .slice Ao34 t1540.length co34] ?_; (with_reducible refine (line_Whitened.calls kj4 _ _ t1537 _ _ t1540 t1543 t1544 _ ?side1 ?side2 ?side3 ?side4 A19.out).mono ?_); (case side1 => exact bc (Kd.R_reads' HO1539.out).2.2); (case side2 => exact (Kd.R_reads' HO1539.out).2.1); (case side3 => exact bc (Kd.R_reads' HO1542.out).2.2); (case side4 => exact (Kd.R_reads' HO1542.out).2.1); rintro e w35 ⟨v1545, rfl, ho0, hb⟩; refine ⟨_, rfl, ?_⟩; have HO1546 := m0 (Kd.R_lower (Kd.R_new' (Kd.R_new' (Kd.R_new' (Kd.R_new' (Kd.R_new' (Kd.R_new' ho0 (Kd.R_lt (br HO1522.out))) (Kd.R_lt (br HO1527.out))) (Kd.R_lt (br HO1532.out))) (Kd.R_lt (br HO1536.out))) (Kd.R_lt (br HO1539.out))) (Kd.R_lt (br HO1542.out))) (below_size bz)); replace HO1522 := m0 (Kd.R_elder' (br HO1522.out) (Kd.R_base ho0) hb); replace HO1527 := m0 (Kd.R_elder' (br HO1527.out) (Kd.R_base ho0) hb); replace HO1532 := m0 (Kd.R_elder' (br HO1532.out) (Kd.R_base ho0) hb); replace HO1536 := m0 (Kd.R_elder' (br HO1536.out) (Kd.R_base ho0) hb); replace HO1539 := m0 (Kd.R_elder' (br HO1539.out) (Kd.R_base ho0) hb); replace HO1542 := m0 (Kd.R_elder' (br HO1542.out) (Kd.R_base ho0) hb); replace HB := sb HB hb; (try clear hb); (try clear ho0)) | ((with_reducible refine gate_callee (f := 78) rfl ?_); refine gl (some 53) Tryd.func78 #[.slice A0 l0.length c0] ?_; (with_reducible refine (Rf_CheckSpectrum.calls kj4 _ _ l0 t1547 t1548 _ ?side1 ?side2 A20.out).mono ?_); (case side1 => exact cb HR0 HB); (case side2 => exact HC0.out); rintro e w' ⟨rfl, ⟨nd, rfl⟩⟩; refine ⟨_, rfl, ?_⟩))
          (try simp only [Act.put, List.setIfInBounds_toArray, List.set_cons_zero, List.set_cons_succ])
          go_cut [63] (fun v63 wc => ∃ (kq : Nat) (x63_20 : Bool), v63 = .bool x63_20 ∧ Aside0 (Lw_LineSpectra.j1 kq l0 l1 t1528 t1529 t1533 t1534 t1543 t1544 t1548 x63_20 = some r) ∧ Aside0 (kq ≤ kj4) ∧ Aside0 (Kd.R (Kd.int .i64) 3 wc w.heap.size (fun k_ => some k_ ≠ (v1545 : Value).ownBlock) v1535 t1533) ∧ Aside0 (Kd.R (Kd.int .i64) 3 wc w.heap.size (fun k_ => some k_ ≠ (v1535 : Value).ownBlock) v1545 t1543) ∧ Aside0 (Below w.heap.size w wc))
          case first =>
            have H := HC21.out
            clear HC21
            by_cases c36 : t1524 = t1548
            · rw [if_pos c36] at H
              have c36b0 := beq_iff_eq.mpr c36
              have c36b1 := bne_eq_false_iff_eq.mpr c36
              clear c36
              (first | rw [c36b0] | (simp only [i64_w, i32_w]; rw [c36b0]) | skip)
              have H' := m0 H
              clear H
              go_wp2
              go_meet
              case rel => exact ⟨_, ((t1523 != t1547)), (by first | rfl | (simp; done) | (simp [*]; done)), H', ⟨by have := HJ4.out; first | omega | exact Nat.le_refl _⟩, ⟨by (with_reducible repeat (first | apply Kd.R_alloc | apply Kd.R_drewN | apply Kd.R_drew)); exact Kd.R_mono HO1536.out (fun _ hk => hk.2)⟩, ⟨by (with_reducible repeat (first | apply Kd.R_alloc | apply Kd.R_drewN | apply Kd.R_drew)); exact Kd.R_mono HO1546.out (fun _ hk => hk.1.1.2)⟩, ⟨bz⟩⟩
            · rw [if_neg c36] at H
              have c36b0 := beq_eq_false_iff_ne.mpr c36
              have c36b1 := bne_iff_ne.mpr c36
              (first | rw [c36b0] | (simp only [i64_w, i32_w]; rw [c36b0]) | skip)
              have H' := m0 H
              clear H
              go_wp2
              go_meet
              case rel => exact ⟨_, (true), (by first | rfl | (simp; done) | (simp [*]; done)), H', ⟨by have := HJ4.out; first | omega | exact Nat.le_refl _⟩, ⟨by (with_reducible repeat (first | apply Kd.R_alloc | apply Kd.R_drewN | apply Kd.R_drew)); exact Kd.R_mono HO1536.out (fun _ hk => hk.2)⟩, ⟨by (with_reducible repeat (first | apply Kd.R_alloc | apply Kd.R_drewN | apply Kd.R_drew)); exact Kd.R_mono HO1546.out (fun _ hk => hk.1.1.2)⟩, ⟨bz⟩⟩
          case rest =>
            clear HC21
            try clear c1
            try clear p2
            try clear c3
            try clear c4
            try clear c5
            try clear c7
            try clear c8
            try clear c10
            try clear c15
            try clear c18
            try clear c32
            try clear c33
            try clear c36
            try clear c36b0
            try clear c36b1
            try clear p2
            obtain ⟨kq, x63_20, rfl, HA, HJ20, HO_9, HO_11, HB⟩ := hcut
            cases kq with
            | zero => exact absurd HA.out (by simp [Lw_LineSpectra.j1])
            | succ kj20 =>
              have H := HA.out
              clear HA
              simp only [Lw_LineSpectra.j1] at H
              by_cases c37 : x63_20 = true
              · subst c37
                rw [if_pos rfl] at H
                obtain rfl := Option.some.inj H
                go_wp2
                go_ret
                exact ez
              · replace c37 := Bool.eq_false_iff.mpr c37
                subst c37
                rw [if_neg (show ¬ (false = true) by decide)] at H
                have HC38 := m0 H
                clear H
                go_upto_region 12 with (fail)
                go_cut [109] (fun v109 wc => ∃ (kq : Nat) (x109_37 : Bool), v109 = .bool x109_37 ∧ Aside0 (Lw_LineSpectra.j2 kq l0 l1 t1543 t1544 x109_37 = some r) ∧ Aside0 (kq ≤ kj20) ∧ Aside0 (Kd.R (Kd.int .i64) 3 wc w.heap.size (fun _ => True) v1545 t1543) ∧ Aside0 (Below w.heap.size w wc))
                case first =>
                  have H := HC38.out
                  clear HC38
                  by_cases c39 : t1548 = 0
                  · rw [if_pos c39] at H
                    have c39b0 := beq_iff_eq.mpr c39
                    have c39b1 := bne_eq_false_iff_eq.mpr c39
                    clear c39
                    (first | rw [c39b0] | (simp only [i64_w, i32_w]; rw [c39b0]) | skip)
                    by_cases c40 : t1529 = 0
                    · rw [if_pos c40] at H
                      have c40b0 := beq_iff_eq.mpr c40
                      have c40b1 := bne_eq_false_iff_eq.mpr c40
                      clear c40
                      replace H := ob H
                      obtain ⟨t1549, A410, H⟩ := H
                      (try dsimp only at H)
                      have A41 := m0 A410
                      clear A410
                      by_cases c42 : t1528 = t1549
                      · rw [if_pos c42] at H
                        have c42b0 := beq_iff_eq.mpr c42
                        have c42b1 := bne_eq_false_iff_eq.mpr c42
                        clear c42
                        by_cases c43 : t1534 = 0
                        · rw [if_pos c43] at H
                          have c43b0 := beq_iff_eq.mpr c43
                          have c43b1 := bne_eq_false_iff_eq.mpr c43
                          clear c43
                          replace H := ob H
                          obtain ⟨t1550, A440, H⟩ := H
                          (try dsimp only at H)
                          have A44 := m0 A440
                          clear A440
                          replace H := ob H
                          obtain ⟨t1553, A450, H⟩ := H
                          (try dsimp only at H)
                          have A45 := m0 A450
                          clear A450
                          have H' := m0 H
                          clear H
                          go_wp2_with (first | (go_at_call 61; (with_reducible refine (Rf_Peak.calls kj20 _ _ l0 t1549 _ ?side1 ?side2 A41.out).mono ?_); (case side1 => exact cb HR0 HB); (case side2 => exact HC0.out); rintro e w46 ⟨rfl, hb⟩; replace HO_9 := rb HO_9 hb; replace HO_11 := rb HO_11 hb; replace HB := sb HB hb; (try clear hb)) | (go_at_call 79; (with_reducible refine (Rf_Peaks.calls kj20 _ _ l0 t1550 _ ?side1 ?side2 A44.out).mono ?_); (case side1 => exact cb HR0 HB); (case side2 => exact HC0.out); rintro e w47 ⟨v1551, rfl, ho0, hb⟩; have HO1552 := m0 (Kd.R_lower (Kd.R_new' (Kd.R_new' ho0 (Kd.R_lt (br HO_9.out))) (Kd.R_lt (br HO_11.out))) (below_size bz)); replace HO_9 := m0 (Kd.R_elder' (br HO_9.out) (Kd.R_base ho0) hb); replace HO_11 := m0 (Kd.R_elder' (br HO_11.out) (Kd.R_base ho0) hb); replace HB := sb HB hb; (try clear hb); (try clear ho0); obtain ⟨Ao48, co48, eo48⟩ := Kd.R_slice HO_9.out; subst eo48; obtain ⟨Ao49, co49, eo49⟩ := Kd.R_slice HO1552.out; subst eo49) | (go_at_call 57; (with_reducible refine (Bs_Ints.calls kj20 _ _ t1533 _ _ t1550 t1553 _ ?side1 ?side2 ?side3 ?side4 A45.out).mono ?_); (case side1 => exact bc (Kd.R_reads' HO_9.out).2.2); (case side2 => exact (Kd.R_reads' HO_9.out).2.1); (case side3 => exact bc (Kd.R_reads' HO1552.out).2.2); (case side4 => exact (Kd.R_reads' HO1552.out).2.1); rintro e w' ⟨rfl, ⟨nd, rfl⟩⟩))
                          go_meet
                          case rel => exact ⟨_, (!t1553), (by first | rfl | (simp; done) | (simp [*]; done)), H', ⟨by have := HJ4.out; have := HJ20.out; first | omega | exact Nat.le_refl _⟩, ⟨by (with_reducible repeat (first | apply Kd.R_alloc | apply Kd.R_drewN | apply Kd.R_drew)); exact Kd.R_mono HO_11.out (fun _ hk => trivial)⟩, ⟨bz⟩⟩
                        · rw [if_neg c43] at H
                          have c43b0 := beq_eq_false_iff_ne.mpr c43
                          have c43b1 := bne_iff_ne.mpr c43
                          have H' := m0 H
                          clear H
                          go_wp2_with (first | (go_at_call 61; (with_reducible refine (Rf_Peak.calls kj20 _ _ l0 t1549 _ ?side1 ?side2 A41.out).mono ?_); (case side1 => exact cb HR0 HB); (case side2 => exact HC0.out); rintro e w50 ⟨rfl, hb⟩; replace HO_9 := rb HO_9 hb; replace HO_11 := rb HO_11 hb; replace HB := sb HB hb; (try clear hb)))
                          go_meet
                          case rel => exact ⟨_, (true), (by first | rfl | (simp; done) | (simp [*]; done)), H', ⟨by have := HJ4.out; have := HJ20.out; first | omega | exact Nat.le_refl _⟩, ⟨by (with_reducible repeat (first | apply Kd.R_alloc | apply Kd.R_drewN | apply Kd.R_drew)); exact Kd.R_mono HO_11.out (fun _ hk => trivial)⟩, ⟨bz⟩⟩
                      · rw [if_neg c42] at H
                        have c42b0 := beq_eq_false_iff_ne.mpr c42
                        have c42b1 := bne_iff_ne.mpr c42
                        have H' := m0 H
                        clear H
                        go_wp2_with (first | (go_at_call 61; (with_reducible refine (Rf_Peak.calls kj20 _ _ l0 t1549 _ ?side1 ?side2 A41.out).mono ?_); (case side1 => exact cb HR0 HB); (case side2 => exact HC0.out); rintro e w51 ⟨rfl, hb⟩; replace HO_9 := rb HO_9 hb; replace HO_11 := rb HO_11 hb; replace HB := sb HB hb; (try clear hb)))
                        go_meet
                        case rel => exact ⟨_, (true), (by first | rfl | (simp; done) | (simp [*]; done)), H', ⟨by have := HJ4.out; have := HJ20.out; first | omega | exact Nat.le_refl _⟩, ⟨by (with_reducible repeat (first | apply Kd.R_alloc | apply Kd.R_drewN | apply Kd.R_drew)); exact Kd.R_mono HO_11.out (fun _ hk => trivial)⟩, ⟨bz⟩⟩
                    · rw [if_neg c40] at H
                      have c40b0 := beq_eq_false_iff_ne.mpr c40
                      have c40b1 := bne_iff_ne.mpr c40
                      have H' := m0 H
                      clear H
                      go_wp2
                      go_meet
                      case rel => exact ⟨_, (true), (by first | rfl | (simp; done) | (simp [*]; done)), H', ⟨by have := HJ4.out; have := HJ20.out; first | omega | exact Nat.le_refl _⟩, ⟨by (with_reducible repeat (first | apply Kd.R_alloc | apply Kd.R_drewN | apply Kd.R_drew)); exact Kd.R_mono HO_11.out (fun _ hk => trivial)⟩, ⟨bz⟩⟩
                  · rw [if_neg c39] at H
                    have c39b0 := beq_eq_false_iff_ne.mpr c39
                    have c39b1 := bne_iff_ne.mpr c39
                    (first | rw [c39b0] | (simp only [i64_w, i32_w]; rw [c39b0]) | skip)
                    by_cases c52 : t1529 = t1548
                    · rw [if_pos c52] at H
                      have c52b0 := beq_iff_eq.mpr c52
                      have c52b1 := bne_eq_false_iff_eq.mpr c52
                      clear c52
                      by_cases c53 : t1534 = t1548
                      · rw [if_pos c53] at H
                        have c53b0 := beq_iff_eq.mpr c53
                        have c53b1 := bne_eq_false_iff_eq.mpr c53
                        clear c53
                        by_cases c54 : t1528 = 0
                        · rw [if_pos c54] at H
                          have c54b0 := beq_iff_eq.mpr c54
                          have c54b1 := bne_eq_false_iff_eq.mpr c54
                          clear c54
                          by_cases c55 : (t1533.length : Int) = 0
                          · rw [if_pos c55] at H
                            have c55b0 := beq_iff_eq.mpr c55
                            have c55b1 := bne_eq_false_iff_eq.mpr c55
                            clear c55
                            have H' := m0 H
                            clear H
                            obtain ⟨Ao56, co56, eo56⟩ := Kd.R_slice HO_9.out
                            subst eo56
                            go_wp2
                            go_meet
                            case rel => exact ⟨_, (false), (by first | rfl | (simp; done) | (simp [*]; done)), H', ⟨by have := HJ4.out; have := HJ20.out; first | omega | exact Nat.le_refl _⟩, ⟨by (with_reducible repeat (first | apply Kd.R_alloc | apply Kd.R_drewN | apply Kd.R_drew)); exact Kd.R_mono HO_11.out (fun _ hk => trivial)⟩, ⟨bz⟩⟩
                          · rw [if_neg c55] at H
                            have c55b0 := beq_eq_false_iff_ne.mpr c55
                            have c55b1 := bne_iff_ne.mpr c55
                            have c55b2 : ¬ (t1533 = []) := fun h_ => c55 (by rw [h_]; rfl)
                            have H' := m0 H
                            clear H
                            obtain ⟨Ao57, co57, eo57⟩ := Kd.R_slice HO_9.out
                            subst eo57
                            go_wp2
                            go_meet
                            case rel => exact ⟨_, (true), (by first | rfl | (simp; done) | (simp [*]; done)), H', ⟨by have := HJ4.out; have := HJ20.out; first | omega | exact Nat.le_refl _⟩, ⟨by (with_reducible repeat (first | apply Kd.R_alloc | apply Kd.R_drewN | apply Kd.R_drew)); exact Kd.R_mono HO_11.out (fun _ hk => trivial)⟩, ⟨bz⟩⟩
                        · rw [if_neg c54] at H
                          have c54b0 := beq_eq_false_iff_ne.mpr c54
                          have c54b1 := bne_iff_ne.mpr c54
                          have H' := m0 H
                          clear H
                          go_wp2
                          go_meet
                          case rel => exact ⟨_, (true), (by first | rfl | (simp; done) | (simp [*]; done)), H', ⟨by have := HJ4.out; have := HJ20.out; first | omega | exact Nat.le_refl _⟩, ⟨by (with_reducible repeat (first | apply Kd.R_alloc | apply Kd.R_drewN | apply Kd.R_drew)); exact Kd.R_mono HO_11.out (fun _ hk => trivial)⟩, ⟨bz⟩⟩
                      · rw [if_neg c53] at H
                        have c53b0 := beq_eq_false_iff_ne.mpr c53
                        have c53b1 := bne_iff_ne.mpr c53
                        have H' := m0 H
                        clear H
                        go_wp2
                        go_meet
                        case rel => exact ⟨_, (true), (by first | rfl | (simp; done) | (simp [*]; done)), H', ⟨by have := HJ4.out; have := HJ20.out; first | omega | exact Nat.le_refl _⟩, ⟨by (with_reducible repeat (first | apply Kd.R_alloc | apply Kd.R_drewN | apply Kd.R_drew)); exact Kd.R_mono HO_11.out (fun _ hk => trivial)⟩, ⟨bz⟩⟩
                    · rw [if_neg c52] at H
                      have c52b0 := beq_eq_false_iff_ne.mpr c52
                      have c52b1 := bne_iff_ne.mpr c52
                      have H' := m0 H
                      clear H
                      go_wp2
                      go_meet
                      case rel => exact ⟨_, (true), (by first | rfl | (simp; done) | (simp [*]; done)), H', ⟨by have := HJ4.out; have := HJ20.out; first | omega | exact Nat.le_refl _⟩, ⟨by (with_reducible repeat (first | apply Kd.R_alloc | apply Kd.R_drewN | apply Kd.R_drew)); exact Kd.R_mono HO_11.out (fun _ hk => trivial)⟩, ⟨bz⟩⟩
                case rest =>
                  clear HC38
                  try clear c1
                  try clear p2
                  try clear c3
                  try clear c4
                  try clear c5
                  try clear c7
                  try clear c8
                  try clear c10
                  try clear c15
                  try clear c18
                  try clear c32
                  try clear c33
                  try clear c36
                  try clear c36b0
                  try clear c36b1
                  try clear c37
                  try clear c39
                  try clear c39b0
                  try clear c39b1
                  try clear c40
                  try clear c40b0
                  try clear c40b1
                  try clear c42
                  try clear c42b0
                  try clear c42b1
                  try clear c43
                  try clear c43b0
                  try clear c43b1
                  try clear c50
                  try clear c52
                  try clear c52b0
                  try clear c52b1
                  try clear c53
                  try clear c53b0
                  try clear c53b1
                  try clear c54
                  try clear c54b0
                  try clear c54b1
                  try clear c55
                  try clear c55b0
                  try clear c55b1
                  try clear c55b2
                  try clear p2
                  obtain ⟨kq, x109_37, rfl, HA, HJ37, HO_11, HB⟩ := hcut
                  cases kq with
                  | zero => exact absurd HA.out (by simp [Lw_LineSpectra.j2])
                  | succ kj37 =>
                    have H := HA.out
                    clear HA
                    simp only [Lw_LineSpectra.j2] at H
                    by_cases c58 : x109_37 = true
                    · subst c58
                      rw [if_pos rfl] at H
                      obtain rfl := Option.some.inj H
                      go_wp2
                      go_ret
                      exact ez
                    · replace c58 := Bool.eq_false_iff.mpr c58
                      subst c58
                      rw [if_neg (show ¬ (false = true) by decide)] at H
                      replace H := ob H
                      obtain ⟨t1554, A590, H⟩ := H
                      (try dsimp only at H)
                      have A59 := m0 A590
                      clear A590
                      by_cases c60 : t1554 = 0
                      · rw [if_pos c60] at H
                        have c60b0 := beq_iff_eq.mpr c60
                        have c60b1 := bne_eq_false_iff_eq.mpr c60
                        clear c60
                        by_cases c61 : t1544 = 0
                        · rw [if_pos c61] at H
                          have c61b0 := beq_iff_eq.mpr c61
                          have c61b1 := bne_eq_false_iff_eq.mpr c61
                          clear c61
                          replace H := ob H
                          obtain ⟨t1555, A620, H⟩ := H
                          (try dsimp only at H)
                          have A62 := m0 A620
                          clear A620
                          replace H := ob H
                          obtain ⟨t1558, A630, H⟩ := H
                          (try dsimp only at H)
                          have A63 := m0 A630
                          clear A630
                          obtain rfl := Option.some.inj H
                          go_wp2_with (first | ((with_reducible refine gate_callee (f := 80) rfl ?_); refine gl (some 112) Tryd.func80 #[.slice A0 l0.length c0, .slice A1 l1.length c1] ?_; (with_reducible refine (Rf_BothErr.calls kj37 _ _ l0 _ _ l1 t1554 _ ?side1 ?side2 ?side3 ?side4 A59.out).mono ?_); (case side1 => exact cb HR0 HB); (case side2 => exact HC0.out); (case side3 => exact cb HR1 HB); (case side4 => exact HC1.out); rintro e w' ⟨rfl, ⟨nd, rfl⟩⟩; refine ⟨_, rfl, ?_⟩) | (go_at_call 81; (with_reducible refine (Rf_Whitened.calls kj37 _ _ l0 _ _ l1 t1555 _ ?side1 ?side2 ?side3 ?side4 A62.out).mono ?_); (case side1 => repeat (first | exact (Kd.C_below HR0.out bz) | (with_reducible refine Kd.C_alloc ?_ _) | (with_reducible refine Kd.C_drewN ?_ _) | (with_reducible refine Kd.C_drew ?_))); (case side2 => exact HC0.out); (case side3 => repeat (first | exact (Kd.C_below HR1.out bz) | (with_reducible refine Kd.C_alloc ?_ _) | (with_reducible refine Kd.C_drewN ?_ _) | (with_reducible refine Kd.C_drew ?_))); (case side4 => exact HC1.out); rintro e w64 ⟨v1556, rfl, ho0, hb⟩; have HO1557 := m0 (Kd.R_lower (Kd.R_new' ho0 (Kd.R_lt (br HO_11.out))) (below_size bz)); replace HO_11 := m0 (Kd.R_elder' (br HO_11.out) (Kd.R_base ho0) hb); replace HB := sb HB hb; (try clear hb); (try clear ho0); obtain ⟨Ao65, co65, eo65⟩ := Kd.R_slice HO_11.out; subst eo65; obtain ⟨Ao66, co66, eo66⟩ := Kd.R_slice HO1557.out; subst eo66) | (go_at_call 57; (with_reducible refine (Bs_Ints.calls kj37 _ _ t1543 _ _ t1555 t1558 _ ?side1 ?side2 ?side3 ?side4 A63.out).mono ?_); (case side1 => exact bc (Kd.R_reads' HO_11.out).2.2); (case side2 => exact (Kd.R_reads' HO_11.out).2.1); (case side3 => exact bc (Kd.R_reads' HO1557.out).2.2); (case side4 => exact (Kd.R_reads' HO1557.out).2.1); rintro e w' ⟨rfl, ⟨nd, rfl⟩⟩))
                          go_ret
                          exact ez
                        · rw [if_neg c61] at H
                          have c61b0 := beq_eq_false_iff_ne.mpr c61
                          have c61b1 := bne_iff_ne.mpr c61
                          obtain rfl := Option.some.inj H
                          go_wp2_with (first | ((with_reducible refine gate_callee (f := 80) rfl ?_); refine gl (some 112) Tryd.func80 #[.slice A0 l0.length c0, .slice A1 l1.length c1] ?_; (with_reducible refine (Rf_BothErr.calls kj37 _ _ l0 _ _ l1 t1554 _ ?side1 ?side2 ?side3 ?side4 A59.out).mono ?_); (case side1 => exact cb HR0 HB); (case side2 => exact HC0.out); (case side3 => exact cb HR1 HB); (case side4 => exact HC1.out); rintro e w' ⟨rfl, ⟨nd, rfl⟩⟩; refine ⟨_, rfl, ?_⟩))
                          go_ret
                          exact ez
                      · rw [if_neg c60] at H
                        have c60b0 := beq_eq_false_iff_ne.mpr c60
                        have c60b1 := bne_iff_ne.mpr c60
                        by_cases c67 : t1544 = t1554
                        · rw [if_pos c67] at H
                          have c67b0 := beq_iff_eq.mpr c67
                          have c67b1 := bne_eq_false_iff_eq.mpr c67
                          clear c67
                          obtain rfl := Option.some.inj H
                          go_wp2_with (first | ((with_reducible refine gate_callee (f := 80) rfl ?_); refine gl (some 112) Tryd.func80 #[.slice A0 l0.length c0, .slice A1 l1.length c1] ?_; (with_reducible refine (Rf_BothErr.calls kj37 _ _ l0 _ _ l1 t1554 _ ?side1 ?side2 ?side3 ?side4 A59.out).mono ?_); (case side1 => exact cb HR0 HB); (case side2 => exact HC0.out); (case side3 => exact cb HR1 HB); (case side4 => exact HC1.out); rintro e w' ⟨rfl, ⟨nd, rfl⟩⟩; refine ⟨_, rfl, ?_⟩; obtain ⟨Ao68, co68, eo68⟩ := Kd.R_slice HO_11.out; subst eo68))
                          go_ret
                          exact ez
                        · rw [if_neg c67] at H
                          have c67b0 := beq_eq_false_iff_ne.mpr c67
                          have c67b1 := bne_iff_ne.mpr c67
                          obtain rfl := Option.some.inj H
                          go_wp2_with (first | ((with_reducible refine gate_callee (f := 80) rfl ?_); refine gl (some 112) Tryd.func80 #[.slice A0 l0.length c0, .slice A1 l1.length c1] ?_; (with_reducible refine (Rf_BothErr.calls kj37 _ _ l0 _ _ l1 t1554 _ ?side1 ?side2 ?side3 ?side4 A59.out).mono ?_); (case side1 => exact cb HR0 HB); (case side2 => exact HC0.out); (case side3 => exact cb HR1 HB); (case side4 => exact HC1.out); rintro e w' ⟨rfl, ⟨nd, rfl⟩⟩; refine ⟨_, rfl, ?_⟩))
                          go_ret
                          exact ez
  · replace c4 := Bool.eq_false_iff.mpr c4
    subst c4
    rw [if_neg (show ¬ (false = true) by decide)] at H
    obtain rfl := Option.some.inj H
    go_enter Tryd.func15, Tryd.ntmps15
    go_wp2_with (first | ((with_reducible refine gate_callee (f := 18) rfl ?_); refine gl (some 15) Tryd.func18 #[] ?_; (with_reducible refine (Lw_awake.calls k  false _ ?side1 A3.out).mono ?_); (case side1 => exact EstG.below HG.out bz); rintro e w69 ⟨rfl, hb⟩; refine ⟨_, rfl, ?_⟩; replace HB := sb HB hb; (try clear hb)))
    go_ret
    exact ez
end
end Go.Proofs.YtjnkphmcndaijaaDoor.A
