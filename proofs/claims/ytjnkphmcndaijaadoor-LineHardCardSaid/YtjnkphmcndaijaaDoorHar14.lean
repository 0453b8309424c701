/- Walks of the program's functions (printed, made shorter), each with what it computes. -/
import Derived.Test.YtjnkphmcndaijaaDoorHar04
import Derived.Test.YtjnkphmcndaijaaDoorHar13
import Derived.Test.YtjnkphmcndaijaaDoorHar03
import Derived.Test.YtjnkphmcndaijaaDoorHar12
namespace Go.Proofs.YtjnkphmcndaijaaDoor.A
set_option maxHeartbeats 8000000
set_option maxRecDepth 100000
open Go.RowKit Go.Proofs.YtjnkphmcndaijaaDoorW.PrintWords Go.Proofs.YtjnkphmcndaijaaDoorW.PrintLast Go.Proofs.YtjnkphmcndaijaaDoorW.PrintMore
attribute [local go_sem] max2_int min2_int max_two min_two max_three min_three max_four min_four
set_option linter.unusedVariables false
set_option linter.unusedSimpArgs false
section
def Rf_SpectrumErr.f (k : Nat) (l0 : List Int) : Option (Int) := (Rf_CheckSpectrum.f k l0).bind fun bt409 => (some bt409.2)
theorem Rf_SpectrumErr.mono : ∀ a0 k, LeO (Rf_SpectrumErr.f k a0) (Rf_SpectrumErr.f (k + 1) a0) := by
 intro a0 k
 unfold Rf_SpectrumErr.f
 repeat' first
   | (with_reducible exact Rf_CheckSpectrum.mono _ _)
   | (with_reducible exact LeO.refl _)
   | (with_reducible exact LeO.none _)
   | (with_reducible refine LeO.ite ?_ ?_)
   | (with_reducible refine LeO.bind ?_ (fun _ => ?_))
   | exact Rf_CheckSpectrum.mono _ _
   | exact LeO.none _
   | refine LeO.ite ?_ ?_
   | refine LeO.bind ?_ (fun _ => ?_)
theorem Rf_SpectrumErr.calls (k : Nat) (A0 : Option Addr) (c0 : Nat) (l0 : List Int) (r : Int) (w : World) (hr0 : Kd.C (Kd.int .i64) w A0 l0.length l0) (hc0 : l0.length ≤ c0) (h : Rf_SpectrumErr.f k l0 = some r) :
  Calls Tryd.prog 30 #[.slice A0 l0.length c0] w fun e w' => e = .returned (.int .i64 r) ∧ Drawn0 w w' := by
 have HR0 := m0 hr0
 have HC0 := m0 hc0
 clear hr0 hc0
 have H : ((Rf_CheckSpectrum.f k l0).bind fun bt409 => (some bt409.2)) = some r := h
 clear h
 replace H := ob H
 obtain ⟨⟨t409, t410⟩, A20, H⟩ := H
 (try dsimp only at H)
 have A2 := m0 A20
 clear A20
 obtain rfl := Option.some.inj H
 go_enter Tryd.func30, Tryd.ntmps30
 go_wp2_with (first | ((with_reducible refine gate_callee (f := 78) rfl ?_); refine gl (some 7) Tryd.func78 #[.slice A0 l0.length c0] ?_; (with_reducible refine (Rf_CheckSpectrum.calls k _ _ l0 t409 t410 _ ?side1 ?side2 A2.out).mono ?_); (case side1 => repeat (first | exact HR0.out | (with_reducible refine Kd.C_alloc ?_ _) | (with_reducible refine Kd.C_drewN ?_ _) | (with_reducible refine Kd.C_drew ?_))); (case side2 => exact HC0.out); rintro e w' ⟨rfl, ⟨nd, rfl⟩⟩; refine ⟨_, rfl, ?_⟩))
 go_ret
 exact ⟨by first | rfl | (simp; done) | (simp [*]; done), by repeat (first | exact Drawn0.refl _ | apply Drawn0.step)⟩
end
section
def Rf_HardErr.l0 : Nat → List (List Int) → Int → Int → Int → Int → Int → Option (Int)
 | 0, _, _, _, _, _, _ => none
 | k + 1, x0, x5, x1374000, x1374001, x1374002, x1374003 => if x5 < (x0.length : Int) then (if 0 ≤ x5 then ((Rf_SpectrumErr.f k (rd_L1 x0 x5)).bind fun t1375 => (if t1375 = 0 then (Rf_HardErr.l0 k x0 (wrap64 (x5 + 1)) x1374000 x1374001 x1374002 x1374003) else (some t1375))) else (none)) else ((Bs_Within.f x1374000 0 15).bind fun t1376 => (if t1376 = true then ((Bs_Within.f x1374001 0 16).bind fun t1377 => (if t1377 = true then ((Bs_Within.f x1374002 0 160000).bind fun t1378 => (if t1378 = true then ((Bs_Within.f x1374003 0 100).bind fun t1379 => (if t1379 = true then (some 0) else (some 2))) else (some 2))) else (some 2))) else (some 2)))
def Rf_HardErr.f (k : Nat) (l0 : List (List Int)) (a1_0 : Int) (a1_1 : Int) (a1_2 : Int) (a1_3 : Int) : Option (Int) := if (l0.length : Int) > 20 then (some 8) else (Rf_HardErr.l0 k l0 0 a1_0 a1_1 a1_2 a1_3)
theorem Rf_HardErr.mono_l : ∀ k, (∀ y0 y1 y2 y3 y4 y5, LeO (Rf_HardErr.l0 k y0 y1 y2 y3 y4 y5) (Rf_HardErr.l0 (k + 1) y0 y1 y2 y3 y4 y5))
 | 0 => fun _ _ _ _ _ _ r h => by simp [Rf_HardErr.l0] at h
 | k + 1 => by
  have ih0 := Rf_HardErr.mono_l k
  ·intro y0 y1 y2 y3 y4 y5
   unfold Rf_HardErr.l0
   repeat' first
   | (with_reducible exact ih0 _ _ _ _ _ _)
   | (with_reducible exact Rf_SpectrumErr.mono _ _)
   | (with_reducible exact LeO.refl _)
   | (with_reducible exact LeO.none _)
   | (with_reducible refine LeO.ite ?_ ?_)
   | (with_reducible refine LeO.bind ?_ (fun _ => ?_))
   | exact ih0 _ _ _ _ _ _
   | exact Rf_SpectrumErr.mono _ _
   | exact LeO.none _
   | refine LeO.ite ?_ ?_
   | refine LeO.bind ?_ (fun _ => ?_)
theorem Rf_HardErr.mono : ∀ a0 a1 a2 a3 a4 k, LeO (Rf_HardErr.f k a0 a1 a2 a3 a4) (Rf_HardErr.f (k + 1) a0 a1 a2 a3 a4) := by
 intro a0 a1 a2 a3 a4 k
 have ih0 := Rf_HardErr.mono_l k
 unfold Rf_HardErr.f
 repeat' first
   | (with_reducible exact ih0 _ _ _ _ _ _)
   | (with_reducible exact Rf_SpectrumErr.mono _ _)
   | (with_reducible exact LeO.refl _)
   | (with_reducible exact LeO.none _)
   | (with_reducible refine LeO.ite ?_ ?_)
   | (with_reducible refine LeO.bind ?_ (fun _ => ?_))
   | exact ih0 _ _ _ _ _ _
   | exact Rf_SpectrumErr.mono _ _
   | exact LeO.none _
   | refine LeO.ite ?_ ?_
   | refine LeO.bind ?_ (fun _ => ?_)
theorem Rf_HardErr.calls (k : Nat) (A0 : Option Addr) (c0 : Nat) (l0 : List (List Int)) (a1_0 : Int) (a1_1 : Int) (a1_2 : Int) (a1_3 : Int) (r : Int) (w : World) (hr0 : Kd.C (Kd.slice 3 (Kd.int .i64)) w A0 l0.length l0) (hc0 : l0.length ≤ c0) (h : Rf_HardErr.f k l0 a1_0 a1_1 a1_2 a1_3 = some r) :
  Calls Tryd.prog 73 #[.slice A0 l0.length c0, .agg #[.int .i64 a1_0, .int .i64 a1_1, .int .i64 a1_2, .int .i64 a1_3]] w fun e w' => e = .returned (.int .i64 r) ∧ Below w.heap.size w w' := by
 have hu94 := Tryd.underlying94
 have HR0 := m0 hr0
 have HC0 := m0 hc0
 clear hr0 hc0
 have HB := m0 (Below.refl w.heap.size w)
 have H : (if (l0.length : Int) > 20 then (some 8) else (Rf_HardErr.l0 k l0 0 a1_0 a1_1 a1_2 a1_3)) = some r := h
 clear h
 by_cases c3 : (l0.length : Int) > 20
 ·rw [if_pos c3] at H
  have c3b0 := decide_eq_true c3
  have c3b1 : decide (20 < l0.length) = true := decide_eq_true (by omega)
  clear c3
  obtain rfl := Option.some.inj H
  go_enter Tryd.func73, Tryd.ntmps73
  go_wp2_with (first | ((with_reducible refine gate_dst (N := 3) rfl ?_); refine be 3 94 #[.int .i64 a1_0, .int .i64 a1_1, .int .i64 a1_2, .int .i64 a1_3] ?_; intro gb1373 hg w4 hbox hb; have BK1373 := m0 hbox; have GW1373 := m0 (bg (n := w.heap.size) hg); have GE1373 := m0 (bg (n := w.heap.size) hg); replace HB := sb HB hb; clear hb hbox hg))
  go_ret
  exact ez
 ·rw [if_neg c3] at H
  have c3b0 := decide_eq_false c3
  have c3b1 : decide (20 < l0.length) = false := decide_eq_false (by omega)
  clear c3
  have H' := m0 H
  clear H
  go_enter Tryd.func73, Tryd.ntmps73
  go_wp2_with (first | ((with_reducible refine gate_dst (N := 3) rfl ?_); refine be 3 94 #[.int .i64 a1_0, .int .i64 a1_1, .int .i64 a1_2, .int .i64 a1_3] ?_; intro gb1373 hg w5 hbox hb; have BK1373 := m0 hbox; have GW1373 := m0 (bg (n := w.heap.size) hg); have GE1373 := m0 (bg (n := w.heap.size) hg); replace HB := sb HB hb; clear hb hbox hg))
  go_loopg [5] k (fun kq v5 w' => ∃ (x5_1 : Int), v5 = .int .i64 x5_1 ∧ Aside0 (Rf_HardErr.l0 kq l0 x5_1 a1_0 a1_1 a1_2 a1_3 = some r) ∧ Aside0 (kq ≤ k) ∧ Aside0 (w'.heap[gb1373]? = some (.cells #[.int .i64 a1_0, .int .i64 a1_1, .int .i64 a1_2, .int .i64 a1_3] 94 (0, 0))) ∧ Aside0 (Below w.heap.size w w'))
  case atStart => exact ⟨(0), (by first | rfl | (simp; done) | (simp [*]; done)), H', ⟨Nat.le_refl _⟩, ⟨bk BK1373.out⟩, ⟨bz⟩⟩
  case round =>
   clear H'
   try clear p2
   try clear c3
   try clear c3b0
   try clear c3b1
   obtain ⟨x5_1, rfl, HA, HK1, BK1373, HB⟩ := hrel
   cases gk with
   | zero => exact absurd HA.out (by simp [Rf_HardErr.l0])
   | succ k1 =>
    have H := HA.out
    clear HA
    simp only [Rf_HardErr.l0] at H
    by_cases c6 : x5_1 < (l0.length : Int)
    ·rw [if_pos c6] at H
     have c6b0 := decide_eq_true c6
     clear c6
     by_cases c7 : 0 ≤ x5_1
     ·rw [if_pos c7] at H
      have c7b0 := decide_eq_true c7
      clear c7
      replace H := ob H
      obtain ⟨t1375, A80, H⟩ := H
      (try dsimp only at H)
      have A8 := m0 A80
      clear A80
      by_cases c9 : t1375 = 0
      ·rw [if_pos c9] at H
       have c9b0 := beq_iff_eq.mpr c9
       have c9b1 := bne_eq_false_iff_eq.mpr c9
       clear c9
       have H' := m0 H
       clear H
       have p1374 : 0 ≤ (x5_1 : Int) := of_decide_eq_true (by first | (with_reducible assumption) | assumption)
       have q1374 : x5_1 < (l0.length : Int) := of_decide_eq_true (by first | (with_reducible assumption) | assumption)
       obtain ⟨ad1374, A1374_0, c1374_0, e1374, hx1374_0, hl1374_0, hi1374_0⟩ := at_L1 HR0.out x5_1 p1374 q1374
       cases e1374
       replace hx1374_0 := (HB.out.cell (World.block_lt_of_cell? w _ hx1374_0)).trans hx1374_0
       have HR1374_0 := m0 hi1374_0
       have HC1374_0 := m0 hl1374_0
       clear hi1374_0 hl1374_0
       replace p1374 := eq_true p1374
       replace q1374 := eq_true q1374
       go_wp2_with (first | ((with_reducible refine gate_callee (f := 30) rfl ?_); refine gl (some 20) Tryd.func30 #[.slice A1374_0 (rd_L1 l0 x5_1).length c1374_0] ?_; (with_reducible refine (Rf_SpectrumErr.calls k1 _ _ (rd_L1 l0 x5_1) t1375 _ ?side1 ?side2 A8.out).mono ?_); (case side1 => exact cb HR1374_0 HB); (case side2 => exact HC1374_0.out); rintro e w' ⟨rfl, ⟨nd, rfl⟩⟩; refine ⟨_, rfl, ?_⟩))
       go_roundg k1
       case measure => have := HK1.out; omega
       case rel => exact ⟨(wrap64 (x5_1 + 1)), (by first | rfl | (simp; done) | (simp [*]; done)), H', ⟨by have := HK1.out; omega⟩, ⟨bk BK1373.out⟩, ⟨bz⟩⟩
      ·rw [if_neg c9] at H
       have c9b0 := beq_eq_false_iff_ne.mpr c9
       have c9b1 := bne_iff_ne.mpr c9
       obtain rfl := Option.some.inj H
       have p1374 : 0 ≤ (x5_1 : Int) := of_decide_eq_true (by first | (with_reducible assumption) | assumption)
       have q1374 : x5_1 < (l0.length : Int) := of_decide_eq_true (by first | (with_reducible assumption) | assumption)
       obtain ⟨ad1374, A1374_0, c1374_0, e1374, hx1374_0, hl1374_0, hi1374_0⟩ := at_L1 HR0.out x5_1 p1374 q1374
       cases e1374
       replace hx1374_0 := (HB.out.cell (World.block_lt_of_cell? w _ hx1374_0)).trans hx1374_0
       have HR1374_0 := m0 hi1374_0
       have HC1374_0 := m0 hl1374_0
       clear hi1374_0 hl1374_0
       replace p1374 := eq_true p1374
       replace q1374 := eq_true q1374
       go_wp2_with (first | ((with_reducible refine gate_callee (f := 30) rfl ?_); refine gl (some 20) Tryd.func30 #[.slice A1374_0 (rd_L1 l0 x5_1).length c1374_0] ?_; (with_reducible refine (Rf_SpectrumErr.calls k1 _ _ (rd_L1 l0 x5_1) t1375 _ ?side1 ?side2 A8.out).mono ?_); (case side1 => exact cb HR1374_0 HB); (case side2 => exact HC1374_0.out); rintro e w' ⟨rfl, ⟨nd, rfl⟩⟩; refine ⟨_, rfl, ?_⟩))
       go_ret
       exact ez
     ·rw [if_neg c7] at H
      exact absurd H (by simp)
    ·rw [if_neg c6] at H
     have c6b0 := decide_eq_false c6
     clear c6
     replace H := ob H
     obtain ⟨t1376, A100, H⟩ := H
     (try dsimp only at H)
     have A10 := m0 A100
     clear A100
     by_cases c11 : t1376 = true
     ·subst c11
      rw [if_pos rfl] at H
      replace H := ob H
      obtain ⟨t1377, A120, H⟩ := H
      (try dsimp only at H)
      have A12 := m0 A120
      clear A120
      by_cases c13 : t1377 = true
      ·subst c13
       rw [if_pos rfl] at H
       replace H := ob H
       obtain ⟨t1378, A140, H⟩ := H
       (try dsimp only at H)
       have A14 := m0 A140
       clear A140
       by_cases c15 : t1378 = true
       ·subst c15
        rw [if_pos rfl] at H
        replace H := ob H
        obtain ⟨t1379, A160, H⟩ := H
        (try dsimp only at H)
        have A16 := m0 A160
        clear A160
        by_cases c17 : t1379 = true
        ·subst c17
         rw [if_pos rfl] at H
         obtain rfl := Option.some.inj H
         obtain ⟨_, _, _, _, _, _, _, _⟩ := b4 BK1373
         go_wp2_with (first | ((with_reducible refine gate_callee (f := 31) rfl ?_); refine gl (some 26) Tryd.func31 #[.int .i64 a1_0, .int .i64 0, .int .i64 15] ?_; (with_reducible refine (Bs_Within.calls a1_0 0 15 true _ A10.out).mono ?_); rintro e w' ⟨rfl, ⟨nd, rfl⟩⟩; refine ⟨_, rfl, ?_⟩) | (go_at_call 31; (with_reducible refine (Bs_Within.calls a1_1 0 16 true _ A12.out).mono ?_); rintro e w' ⟨rfl, ⟨nd, rfl⟩⟩) | (go_at_call 31; (with_reducible refine (Bs_Within.calls a1_2 0 160000 true _ A14.out).mono ?_); rintro e w' ⟨rfl, ⟨nd, rfl⟩⟩) | (go_at_call 31; (with_reducible refine (Bs_Within.calls a1_3 0 100 true _ A16.out).mono ?_); rintro e w' ⟨rfl, ⟨nd, rfl⟩⟩))
         go_ret
         exact ez
        ·replace c17 := Bool.eq_false_iff.mpr c17
         subst c17
         rw [if_neg (show ¬ (false = true) by decide)] at H
         obtain rfl := Option.some.inj H
         obtain ⟨_, _, _, _, _, _, _, _⟩ := b4 BK1373
         go_wp2_with (first | ((with_reducible refine gate_callee (f := 31) rfl ?_); refine gl (some 26) Tryd.func31 #[.int .i64 a1_0, .int .i64 0, .int .i64 15] ?_; (with_reducible refine (Bs_Within.calls a1_0 0 15 true _ A10.out).mono ?_); rintro e w' ⟨rfl, ⟨nd, rfl⟩⟩; refine ⟨_, rfl, ?_⟩) | (go_at_call 31; (with_reducible refine (Bs_Within.calls a1_1 0 16 true _ A12.out).mono ?_); rintro e w' ⟨rfl, ⟨nd, rfl⟩⟩) | (go_at_call 31; (with_reducible refine (Bs_Within.calls a1_2 0 160000 true _ A14.out).mono ?_); rintro e w' ⟨rfl, ⟨nd, rfl⟩⟩) | (go_at_call 31; (with_reducible refine (Bs_Within.calls a1_3 0 100 false _ A16.out).mono ?_); rintro e w' ⟨rfl, ⟨nd, rfl⟩⟩))
         go_ret
         exact ez
       ·replace c15 := Bool.eq_false_iff.mpr c15
        subst c15
        rw [if_neg (show ¬ (false = true) by decide)] at H
        obtain rfl := Option.some.inj H
        obtain ⟨_, _, _, _, _, _, _, _⟩ := b4 BK1373
        go_wp2_with (first | ((with_reducible refine gate_callee (f := 31) rfl ?_); refine gl (some 26) Tryd.func31 #[.int .i64 a1_0, .int .i64 0, .int .i64 15] ?_; (with_reducible refine (Bs_Within.calls a1_0 0 15 true _ A10.out).mono ?_); rintro e w' ⟨rfl, ⟨nd, rfl⟩⟩; refine ⟨_, rfl, ?_⟩) | (go_at_call 31; (with_reducible refine (Bs_Within.calls a1_1 0 16 true _ A12.out).mono ?_); rintro e w' ⟨rfl, ⟨nd, rfl⟩⟩) | (go_at_call 31; (with_reducible refine (Bs_Within.calls a1_2 0 160000 false _ A14.out).mono ?_); rintro e w' ⟨rfl, ⟨nd, rfl⟩⟩))
        go_ret
        exact ez
      ·replace c13 := Bool.eq_false_iff.mpr c13
       subst c13
       rw [if_neg (show ¬ (false = true) by decide)] at H
       obtain rfl := Option.some.inj H
       obtain ⟨_, _, _, _, _, _, _, _⟩ := b4 BK1373
       go_wp2_with (first | ((with_reducible refine gate_callee (f := 31) rfl ?_); refine gl (some 26) Tryd.func31 #[.int .i64 a1_0, .int .i64 0, .int .i64 15] ?_; (with_reducible refine (Bs_Within.calls a1_0 0 15 true _ A10.out).mono ?_); rintro e w' ⟨rfl, ⟨nd, rfl⟩⟩; refine ⟨_, rfl, ?_⟩) | (go_at_call 31; (with_reducible refine (Bs_Within.calls a1_1 0 16 false _ A12.out).mono ?_); rintro e w' ⟨rfl, ⟨nd, rfl⟩⟩))
       go_ret
       exact ez
     ·replace c11 := Bool.eq_false_iff.mpr c11
      subst c11
      rw [if_neg (show ¬ (false = true) by decide)] at H
      obtain rfl := Option.some.inj H
      obtain ⟨_, _, _, _, _, _, _, _⟩ := b4 BK1373
      go_wp2_with (first | ((with_reducible refine gate_callee (f := 31) rfl ?_); refine gl (some 26) Tryd.func31 #[.int .i64 a1_0, .int .i64 0, .int .i64 15] ?_; (with_reducible refine (Bs_Within.calls a1_0 0 15 false _ A10.out).mono ?_); rintro e w' ⟨rfl, ⟨nd, rfl⟩⟩; refine ⟨_, rfl, ?_⟩))
      go_ret
      exact ez
end
section
def Rf_Sum.l0 : Nat → List Int → Int → Int → Option (Int)
 | 0, _, _, _ => none
 | k + 1, x0, x3, x4 => if x4 < (x0.length : Int) then (if 0 ≤ x4 then (Rf_Sum.l0 k x0 (wrap64 (x3 + (rd x0 x4))) (wrap64 (x4 + 1))) else (none)) else (some x3)
def Rf_Sum.f (k : Nat) (l0 : List Int) : Option (Int) := Rf_Sum.l0 k l0 0 0
theorem Rf_Sum.mono_l : ∀ k, (∀ y0 y1 y2, LeO (Rf_Sum.l0 k y0 y1 y2) (Rf_Sum.l0 (k + 1) y0 y1 y2))
 | 0 => fun _ _ _ r h => by simp [Rf_Sum.l0] at h
 | k + 1 => by
  have ih0 := Rf_Sum.mono_l k
  ·intro y0 y1 y2
   unfold Rf_Sum.l0
   repeat' first
   | (with_reducible exact ih0 _ _ _)
   | (with_reducible exact LeO.refl _)
   | (with_reducible exact LeO.none _)
   | (with_reducible refine LeO.ite ?_ ?_)
   | (with_reducible refine LeO.bind ?_ (fun _ => ?_))
   | exact ih0 _ _ _
   | exact LeO.none _
   | refine LeO.ite ?_ ?_
   | refine LeO.bind ?_ (fun _ => ?_)
theorem Rf_Sum.mono : ∀ a0 k, LeO (Rf_Sum.f k a0) (Rf_Sum.f (k + 1) a0) := by
 intro a0 k
 have ih0 := Rf_Sum.mono_l k
 unfold Rf_Sum.f
 repeat' first
   | (with_reducible exact ih0 _ _ _)
   | (with_reducible exact LeO.refl _)
   | (with_reducible exact LeO.none _)
   | (with_reducible refine LeO.ite ?_ ?_)
   | (with_reducible refine LeO.bind ?_ (fun _ => ?_))
   | exact ih0 _ _ _
   | exact LeO.none _
   | refine LeO.ite ?_ ?_
   | refine LeO.bind ?_ (fun _ => ?_)
theorem Rf_Sum.calls (k : Nat) (A0 : Option Addr) (c0 : Nat) (l0 : List Int) (r : Int) (w : World) (hr0 : Kd.C (Kd.int .i64) w A0 l0.length l0) (hc0 : l0.length ≤ c0) (h : Rf_Sum.f k l0 = some r) :
  Calls Tryd.prog 39 #[.slice A0 l0.length c0] w fun e w' => e = .returned (.int .i64 r) ∧ Drawn0 w w' := by
 have HR0 := m0 hr0
 have HC0 := m0 hc0
 clear hr0 hc0
 have H : (Rf_Sum.l0 k l0 0 0) = some r := h
 clear h
 have H' := m0 H
 clear H
 go_enter Tryd.func39, Tryd.ntmps39
 go_wp2
 go_loopg [3, 4] k (fun kq v3 v4 w' => ∃ (x3_1 : Int) (x4_1 : Int), v3 = .int .i64 x3_1 ∧ v4 = .int .i64 x4_1 ∧ Aside0 (Rf_Sum.l0 kq l0 x3_1 x4_1 = some r) ∧ Aside0 (kq ≤ k) ∧ Drawn0 w w')
 case atStart => exact ⟨(0), (0), (by first | rfl | (simp; done) | (simp [*]; done)), (by first | rfl | (simp; done) | (simp [*]; done)), H', ⟨Nat.le_refl _⟩, by repeat (first | exact Drawn0.refl _ | apply Drawn0.step)⟩
 case round =>
  clear H'
  obtain ⟨x3_1, x4_1, rfl, rfl, HA, HK1, ⟨m1, rfl⟩⟩ := hrel
  cases gk with
  | zero => exact absurd HA.out (by simp [Rf_Sum.l0])
  | succ k1 =>
   have H := HA.out
   clear HA
   simp only [Rf_Sum.l0] at H
   by_cases c2 : x4_1 < (l0.length : Int)
   ·rw [if_pos c2] at H
    have c2b0 := decide_eq_true c2
    clear c2
    by_cases c3 : 0 ≤ x4_1
    ·rw [if_pos c3] at H
     have c3b0 := decide_eq_true c3
     clear c3
     have H' := m0 H
     clear H
     have p468 : 0 ≤ (x4_1 : Int) := of_decide_eq_true (by first | (with_reducible assumption) | assumption)
     have q468 : x4_1 < (l0.length : Int) := of_decide_eq_true (by first | (with_reducible assumption) | assumption)
     obtain ⟨ad468, e468, hx468_0⟩ := Kd.at_int HR0.out x4_1 p468 q468
     cases e468
     replace p468 := eq_true p468
     replace q468 := eq_true q468
     go_wp2
     go_roundg k1
     case measure => have := HK1.out; omega
     case rel => exact ⟨(wrap64 (x3_1 + (rd l0 x4_1))), (wrap64 (x4_1 + 1)), (by first | rfl | (simp; done) | (simp [*]; done)), (by first | rfl | (simp; done) | (simp [*]; done)), H', ⟨by have := HK1.out; omega⟩, by repeat (first | exact Drawn0.refl _ | apply Drawn0.step)⟩
    ·rw [if_neg c3] at H
     exact absurd H (by simp)
   ·rw [if_neg c2] at H
    have c2b0 := decide_eq_false c2
    clear c2
    obtain rfl := Option.some.inj H
    go_wp2
    go_ret
    exact ⟨by first | rfl | (simp; done) | (simp [*]; done), by repeat (first | exact Drawn0.refl _ | apply Drawn0.step)⟩
end
section
mutual
def Rf_Hard.l0 : Nat → List (List Int) → List Int → Int → Int → Int → Int → Int → Option (List Int)
  | 0, _, _, _, _, _, _, _ => none
  | k + 1, x0, x5, x6, x1381000, x1381001, x1381002, x1381003 => if x6 < (x0.length : Int) then (Rf_Hard.l1 k x0 x5 x6 0 0 x1381000 x1381001 x1381002 x1381003) else (some x5)
def Rf_Hard.l1 : Nat → List (List Int) → List Int → Int → Int → Int → Int → Int → Int → Int → Option (List Int)
  | 0, _, _, _, _, _, _, _, _, _ => none
  | k + 1, x0, x5, x6, x7, x8, x1381000, x1381001, x1381002, x1381003 => if 0 ≤ x6 then (if x6 < (x0.length : Int) then (if x8 < ((rd_L1 x0 x6).length : Int) then ((Bs_Within.f x8 (wrap64 (x1381000 - x1381001)) (wrap64 (x1381000 + x1381001))).bind fun t1382 => (if t1382 = true then (if 0 ≤ x8 then (Rf_Hard.l1 k x0 x5 x6 (wrap64 (x7 + (rd (rd_L1 x0 x6) x8))) (wrap64 (x8 + 1)) x1381000 x1381001 x1381002 x1381003) else (none)) else (Rf_Hard.l1 k x0 x5 x6 x7 (wrap64 (x8 + 1)) x1381000 x1381001 x1381002 x1381003))) else (if x7 ≥ x1381002 then ((Rf_Sum.f k (rd_L1 x0 x6)).bind fun t1386 => (if (wrap64 (100 * x7)) ≥ (wrap64 (x1381003 * t1386)) then (if x5.length < 17592186044416 then (Rf_Hard.l0 k x0 (x5 ++ [x6]) (wrap64 (x6 + 1)) x1381000 x1381001 x1381002 x1381003) else (none)) else (Rf_Hard.l0 k x0 x5 (wrap64 (x6 + 1)) x1381000 x1381001 x1381002 x1381003))) else (Rf_Hard.l0 k x0 x5 (wrap64 (x6 + 1)) x1381000 x1381001 x1381002 x1381003))) else (none)) else (none)
end
def Rf_Hard.f (k : Nat) (l0 : List (List Int)) (a1_0 : Int) (a1_1 : Int) (a1_2 : Int) (a1_3 : Int) : Option (List Int) := Rf_Hard.l0 k l0 ([] : List Int) 0 a1_0 a1_1 a1_2 a1_3
theorem Rf_Hard.mono_l : ∀ k, (∀ y0 y1 y2 y3 y4 y5 y6, LeO (Rf_Hard.l0 k y0 y1 y2 y3 y4 y5 y6) (Rf_Hard.l0 (k + 1) y0 y1 y2 y3 y4 y5 y6)) ∧ (∀ y0 y1 y2 y3 y4 y5 y6 y7 y8, LeO (Rf_Hard.l1 k y0 y1 y2 y3 y4 y5 y6 y7 y8) (Rf_Hard.l1 (k + 1) y0 y1 y2 y3 y4 y5 y6 y7 y8))
  | 0 => ⟨fun _ _ _ _ _ _ _ r h => by simp [Rf_Hard.l0] at h, fun _ _ _ _ _ _ _ _ _ r h => by simp [Rf_Hard.l1] at h⟩
  | k + 1 => by
    obtain ⟨ih0, ih1⟩ := Rf_Hard.mono_l k
    refine ⟨?_, ?_⟩
    · intro y0 y1 y2 y3 y4 y5 y6
      unfold Rf_Hard.l0
      repeat' first
      | (with_reducible exact ih0 _ _ _ _ _ _ _)
      | (with_reducible exact ih1 _ _ _ _ _ _ _ _ _)
      | (with_reducible exact Rf_Sum.mono _ _)
      | (with_reducible exact LeO.refl _)
      | (with_reducible exact LeO.none _)
      | (with_reducible refine LeO.ite ?_ ?_)
      | (with_reducible refine LeO.bind ?_ (fun _ => ?_))
      | exact ih0 _ _ _ _ _ _ _
      | exact ih1 _ _ _ _ _ _ _ _ _
      | exact Rf_Sum.mono _ _
      | exact LeO.none _
      | refine LeO.ite ?_ ?_
      | refine LeO.bind ?_ (fun _ => ?_)
    · intro y0 y1 y2 y3 y4 y5 y6 y7 y8
      unfold Rf_Hard.l1
      repeat' first
      | (with_reducible exact ih0 _ _ _ _ _ _ _)
      | (with_reducible exact ih1 _ _ _ _ _ _ _ _ _)
      | (with_reducible exact Rf_Sum.mono _ _)
      | (with_reducible exact LeO.refl _)
      | (with_reducible exact LeO.none _)
      | (with_reducible refine LeO.ite ?_ ?_)
      | (with_reducible refine LeO.bind ?_ (fun _ => ?_))
      | exact ih0 _ _ _ _ _ _ _
      | exact ih1 _ _ _ _ _ _ _ _ _
      | exact Rf_Sum.mono _ _
      | exact LeO.none _
      | refine LeO.ite ?_ ?_
      | refine LeO.bind ?_ (fun _ => ?_)
theorem Rf_Hard.mono : ∀ a0 a1 a2 a3 a4 k, LeO (Rf_Hard.f k a0 a1 a2 a3 a4) (Rf_Hard.f (k + 1) a0 a1 a2 a3 a4) := by
  intro a0 a1 a2 a3 a4 k
  obtain ⟨ih0, ih1⟩ := Rf_Hard.mono_l k
  unfold Rf_Hard.f
  repeat' first
      | (with_reducible exact ih0 _ _ _ _ _ _ _)
      | (with_reducible exact ih1 _ _ _ _ _ _ _ _ _)
      | (with_reducible exact Rf_Sum.mono _ _)
      | (with_reducible exact LeO.refl _)
      | (with_reducible exact LeO.none _)
      | (with_reducible refine LeO.ite ?_ ?_)
      | (with_reducible refine LeO.bind ?_ (fun _ => ?_))
      | exact ih0 _ _ _ _ _ _ _
      | exact ih1 _ _ _ _ _ _ _ _ _
      | exact Rf_Sum.mono _ _
      | exact LeO.none _
      | refine LeO.ite ?_ ?_
      | refine LeO.bind ?_ (fun _ => ?_)
theorem Rf_Hard.calls (k : Nat) (A0 : Option Addr) (c0 : Nat) (l0 : List (List Int)) (a1_0 : Int) (a1_1 : Int) (a1_2 : Int) (a1_3 : Int) (r : List Int) (w : World) (hr0 : Kd.C (Kd.slice 3 (Kd.int .i64)) w A0 l0.length l0) (hc0 : l0.length ≤ c0) (h : Rf_Hard.f k l0 a1_0 a1_1 a1_2 a1_3 = some r) :
    Calls Tryd.prog 74 #[.slice A0 l0.length c0, .agg #[.int .i64 a1_0, .int .i64 a1_1, .int .i64 a1_2, .int .i64 a1_3]] w fun e w' => ∃ v0_ : Value, e = .returned (v0_) ∧ Kd.R (Kd.int .i64) 3 w' w.heap.size (fun _ => True) v0_ r ∧ Below w.heap.size w w' := by
  have hu94 := Tryd.underlying94
  have HR0 := m0 hr0
  have HC0 := m0 hc0
  clear hr0 hc0
  have HB := m0 (Below.refl w.heap.size w)
  have H : (Rf_Hard.l0 k l0 ([] : List Int) 0 a1_0 a1_1 a1_2 a1_3) = some r := h
  clear h
  have H' := m0 H
  clear H
  go_enter Tryd.func74, Tryd.ntmps74
  go_wp2_with (first | ((with_reducible refine gate_dst (N := 3) rfl ?_); refine be 3 94 #[.int .i64 a1_0, .int .i64 a1_1, .int .i64 a1_2, .int .i64 a1_3] ?_; intro gb1380 hg w3 hbox hb; have BK1380 := m0 hbox; have GW1380 := m0 (bg (n := w.heap.size) hg); have GE1380 := m0 (bg (n := w.heap.size) hg); replace HB := sb HB hb; clear hb hbox hg))
  repeat (go_quiet (first | ((with_reducible refine gate_dst (N := 3) rfl ?_); refine be 3 94 #[.int .i64 a1_0, .int .i64 a1_1, .int .i64 a1_2, .int .i64 a1_3] ?_; intro gb1380 hg w3 hbox hb; have BK1380 := m0 hbox; have GW1380 := m0 (bg (n := w.heap.size) hg); have GE1380 := m0 (bg (n := w.heap.size) hg); replace HB := sb HB hb; clear hb hbox hg)); try go_wp2_with (first | ((with_reducible refine gate_dst (N := 3) rfl ?_); refine be 3 94 #[.int .i64 a1_0, .int .i64 a1_1, .int .i64 a1_2, .int .i64 a1_3] ?_; intro gb1380 hg w3 hbox hb; have BK1380 := m0 hbox; have GW1380 := m0 (bg (n := w.heap.size) hg); have GE1380 := m0 (bg (n := w.heap.size) hg); replace HB := sb HB hb; clear hb hbox hg)))
  go_loopg [5, 6] k (fun kq v5 v6 w' => ∃ (x5_1 : List Int) (x6_1 : Int), v6 = .int .i64 x6_1 ∧ Aside0 (Rf_Hard.l0 kq l0 x5_1 x6_1 a1_0 a1_1 a1_2 a1_3 = some r) ∧ Aside0 (kq ≤ k) ∧ Aside0 (Kd.R (Kd.int .i64) 3 w' w.heap.size (fun _ => True) v5 x5_1) ∧ Aside0 (w'.heap[gb1380]? = some (.cells #[.int .i64 a1_0, .int .i64 a1_1, .int .i64 a1_2, .int .i64 a1_3] 94 (0, 0))) ∧ Aside0 (Below w.heap.size w w'))
  case atStart => exact ⟨(([] : List Int)), (0), (by first | rfl | (simp; done) | (simp [*]; done)), H', ⟨Nat.le_refl _⟩, ⟨by first | exact Kd.R_nil _ _ _ _ _ | exact Kd.N_nil _ _ _ _ _ | exact Kd.V_nil _ _ _ _ _ | exact Kd.Q_nil _ _ _ _ _ | exact Kd.S_nil _ _ _ _ _⟩, ⟨bk BK1380.out⟩, ⟨bz⟩⟩
  case round =>
    clear H'
    try clear p2
    obtain ⟨x5_1, x6_1, rfl, HA, HK1, HO_5, BK1380, HB⟩ := hrel
    cases gk with
    | zero => exact absurd HA.out (by simp [Rf_Hard.l0])
    | succ k1 =>
      have H := HA.out
      clear HA
      simp only [Rf_Hard.l0] at H
      by_cases c4 : x6_1 < (l0.length : Int)
      · rw [if_pos c4] at H
        have c4b0 := decide_eq_true c4
        clear c4
        have H' := m0 H
        clear H
        go_wp2
        repeat (go_quiet (fail); try go_wp2)
        go_loopg [7, 8] k1 (fun kq v7 v8 w' => ∃ (x7_2 : Int) (x8_2 : Int), v7 = .int .i64 x7_2 ∧ v8 = .int .i64 x8_2 ∧ Aside0 (Rf_Hard.l1 kq l0 x5_1 x6_1 x7_2 x8_2 a1_0 a1_1 a1_2 a1_3 = some r) ∧ Aside0 (kq ≤ k1) ∧ Aside0 (Kd.R (Kd.int .i64) 3 w' w.heap.size (fun _ => True) u5 x5_1) ∧ Aside0 (w'.heap[gb1380]? = some (.cells #[.int .i64 a1_0, .int .i64 a1_1, .int .i64 a1_2, .int .i64 a1_3] 94 (0, 0))) ∧ Aside0 (Below w.heap.size w w'))
        case atStart => exact ⟨(0), (0), (by first | rfl | (simp; done) | (simp [*]; done)), (by first | rfl | (simp; done) | (simp [*]; done)), H', ⟨Nat.le_refl _⟩, ⟨br HO_5.out⟩, ⟨bk BK1380.out⟩, ⟨bz⟩⟩
        case round =>
          clear H'
          try clear p2
          try clear c4
          try clear c4b0
          try clear p2
          obtain ⟨x7_2, x8_2, rfl, rfl, HA, HK2, HO_5, BK1380, HB⟩ := hrel
          cases gk with
          | zero => exact absurd HA.out (by simp [Rf_Hard.l1])
          | succ k2 =>
            have H := HA.out
            clear HA
            simp only [Rf_Hard.l1] at H
            by_cases c5 : 0 ≤ x6_1
            · rw [if_pos c5] at H
              have c5b0 := decide_eq_true c5
              clear c5
              by_cases c6 : x6_1 < (l0.length : Int)
              · rw [if_pos c6] at H
                have c6b0 := decide_eq_true c6
                clear c6
                by_cases c7 : x8_2 < ((rd_L1 l0 x6_1).length : Int)
                · rw [if_pos c7] at H
                  have c7b0 := decide_eq_true c7
                  clear c7
                  replace H := ob H
                  obtain ⟨t1382, A80, H⟩ := H
                  (try dsimp only at H)
                  have A8 := m0 A80
                  clear A80
                  by_cases c9 : t1382 = true
                  · subst c9
                    rw [if_pos rfl] at H
                    by_cases c10 : 0 ≤ x8_2
                    · rw [if_pos c10] at H
                      have c10b0 := decide_eq_true c10
                      clear c10
                      have H' := m0 H
                      clear H
                      have p1381 : 0 ≤ (x6_1 : Int) := of_decide_eq_true (by first | (with_reducible assumption) | assumption)
                      have q1381 : x6_1 < (l0.length : Int) := of_decide_eq_true (by first | (with_reducible assumption) | assumption)
                      obtain ⟨ad1381, A1381_0, c1381_0, e1381, hx1381_0, hl1381_0, hi1381_0⟩ := at_L1 HR0.out x6_1 p1381 q1381
                      cases e1381
                      replace hx1381_0 := (HB.out.cell (World.block_lt_of_cell? w _ hx1381_0)).trans hx1381_0
                      have HR1381_0 := m0 hi1381_0
                      have HC1381_0 := m0 hl1381_0
                      clear hi1381_0 hl1381_0
                      replace p1381 := eq_true p1381
                      replace q1381 := eq_true q1381
                      obtain ⟨_, _, _, _, _, _, _, _⟩ := b4 BK1380
                      go_wp2_with (first | (go_at_call 31; (with_reducible refine (Bs_Within.calls x8_2 (wrap64 (a1_0 - a1_1)) (wrap64 (a1_0 + a1_1)) true _ A8.out).mono ?_); rintro e w' ⟨rfl, ⟨nd, rfl⟩⟩; (try first | exact ⟨rfl, _, World.drewN_drewN _ _ _⟩ | exact ⟨rfl, _, Eq.trans (World.drewN_drewN _ _ _) (congrArg (World.drewN _) (Nat.add_assoc _ _ _))⟩); have p1383 : 0 ≤ (x6_1 : Int) := of_decide_eq_true (by first | (with_reducible assumption) | assumption); have q1383 : x6_1 < (l0.length : Int) := of_decide_eq_true (by first | (with_reducible assumption) | assumption); obtain ⟨ad1383, A1383_0, c1383_0, e1383, hx1383_0, hl1383_0, hi1383_0⟩ := at_L1 HR0.out x6_1 p1383 q1383; obtain rfl : ad1381 = ad1383 := (by injection e1383); replace hx1383_0 := (HB.out.cell (World.block_lt_of_cell? w _ hx1383_0)).trans hx1383_0; have HR1383_0 := m0 hi1383_0; have HC1383_0 := m0 hl1383_0; clear hi1383_0 hl1383_0; replace p1383 := eq_true p1383; replace q1383 := eq_true q1383; have ea_ := Option.some.inj (hx1381_0.symm.trans hx1383_0); injection ea_ with ea_ en_ ec_; subst ea_; subst ec_; clear en_; have p1384 : 0 ≤ (x8_2 : Int) := of_decide_eq_true (by first | (with_reducible assumption) | assumption); have q1384 : x8_2 < ((rd_L1 l0 x6_1).length : Int) := of_decide_eq_true (by first | (with_reducible assumption) | assumption); obtain ⟨ad1384, e1384, hx1384_0⟩ := Kd.at_int HR1383_0.out x8_2 p1384 q1384; cases e1384; replace hx1384_0 := (HB.out.cell (World.block_lt_of_cell? w _ hx1384_0)).trans hx1384_0; replace p1384 := eq_true p1384; replace q1384 := eq_true q1384))
                      repeat (go_quiet (first | (go_at_call 31; (with_reducible refine (Bs_Within.calls x8_2 (wrap64 (a1_0 - a1_1)) (wrap64 (a1_0 + a1_1)) true _ A8.out).mono ?_); rintro e w' ⟨rfl, ⟨nd, rfl⟩⟩; (try first | exact ⟨rfl, _, World.drewN_drewN _ _ _⟩ | exact ⟨rfl, _, Eq.trans (World.drewN_drewN _ _ _) (congrArg (World.drewN _) (Nat.add_assoc _ _ _))⟩); have p1383 : 0 ≤ (x6_1 : Int) := of_decide_eq_true (by first | (with_reducible assumption) | assumption); have q1383 : x6_1 < (l0.length : Int) := of_decide_eq_true (by first | (with_reducible assumption) | assumption); obtain ⟨ad1383, A1383_0, c1383_0, e1383, hx1383_0, hl1383_0, hi1383_0⟩ := at_L1 HR0.out x6_1 p1383 q1383; obtain rfl : ad1381 = ad1383 := (by injection e1383); replace hx1383_0 := (HB.out.cell (World.block_lt_of_cell? w _ hx1383_0)).trans hx1383_0; have HR1383_0 := m0 hi1383_0; have HC1383_0 := m0 hl1383_0; clear hi1383_0 hl1383_0; replace p1383 := eq_true p1383; replace q1383 := eq_true q1383; have ea_ := Option.some.inj (hx1381_0.symm.trans hx1383_0); injection ea_ with ea_ en_ ec_; subst ea_; subst ec_; clear en_; have p1384 : 0 ≤ (x8_2 : Int) := of_decide_eq_true (by first | (with_reducible assumption) | assumption); have q1384 : x8_2 < ((rd_L1 l0 x6_1).length : Int) := of_decide_eq_true (by first | (with_reducible assumption) | assumption); obtain ⟨ad1384, e1384, hx1384_0⟩ := Kd.at_int HR1383_0.out x8_2 p1384 q1384; cases e1384; replace hx1384_0 := (HB.out.cell (World.block_lt_of_cell? w _ hx1384_0)).trans hx1384_0; replace p1384 := eq_true p1384; replace q1384 := eq_true q1384)); try go_wp2_with (first | (go_at_call 31; (with_reducible refine (Bs_Within.calls x8_2 (wrap64 (a1_0 - a1_1)) (wrap64 (a1_0 + a1_1)) true _ A8.out).mono ?_); rintro e w' ⟨rfl, ⟨nd, rfl⟩⟩; (try first | exact ⟨rfl, _, World.drewN_drewN _ _ _⟩ | exact ⟨rfl, _, Eq.trans (World.drewN_drewN _ _ _) (congrArg (World.drewN _) (Nat.add_assoc _ _ _))⟩); have p1383 : 0 ≤ (x6_1 : Int) := of_decide_eq_true (by first | (with_reducible assumption) | assumption); have q1383 : x6_1 < (l0.length : Int) := of_decide_eq_true (by first | (with_reducible assumption) | assumption); obtain ⟨ad1383, A1383_0, c1383_0, e1383, hx1383_0, hl1383_0, hi1383_0⟩ := at_L1 HR0.out x6_1 p1383 q1383; obtain rfl : ad1381 = ad1383 := (by injection e1383); replace hx1383_0 := (HB.out.cell (World.block_lt_of_cell? w _ hx1383_0)).trans hx1383_0; have HR1383_0 := m0 hi1383_0; have HC1383_0 := m0 hl1383_0; clear hi1383_0 hl1383_0; replace p1383 := eq_true p1383; replace q1383 := eq_true q1383; have ea_ := Option.some.inj (hx1381_0.symm.trans hx1383_0); injection ea_ with ea_ en_ ec_; subst ea_; subst ec_; clear en_; have p1384 : 0 ≤ (x8_2 : Int) := of_decide_eq_true (by first | (with_reducible assumption) | assumption); have q1384 : x8_2 < ((rd_L1 l0 x6_1).length : Int) := of_decide_eq_true (by first | (with_reducible assumption) | assumption); obtain ⟨ad1384, e1384, hx1384_0⟩ := Kd.at_int HR1383_0.out x8_2 p1384 q1384; cases e1384; replace hx1384_0 := (HB.out.cell (World.block_lt_of_cell? w _ hx1384_0)).trans hx1384_0; replace p1384 := eq_true p1384; replace q1384 := eq_true q1384)))
                      go_roundg k2
                      case measure => have := HK1.out; have := HK2.out; omega
                      case rel => exact ⟨(wrap64 (x7_2 + (rd (rd_L1 l0 x6_1) x8_2))), (wrap64 (x8_2 + 1)), (by first | rfl | (simp; done) | (simp [*]; done)), (by first | rfl | (simp; done) | (simp [*]; done)), H', ⟨by have := HK1.out; have := HK2.out; omega⟩, ⟨br HO_5.out⟩, ⟨bk BK1380.out⟩, ⟨bz⟩⟩
                    · rw [if_neg c10] at H
                      exact absurd H (by simp)
                  · replace c9 := Bool.eq_false_iff.mpr c9
                    subst c9
                    rw [if_neg (show ¬ (false = true) by decide)] at H
                    have H' := m0 H
                    clear H
                    have p1381 : 0 ≤ (x6_1 : Int) := of_decide_eq_true (by first | (with_reducible assumption) | assumption)
                    have q1381 : x6_1 < (l0.length : Int) := of_decide_eq_true (by first | (with_reducible assumption) | assumption)
                    obtain ⟨ad1381, A1381_0, c1381_0, e1381, hx1381_0, hl1381_0, hi1381_0⟩ := at_L1 HR0.out x6_1 p1381 q1381
                    cases e1381
                    replace hx1381_0 := (HB.out.cell (World.block_lt_of_cell? w _ hx1381_0)).trans hx1381_0
                    have HR1381_0 := m0 hi1381_0
                    have HC1381_0 := m0 hl1381_0
                    clear hi1381_0 hl1381_0
                    replace p1381 := eq_true p1381
                    replace q1381 := eq_true q1381
                    obtain ⟨_, _, _, _, _, _, _, _⟩ := b4 BK1380
                    go_wp2_with (first | (go_at_call 31; (with_reducible refine (Bs_Within.calls x8_2 (wrap64 (a1_0 - a1_1)) (wrap64 (a1_0 + a1_1)) false _ A8.out).mono ?_); rintro e w' ⟨rfl, ⟨nd, rfl⟩⟩; (try first | exact ⟨rfl, _, World.drewN_drewN _ _ _⟩ | exact ⟨rfl, _, Eq.trans (World.drewN_drewN _ _ _) (congrArg (World.drewN _) (Nat.add_assoc _ _ _))⟩)))
                    repeat (go_quiet (first | (go_at_call 31; (with_reducible refine (Bs_Within.calls x8_2 (wrap64 (a1_0 - a1_1)) (wrap64 (a1_0 + a1_1)) false _ A8.out).mono ?_); rintro e w' ⟨rfl, ⟨nd, rfl⟩⟩; (try first | exact ⟨rfl, _, World.drewN_drewN _ _ _⟩ | exact ⟨rfl, _, Eq.trans (World.drewN_drewN _ _ _) (congrArg (World.drewN _) (Nat.add_assoc _ _ _))⟩))); try go_wp2_with (first | (go_at_call 31; (with_reducible refine (Bs_Within.calls x8_2 (wrap64 (a1_0 - a1_1)) (wrap64 (a1_0 + a1_1)) false _ A8.out).mono ?_); rintro e w' ⟨rfl, ⟨nd, rfl⟩⟩; (try first | exact ⟨rfl, _, World.drewN_drewN _ _ _⟩ | exact ⟨rfl, _, Eq.trans (World.drewN_drewN _ _ _) (congrArg (World.drewN _) (Nat.add_assoc _ _ _))⟩))))
                    go_roundg k2
                    case measure => have := HK1.out; have := HK2.out; omega
                    case rel => exact ⟨(x7_2), (wrap64 (x8_2 + 1)), (by first | rfl | (simp; done) | (simp [*]; done)), (by first | rfl | (simp; done) | (simp [*]; done)), H', ⟨by have := HK1.out; have := HK2.out; omega⟩, ⟨br HO_5.out⟩, ⟨bk BK1380.out⟩, ⟨bz⟩⟩
                · rw [if_neg c7] at H
                  have c7b0 := decide_eq_false c7
                  clear c7
                  by_cases c13 : x7_2 ≥ a1_2
                  · rw [if_pos c13] at H
                    have c13b0 := decide_eq_true c13
                    clear c13
                    replace H := ob H
                    obtain ⟨t1386, A140, H⟩ := H
                    (try dsimp only at H)
                    have A14 := m0 A140
                    clear A140
                    by_cases c15 : (wrap64 (100 * x7_2)) ≥ (wrap64 (a1_3 * t1386))
                    · rw [if_pos c15] at H
                      have c15b0 := decide_eq_true c15
                      clear c15
                      by_cases c16 : x5_1.length < 17592186044416
                      · rw [if_pos c16] at H
                        have LMc16 := m0 c16
                        clear c16
                        obtain ⟨y1387, hy1387⟩ : ∃ y_ : List Int, y_ = (x5_1 ++ [x6_1]) := ⟨_, rfl⟩
                        replace H : (Rf_Hard.l0 k2 l0 y1387 (wrap64 (x6_1 + 1)) a1_0 a1_1 a1_2 a1_3) = some r := by first | (rw [hy1387]; with_reducible exact H) | (have H2_ := (Option.bind_some _ _).symm.trans H; rw [hy1387]; with_reducible exact H2_) | (have H2_ := (Option.bind_some _ _).symm.trans H; with_reducible exact H2_) | with_reducible exact H | (rw [hy1387]; exact H) | exact H
                        have Ny1387 := m0 hy1387
                        clear hy1387
                        have H' := m0 H
                        clear H
                        have p1381 : 0 ≤ (x6_1 : Int) := of_decide_eq_true (by first | (with_reducible assumption) | assumption)
                        have q1381 : x6_1 < (l0.length : Int) := of_decide_eq_true (by first | (with_reducible assumption) | assumption)
                        obtain ⟨ad1381, A1381_0, c1381_0, e1381, hx1381_0, hl1381_0, hi1381_0⟩ := at_L1 HR0.out x6_1 p1381 q1381
                        cases e1381
                        replace hx1381_0 := (HB.out.cell (World.block_lt_of_cell? w _ hx1381_0)).trans hx1381_0
                        have HR1381_0 := m0 hi1381_0
                        have HC1381_0 := m0 hl1381_0
                        clear hi1381_0 hl1381_0
                        replace p1381 := eq_true p1381
                        replace q1381 := eq_true q1381
                        obtain ⟨_, _, _, _, _, _, _, _⟩ := b4 BK1380
                        have p1385 : 0 ≤ (x6_1 : Int) := of_decide_eq_true (by first | (with_reducible assumption) | assumption)
                        have q1385 : x6_1 < (l0.length : Int) := of_decide_eq_true (by first | (with_reducible assumption) | assumption)
                        obtain ⟨ad1385, A1385_0, c1385_0, e1385, hx1385_0, hl1385_0, hi1385_0⟩ := at_L1 HR0.out x6_1 p1385 q1385
                        obtain rfl : ad1381 = ad1385 := (by injection e1385)
                        replace hx1385_0 := (HB.out.cell (World.block_lt_of_cell? w _ hx1385_0)).trans hx1385_0
                        have HR1385_0 := m0 hi1385_0
                        have HC1385_0 := m0 hl1385_0
                        clear hi1385_0 hl1385_0
                        replace p1385 := eq_true p1385
                        replace q1385 := eq_true q1385
                        have ea_ := Option.some.inj (hx1381_0.symm.trans hx1385_0)
                        injection ea_ with ea_ en_ ec_
                        subst ea_
                        subst ec_
                        clear en_
                        go_wp2_with (first | (go_at_call 39; (with_reducible refine (Rf_Sum.calls k2 _ _ (rd_L1 l0 x6_1) t1386 _ ?side1 ?side2 A14.out).mono ?_); (case side1 => exact cb HR1385_0 HB); (case side2 => exact HC1385_0.out); rintro e w' ⟨rfl, ⟨nd, rfl⟩⟩; (try first | exact ⟨rfl, _, World.drewN_drewN _ _ _⟩ | exact ⟨rfl, _, Eq.trans (World.drewN_drewN _ _ _) (congrArg (World.drewN _) (Nat.add_assoc _ _ _))⟩)) | ((with_reducible refine gate_builtin (b := .append) (xs := #[.tmp 62, .tmp 64]) rfl ?_); at_builtin; refine Kd.R_append (Kd.int .i64) (w0 := w) w.heap.size rfl (.tmp 62) (.tmp 64) 22 3 (.int .i64 0) 8 rfl Tryd.underlying22 info3 rfl (by decide) (by omega) u5 x5_1 x6_1 [.int .i64 x6_1] (fun _ => True) (fun _ => False) rfl rfl ?aP (fun _ hk => hk.elim) ?aF ?aO ?aB ?aS ?aL ?_; (case aP => exact rfl); (case aB => exact bz); (case aF => exact (fun _ _ => trivial)); (case aO => exact (br HO_5.out)); (case aS => exact (below_size bz)); (case aL => have := LMc16.out; omega); intro v1388 w18 ho hb hg hat; rw [← Ny1387.out] at ho; have n0_ := m0 (blk_grown (g := gb1380) (o := .cells #[.int .i64 a1_0, .int .i64 a1_1, .int .i64 a1_2, .int .i64 a1_3] 94 (0, 0)) (bk BK1380.out) hg (Kd.R_ne HO_5.out BK1380.out (by decide))); have n1_ := m0 (hb); have n2_ := m0 (ho); clear BK1380; clear HB; clear HO_5; have BK1380 := n0_; have HB := n1_; have HO1389 := n2_; clear n0_ n1_ n2_; clear ho hb hg hat))
                        repeat (go_quiet (first | (go_at_call 39; (with_reducible refine (Rf_Sum.calls k2 _ _ (rd_L1 l0 x6_1) t1386 _ ?side1 ?side2 A14.out).mono ?_); (case side1 => exact cb HR1385_0 HB); (case side2 => exact HC1385_0.out); rintro e w' ⟨rfl, ⟨nd, rfl⟩⟩; (try first | exact ⟨rfl, _, World.drewN_drewN _ _ _⟩ | exact ⟨rfl, _, Eq.trans (World.drewN_drewN _ _ _) (congrArg (World.drewN _) (Nat.add_assoc _ _ _))⟩)) | ((with_reducible refine gate_builtin (b := .append) (xs := #[.tmp 62, .tmp 64]) rfl ?_); at_builtin; refine Kd.R_append (Kd.int .i64) (w0 := w) w.heap.size rfl (.tmp 62) (.tmp 64) 22 3 (.int .i64 0) 8 rfl Tryd.underlying22 info3 rfl (by decide) (by omega) u5 x5_1 x6_1 [.int .i64 x6_1] (fun _ => True) (fun _ => False) rfl rfl ?aP (fun _ hk => hk.elim) ?aF ?aO ?aB ?aS ?aL ?_; (case aP => exact rfl); (case aB => exact bz); (case aF => exact (fun _ _ => trivial)); (case aO => exact (br HO_5.out)); (case aS => exact (below_size bz)); (case aL => have := LMc16.out; omega); intro v1388 w18 ho hb hg hat; rw [← Ny1387.out] at ho; have n0_ := m0 (blk_grown (g := gb1380) (o := .cells #[.int .i64 a1_0, .int .i64 a1_1, .int .i64 a1_2, .int .i64 a1_3] 94 (0, 0)) (bk BK1380.out) hg (Kd.R_ne HO_5.out BK1380.out (by decide))); have n1_ := m0 (hb); have n2_ := m0 (ho); clear BK1380; clear HB; clear HO_5; have BK1380 := n0_; have HB := n1_; have HO1389 := n2_; clear n0_ n1_ n2_; clear ho hb hg hat)); try go_wp2_with (first | (go_at_call 39; (with_reducible refine (Rf_Sum.calls k2 _ _ (rd_L1 l0 x6_1) t1386 _ ?side1 ?side2 A14.out).mono ?_); (case side1 => exact cb HR1385_0 HB); (case side2 => exact HC1385_0.out); rintro e w' ⟨rfl, ⟨nd, rfl⟩⟩; (try first | exact ⟨rfl, _, World.drewN_drewN _ _ _⟩ | exact ⟨rfl, _, Eq.trans (World.drewN_drewN _ _ _) (congrArg (World.drewN _) (Nat.add_assoc _ _ _))⟩)) | ((with_reducible refine gate_builtin (b := .append) (xs := #[.tmp 62, .tmp 64]) rfl ?_); at_builtin; refine Kd.R_append (Kd.int .i64) (w0 := w) w.heap.size rfl (.tmp 62) (.tmp 64) 22 3 (.int .i64 0) 8 rfl Tryd.underlying22 info3 rfl (by decide) (by omega) u5 x5_1 x6_1 [.int .i64 x6_1] (fun _ => True) (fun _ => False) rfl rfl ?aP (fun _ hk => hk.elim) ?aF ?aO ?aB ?aS ?aL ?_; (case aP => exact rfl); (case aB => exact bz); (case aF => exact (fun _ _ => trivial)); (case aO => exact (br HO_5.out)); (case aS => exact (below_size bz)); (case aL => have := LMc16.out; omega); intro v1388 w18 ho hb hg hat; rw [← Ny1387.out] at ho; have n0_ := m0 (blk_grown (g := gb1380) (o := .cells #[.int .i64 a1_0, .int .i64 a1_1, .int .i64 a1_2, .int .i64 a1_3] 94 (0, 0)) (bk BK1380.out) hg (Kd.R_ne HO_5.out BK1380.out (by decide))); have n1_ := m0 (hb); have n2_ := m0 (ho); clear BK1380; clear HB; clear HO_5; have BK1380 := n0_; have HB := n1_; have HO1389 := n2_; clear n0_ n1_ n2_; clear ho hb hg hat)))
                        go_roundg k2
                        case measure => have := HK1.out; have := HK2.out; omega
                        case rel => exact ⟨(y1387), (wrap64 (x6_1 + 1)), (by first | rfl | (simp; done) | (simp [*]; done)), H', ⟨by have := HK1.out; have := HK2.out; omega⟩, ⟨br HO1389.out⟩, ⟨bk BK1380.out⟩, ⟨bz⟩⟩
                      · rw [if_neg c16] at H
                        exact absurd H (by simp)
                    · rw [if_neg c15] at H
                      have c15b0 := decide_eq_false c15
                      clear c15
                      have H' := m0 H
                      clear H
                      have p1381 : 0 ≤ (x6_1 : Int) := of_decide_eq_true (by first | (with_reducible assumption) | assumption)
                      have q1381 : x6_1 < (l0.length : Int) := of_decide_eq_true (by first | (with_reducible assumption) | assumption)
                      obtain ⟨ad1381, A1381_0, c1381_0, e1381, hx1381_0, hl1381_0, hi1381_0⟩ := at_L1 HR0.out x6_1 p1381 q1381
                      cases e1381
                      replace hx1381_0 := (HB.out.cell (World.block_lt_of_cell? w _ hx1381_0)).trans hx1381_0
                      have HR1381_0 := m0 hi1381_0
                      have HC1381_0 := m0 hl1381_0
                      clear hi1381_0 hl1381_0
                      replace p1381 := eq_true p1381
                      replace q1381 := eq_true q1381
                      obtain ⟨_, _, _, _, _, _, _, _⟩ := b4 BK1380
                      have p1385 : 0 ≤ (x6_1 : Int) := of_decide_eq_true (by first | (with_reducible assumption) | assumption)
                      have q1385 : x6_1 < (l0.length : Int) := of_decide_eq_true (by first | (with_reducible assumption) | assumption)
                      obtain ⟨ad1385, A1385_0, c1385_0, e1385, hx1385_0, hl1385_0, hi1385_0⟩ := at_L1 HR0.out x6_1 p1385 q1385
                      obtain rfl : ad1381 = ad1385 := (by injection e1385)
                      replace hx1385_0 := (HB.out.cell (World.block_lt_of_cell? w _ hx1385_0)).trans hx1385_0
                      have HR1385_0 := m0 hi1385_0
                      have HC1385_0 := m0 hl1385_0
                      clear hi1385_0 hl1385_0
                      replace p1385 := eq_true p1385
                      replace q1385 := eq_true q1385
                      have ea_ := Option.some.inj (hx1381_0.symm.trans hx1385_0)
                      injection ea_ with ea_ en_ ec_
                      subst ea_
                      subst ec_
                      clear en_
                      go_wp2_with (first | (go_at_call 39; (with_reducible refine (Rf_Sum.calls k2 _ _ (rd_L1 l0 x6_1) t1386 _ ?side1 ?side2 A14.out).mono ?_); (case side1 => exact cb HR1385_0 HB); (case side2 => exact HC1385_0.out); rintro e w' ⟨rfl, ⟨nd, rfl⟩⟩; (try first | exact ⟨rfl, _, World.drewN_drewN _ _ _⟩ | exact ⟨rfl, _, Eq.trans (World.drewN_drewN _ _ _) (congrArg (World.drewN _) (Nat.add_assoc _ _ _))⟩)))
                      repeat (go_quiet (first | (go_at_call 39; (with_reducible refine (Rf_Sum.calls k2 _ _ (rd_L1 l0 x6_1) t1386 _ ?side1 ?side2 A14.out).mono ?_); (case side1 => exact cb HR1385_0 HB); (case side2 => exact HC1385_0.out); rintro e w' ⟨rfl, ⟨nd, rfl⟩⟩; (try first | exact ⟨rfl, _, World.drewN_drewN _ _ _⟩ | exact ⟨rfl, _, Eq.trans (World.drewN_drewN _ _ _) (congrArg (World.drewN _) (Nat.add_assoc _ _ _))⟩))); try go_wp2_with (first | (go_at_call 39; (with_reducible refine (Rf_Sum.calls k2 _ _ (rd_L1 l0 x6_1) t1386 _ ?side1 ?side2 A14.out).mono ?_); (case side1 => exact cb HR1385_0 HB); (case side2 => exact HC1385_0.out); rintro e w' ⟨rfl, ⟨nd, rfl⟩⟩; (try first | exact ⟨rfl, _, World.drewN_drewN _ _ _⟩ | exact ⟨rfl, _, Eq.trans (World.drewN_drewN _ _ _) (congrArg (World.drewN _) (Nat.add_assoc _ _ _))⟩))))
                      go_roundg k2
                      case measure => have := HK1.out; have := HK2.out; omega
                      case rel => exact ⟨(x5_1), (wrap64 (x6_1 + 1)), (by first | rfl | (simp; done) | (simp [*]; done)), H', ⟨by have := HK1.out; have := HK2.out; omega⟩, ⟨br HO_5.out⟩, ⟨bk BK1380.out⟩, ⟨bz⟩⟩
                  · rw [if_neg c13] at H
                    have c13b0 := decide_eq_false c13
                    clear c13
                    have H' := m0 H
                    clear H
                    have p1381 : 0 ≤ (x6_1 : Int) := of_decide_eq_true (by first | (with_reducible assumption) | assumption)
                    have q1381 : x6_1 < (l0.length : Int) := of_decide_eq_true (by first | (with_reducible assumption) | assumption)
                    obtain ⟨ad1381, A1381_0, c1381_0, e1381, hx1381_0, hl1381_0, hi1381_0⟩ := at_L1 HR0.out x6_1 p1381 q1381
                    cases e1381
                    replace hx1381_0 := (HB.out.cell (World.block_lt_of_cell? w _ hx1381_0)).trans hx1381_0
                    have HR1381_0 := m0 hi1381_0
                    have HC1381_0 := m0 hl1381_0
                    clear hi1381_0 hl1381_0
                    replace p1381 := eq_true p1381
                    replace q1381 := eq_true q1381
                    obtain ⟨_, _, _, _, _, _, _, _⟩ := b4 BK1380
                    go_wp2
                    repeat (go_quiet (fail); try go_wp2)
                    go_roundg k2
                    case measure => have := HK1.out; have := HK2.out; omega
                    case rel => exact ⟨(x5_1), (wrap64 (x6_1 + 1)), (by first | rfl | (simp; done) | (simp [*]; done)), H', ⟨by have := HK1.out; have := HK2.out; omega⟩, ⟨br HO_5.out⟩, ⟨bk BK1380.out⟩, ⟨bz⟩⟩
              · rw [if_neg c6] at H
                exact absurd H (by simp)
            · rw [if_neg c5] at H
              exact absurd H (by simp)
      · rw [if_neg c4] at H
        have c4b0 := decide_eq_false c4
        clear c4
        obtain rfl := Option.some.inj H
        go_wp2
        repeat (go_quiet (fail); try go_wp2)
        go_ret
        exact ⟨_, by first | rfl | (simp [errW_none, errW_some] <;> rfl) | (simp [*, errW_none, errW_some] <;> rfl), by (with_reducible repeat (first | apply Kd.R_alloc | apply Kd.R_drewN | apply Kd.R_drew)); exact HO_5.out, by repeat (first | (with_reducible first | exact HB.out | apply below_alloc | apply pw_below_drewN | apply below_drew1 | refine below_set ?_ GE1380.out) | exact HB.out)⟩
end
end Go.Proofs.YtjnkphmcndaijaaDoor.A
