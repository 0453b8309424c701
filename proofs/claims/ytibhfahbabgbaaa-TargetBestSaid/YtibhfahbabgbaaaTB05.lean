/- Walks of the program's functions (printed, made shorter), each with what it computes. -/
import Derived.Test.YtibhfahbabgbaaaB05
import Derived.Test.YtibhfahbabgbaaaB04
namespace Go.Proofs.Ytibhfahbabgbaaa.A
set_option maxHeartbeats 8000000
set_option maxRecDepth 100000
open Go.RowKit Go.Proofs.YtibhfahbabgbaaaW.PrintWords Go.Proofs.YtibhfahbabgbaaaW.PrintLast Go.Proofs.YtibhfahbabgbaaaW.PrintMore
attribute [local go_sem] max2_int min2_int max_two min_two max_three min_three max_four min_four
set_option linter.unusedVariables false
set_option linter.unusedSimpArgs false
def Rf_CheckLine.l0 : Nat → List (S85) → Int → Int → Int → Int → Int → Int → Option (Int × Int)
 | 0, _, _, _, _, _, _, _ => none
 | k + 1, x0, x6, x7, x8, x1051000, x1051001, x1051002 => if x8 < (x0.length : Int) then (if 0 ≤ x8 then (Rf_CheckLine.l0 k x0 (wrap64 (x6 + (wrap64 ((wrap64 ((wrap64 (x1051002 * ((rd_T85 x0 x8).f1))) - (wrap64 (x1051000 * ((rd_T85 x0 x8).f0))))) - x1051001)))) (wrap64 (x7 + (wrap64 ((wrap64 ((wrap64 ((wrap64 (x1051002 * ((rd_T85 x0 x8).f1))) - (wrap64 (x1051000 * ((rd_T85 x0 x8).f0))))) - x1051001)) * ((rd_T85 x0 x8).f0))))) (wrap64 (x8 + 1)) x1051000 x1051001 x1051002) else (none)) else (if x6 = 0 then (if x7 = 0 then (some (0, 0)) else (some (1, 17))) else (some (0, 17)))
def Rf_CheckLine.f (k : Nat) (l0 : List (S85)) (a1_0 : Int) (a1_1 : Int) (a1_2 : Int) : Option (Int × Int) := Rf_CheckLine.l0 k l0 0 0 0 a1_0 a1_1 a1_2
theorem Rf_CheckLine.mono_l : ∀ k, (∀ y0 y1 y2 y3 y4 y5 y6, LeO (Rf_CheckLine.l0 k y0 y1 y2 y3 y4 y5 y6) (Rf_CheckLine.l0 (k + 1) y0 y1 y2 y3 y4 y5 y6))
 | 0 => fun _ _ _ _ _ _ _ r h => by simp [Rf_CheckLine.l0] at h
 | k + 1 => by
  have ih0 := Rf_CheckLine.mono_l k
  ·intro y0 y1 y2 y3 y4 y5 y6
   unfold Rf_CheckLine.l0
   repeat' with_reducible first
    | exact ih0 ..
    | exact LeO.refl ..
    | exact LeO.none ..
    | refine LeO.ite ?_ ?_
    | refine LeO.bind ?_ (fun _ => ?_)
theorem Rf_CheckLine.mono : ∀ a0 a1 a2 a3 k, LeO (Rf_CheckLine.f k a0 a1 a2 a3) (Rf_CheckLine.f (k + 1) a0 a1 a2 a3) := by
 intro a0 a1 a2 a3 k
 have ih0 := Rf_CheckLine.mono_l k
 unfold Rf_CheckLine.f
 repeat' with_reducible first
  | exact ih0 ..
  | exact LeO.refl ..
  | exact LeO.none ..
  | refine LeO.ite ?_ ?_
  | refine LeO.bind ?_ (fun _ => ?_)
theorem Rf_CheckLine.calls (k : Nat) (A0 : Option Addr) (c0 : Nat) (l0 : List (S85)) (a1_0 : Int) (a1_1 : Int) (a1_2 : Int) (r1 : Int) (r2 : Int) (w : World) (hr0 : Kd.C k85 w A0 l0.length l0) (hc0 : l0.length ≤ c0) (h : Rf_CheckLine.f k l0 a1_0 a1_1 a1_2 = some (r1, r2)) :
  Calls Try.prog 45 #[.slice A0 l0.length c0, .agg #[.int .i64 a1_0, .int .i64 a1_1, .int .i64 a1_2]] w fun e w' => e = .returned (.tuple #[.int .i64 r1, .int .i64 r2]) ∧ Below w.heap.size w w' := by
 have hu56 := Try.underlying56
 have HR0 := m0 hr0
 have HC0 := m0 hc0
 clear hr0 hc0
 have HB := m0 (Below.refl w.heap.size w)
 have H : (Rf_CheckLine.l0 k l0 0 0 0 a1_0 a1_1 a1_2) = some (r1, r2) := h
 clear h
 have H' := m0 H
 clear H
 go_enter Try.func45, Try.ntmps45
 go_wp2_with (first | ((with_reducible refine gate_dst (N := 3) rfl ?_); refine be 3 56 #[.int .i64 a1_0, .int .i64 a1_1, .int .i64 a1_2] ?_; intro gb1050 hg w3 hbox hb; have BK1050 := m0 hbox; have GE1050 := gw w hg; replace HB := sb HB hb; clear hb hbox hg))
 repeat (go_quiet (first | ((with_reducible refine gate_dst (N := 3) rfl ?_); refine be 3 56 #[.int .i64 a1_0, .int .i64 a1_1, .int .i64 a1_2] ?_; intro gb1050 hg w3 hbox hb; have BK1050 := m0 hbox; have GE1050 := gw w hg; replace HB := sb HB hb; clear hb hbox hg)); try go_wp2_with (first | ((with_reducible refine gate_dst (N := 3) rfl ?_); refine be 3 56 #[.int .i64 a1_0, .int .i64 a1_1, .int .i64 a1_2] ?_; intro gb1050 hg w3 hbox hb; have BK1050 := m0 hbox; have GE1050 := gw w hg; replace HB := sb HB hb; clear hb hbox hg)))
 go_loopg [6, 7, 8] k (fun kq v6 v7 v8 w' => ∃ (x6_1 : Int) (x7_1 : Int) (x8_1 : Int), v6 = .int .i64 x6_1 ∧ v7 = .int .i64 x7_1 ∧ v8 = .int .i64 x8_1 ∧ Aside0 (Rf_CheckLine.l0 kq l0 x6_1 x7_1 x8_1 a1_0 a1_1 a1_2 = some (r1, r2)) ∧ Aside0 (kq ≤ k) ∧ Aside0 (w'.heap[gb1050]? = some (.cells #[.int .i64 a1_0, .int .i64 a1_1, .int .i64 a1_2] 56 (0, 0))) ∧ Aside0 (Below w.heap.size w w'))
 case atStart => exact ⟨(0), (0), (0), (by first | rfl | (simp; done) | (simp [*]; done)), (by first | rfl | (simp; done) | (simp [*]; done)), (by first | rfl | (simp; done) | (simp [*]; done)), H', ⟨Nat.le_refl _⟩, ⟨bk BK1050.out⟩, ⟨bz⟩⟩
 case round =>
  clear H'
  obtain ⟨x6_1, x7_1, x8_1, rfl, rfl, rfl, HA, HK1, BK1050, HB⟩ := hrel
  cases gk with
  | zero => exact absurd HA.out (by simp [Rf_CheckLine.l0])
  | succ k1 =>
   have H := HA.out
   clear HA
   simp only [Rf_CheckLine.l0] at H
   by_cases c4 : x8_1 < (l0.length : Int)
   ·rw [if_pos c4] at H
    have c4b0 := decide_eq_true c4
    clear c4
    by_cases c5 : 0 ≤ x8_1
    ·rw [if_pos c5] at H
     have c5b0 := decide_eq_true c5
     clear c5
     have H' := m0 H
     clear H
     obtain ⟨_, _, _, _, _, _⟩ := b3 BK1050
     have p1051 : 0 ≤ (x8_1 : Int) := od
     have q1051 : x8_1 < (l0.length : Int) := od
     obtain ⟨ad1051, e1051, hx1051_0, hx1051_1, hx1051_2⟩ := at_T85 HR0.out x8_1 p1051 q1051
     cases e1051
     replace hx1051_0 := (HB.out.cell (World.block_lt_of_cell? w _ hx1051_0)).trans hx1051_0
     replace hx1051_1 := (HB.out.cell (World.block_lt_of_cell? w _ hx1051_1)).trans hx1051_1
     replace hx1051_2 := (HB.out.cell (World.block_lt_of_cell? w _ hx1051_2)).trans hx1051_2
     replace p1051 := eq_true p1051
     replace q1051 := eq_true q1051
     have p1052 : 0 ≤ (x8_1 : Int) := od
     have q1052 : x8_1 < (l0.length : Int) := od
     obtain ⟨ad1052, e1052, hx1052_0, hx1052_1, hx1052_2⟩ := at_T85 HR0.out x8_1 p1052 q1052
     obtain rfl : ad1051 = ad1052 := (by injection e1052)
     replace hx1052_0 := (HB.out.cell (World.block_lt_of_cell? w _ hx1052_0)).trans hx1052_0
     replace hx1052_1 := (HB.out.cell (World.block_lt_of_cell? w _ hx1052_1)).trans hx1052_1
     replace hx1052_2 := (HB.out.cell (World.block_lt_of_cell? w _ hx1052_2)).trans hx1052_2
     replace p1052 := eq_true p1052
     replace q1052 := eq_true q1052
     have p1053 : 0 ≤ (x8_1 : Int) := od
     have q1053 : x8_1 < (l0.length : Int) := od
     obtain ⟨ad1053, e1053, hx1053_0, hx1053_1, hx1053_2⟩ := at_T85 HR0.out x8_1 p1053 q1053
     obtain rfl : ad1051 = ad1053 := (by injection e1053)
     replace hx1053_0 := (HB.out.cell (World.block_lt_of_cell? w _ hx1053_0)).trans hx1053_0
     replace hx1053_1 := (HB.out.cell (World.block_lt_of_cell? w _ hx1053_1)).trans hx1053_1
     replace hx1053_2 := (HB.out.cell (World.block_lt_of_cell? w _ hx1053_2)).trans hx1053_2
     replace p1053 := eq_true p1053
     replace q1053 := eq_true q1053
     go_wp2
     repeat (go_quiet (fail); try go_wp2)
     go_roundg k1
     case measure => have := HK1.out; omega
     case rel => exact ⟨(wrap64 (x6_1 + (wrap64 ((wrap64 ((wrap64 (a1_2 * ((rd_T85 l0 x8_1).f1))) - (wrap64 (a1_0 * ((rd_T85 l0 x8_1).f0))))) - a1_1)))), (wrap64 (x7_1 + (wrap64 ((wrap64 ((wrap64 ((wrap64 (a1_2 * ((rd_T85 l0 x8_1).f1))) - (wrap64 (a1_0 * ((rd_T85 l0 x8_1).f0))))) - a1_1)) * ((rd_T85 l0 x8_1).f0))))), (wrap64 (x8_1 + 1)), (by first | rfl | (simp; done) | (simp [*]; done)), (by first | rfl | (simp; done) | (simp [*]; done)), (by first | rfl | (simp; done) | (simp [*]; done)), H', ⟨by have := HK1.out; omega⟩, ⟨bk BK1050.out⟩, ⟨bz⟩⟩
    ·rw [if_neg c5] at H
     exact absurd H (by simp)
   ·rw [if_neg c4] at H
    have c4b0 := decide_eq_false c4
    clear c4
    by_cases c7 : x6_1 = 0
    ·rw [if_pos c7] at H
     have c7b0 := beq_iff_eq.mpr c7
     have c7b1 := bne_eq_false_iff_eq.mpr c7
     clear c7
     by_cases c8 : x7_1 = 0
     ·rw [if_pos c8] at H
      have c8b0 := beq_iff_eq.mpr c8
      have c8b1 := bne_eq_false_iff_eq.mpr c8
      clear c8
      simp only [Option.some.injEq, Prod.mk.injEq] at H
      obtain ⟨rfl, rfl⟩ := H
      go_wp2
      repeat (go_quiet (fail); try go_wp2)
      go_ret2
      exact ez
     ·rw [if_neg c8] at H
      have c8b0 := beq_eq_false_iff_ne.mpr c8
      have c8b1 := bne_iff_ne.mpr c8
      simp only [Option.some.injEq, Prod.mk.injEq] at H
      obtain ⟨rfl, rfl⟩ := H
      go_wp2
      repeat (go_quiet (fail); try go_wp2)
      go_ret2
      exact ez
    ·rw [if_neg c7] at H
     have c7b0 := beq_eq_false_iff_ne.mpr c7
     have c7b1 := bne_iff_ne.mpr c7
     simp only [Option.some.injEq, Prod.mk.injEq] at H
     obtain ⟨rfl, rfl⟩ := H
     go_wp2
     repeat (go_quiet (fail); try go_wp2)
     go_ret2
     exact ez
end Go.Proofs.Ytibhfahbabgbaaa.A
