/- Walks of the program's functions (printed, made shorter), each with what it computes. -/
import Derived.Test.YtibhfahbabgbaaaB05
import Derived.Test.YtibhfahbabgbaaaB07
import Derived.Test.YtibhfahbabgbaaaB04
namespace Go.Proofs.Ytibhfahbabgbaaa.A
set_option maxHeartbeats 8000000
set_option maxRecDepth 100000
open Go.RowKit Go.Proofs.YtibhfahbabgbaaaW.PrintWords Go.Proofs.YtibhfahbabgbaaaW.PrintLast Go.Proofs.YtibhfahbabgbaaaW.PrintMore
attribute [local go_sem] max2_int min2_int max_two min_two max_three min_three max_four min_four
set_option linter.unusedVariables false
set_option linter.unusedSimpArgs false
section
def L_LackOf.l0 : Nat → List (S42) → Int → List Int → Int → List Int → Int → Int → Option (Int × Int × Int)
 | 0, _, _, _, _, _, _, _ => none
 | k + 1, x0, x1, x7, x9, x23, x24, x25 => if x25 < x24 then (if 0 ≤ x25 then (if x25 < (x23.length : Int) then (if 0 ≤ (rd x23 x25) then (if (rd x23 x25) < (x0.length : Int) then (if (wrap64 (x25 + 1)) = (x7.length : Int) then (if (wrap64 ((wrap64 (x9 + ((rd_T42 x0 (rd x23 x25)).f2))) - (wrap64 (((rd_T42 x0 (rd x23 x25)).f1) * x1)))) > 0 then (some ((rd_T42 x0 (rd x23 x25)).f1, wrap64 ((wrap64 (x9 + ((rd_T42 x0 (rd x23 x25)).f2))) - (wrap64 (((rd_T42 x0 (rd x23 x25)).f1) * x1))), 0)) else (L_LackOf.l0 k x0 x1 x7 (wrap64 (x9 + ((rd_T42 x0 (rd x23 x25)).f2))) x23 x24 (wrap64 (x25 + 1)))) else (if 0 ≤ (wrap64 (x25 + 1)) then (if (wrap64 (x25 + 1)) < (x7.length : Int) then (if 0 ≤ (rd x7 (wrap64 (x25 + 1))) then (if (rd x7 (wrap64 (x25 + 1))) < (x0.length : Int) then (if ((rd_T42 x0 (rd x7 (wrap64 (x25 + 1)))).f1) > ((rd_T42 x0 (rd x23 x25)).f1) then (if (wrap64 ((wrap64 (x9 + ((rd_T42 x0 (rd x23 x25)).f2))) - (wrap64 (((rd_T42 x0 (rd x23 x25)).f1) * x1)))) > 0 then (some ((rd_T42 x0 (rd x23 x25)).f1, wrap64 ((wrap64 (x9 + ((rd_T42 x0 (rd x23 x25)).f2))) - (wrap64 (((rd_T42 x0 (rd x23 x25)).f1) * x1))), 0)) else (L_LackOf.l0 k x0 x1 x7 (wrap64 (x9 + ((rd_T42 x0 (rd x23 x25)).f2))) x23 x24 (wrap64 (x25 + 1)))) else (L_LackOf.l0 k x0 x1 x7 (wrap64 (x9 + ((rd_T42 x0 (rd x23 x25)).f2))) x23 x24 (wrap64 (x25 + 1)))) else (none)) else (none)) else (none)) else (none))) else (none)) else (none)) else (none)) else (none)) else (some (0, 0, 12))
def L_LackOf.f (k : Nat) (l0 : List (S42)) (a1 : Int) : Option (Int × Int × Int) := (L_queue.f k l0 a1).bind fun bt114 => (if bt114.2 = 0 then (L_LackOf.l0 k l0 a1 bt114.1 0 bt114.1 (bt114.1.length : Int) 0) else (some (0, 0, bt114.2)))
theorem L_LackOf.mono_l : ∀ k, (∀ y0 y1 y2 y3 y4 y5 y6, LeO (L_LackOf.l0 k y0 y1 y2 y3 y4 y5 y6) (L_LackOf.l0 (k + 1) y0 y1 y2 y3 y4 y5 y6))
 | 0 => fun _ _ _ _ _ _ _ r h => by simp [L_LackOf.l0] at h
 | k + 1 => by
  have ih0 := L_LackOf.mono_l k
  ·intro y0 y1 y2 y3 y4 y5 y6
   unfold L_LackOf.l0
   repeat' with_reducible first
    | exact ih0 ..
    | exact L_queue.mono ..
    | exact LeO.refl ..
    | exact LeO.none ..
    | refine LeO.ite ?_ ?_
    | refine LeO.bind ?_ (fun _ => ?_)
theorem L_LackOf.mono : ∀ a0 a1 k, LeO (L_LackOf.f k a0 a1) (L_LackOf.f (k + 1) a0 a1) := by
 intro a0 a1 k
 have ih0 := L_LackOf.mono_l k
 unfold L_LackOf.f
 repeat' with_reducible first
  | exact ih0 ..
  | exact L_queue.mono ..
  | exact LeO.refl ..
  | exact LeO.none ..
  | refine LeO.ite ?_ ?_
  | refine LeO.bind ?_ (fun _ => ?_)
theorem L_LackOf.calls (k : Nat) (A0 : Option Addr) (c0 : Nat) (l0 : List (S42)) (a1 : Int) (r1 : Int) (r2 : Int) (r3 : Int) (w : World) (hr0 : Kd.C k42 w A0 l0.length l0) (hc0 : l0.length ≤ c0) (h : L_LackOf.f k l0 a1 = some (r1, r2, r3)) :
  Calls Try.prog 18 #[.slice A0 l0.length c0, .int .i64 a1] w fun e w' => e = .returned (.tuple #[.int .i64 r1, .int .i64 r2, .int .i64 r3]) ∧ Below w.heap.size w w' := by
 have HR0 := m0 hr0
 have HC0 := m0 hc0
 clear hr0 hc0
 have HB := m0 (Below.refl w.heap.size w)
 have H : ((L_queue.f k l0 a1).bind fun bt114 => (if bt114.2 = 0 then (L_LackOf.l0 k l0 a1 bt114.1 0 bt114.1 (bt114.1.length : Int) 0) else (some (0, 0, bt114.2)))) = some (r1, r2, r3) := h
 clear h
 replace H := ob H
 obtain ⟨⟨t114, t115⟩, A3, H⟩ := H
 (try dsimp only at H)
 replace A3 := m0 A3
 by_cases c4 : t115 = 0
 ·rw [if_pos c4] at H
  have c4b0 := beq_iff_eq.mpr c4
  have c4b1 := bne_eq_false_iff_eq.mpr c4
  clear c4
  have H' := m0 H
  clear H
  go_enter Try.func18, Try.ntmps18
  go_wp2_with (first | (go_at_call 79; (with_reducible refine (L_queue.calls k _ _ l0 a1 t114 t115 _ ?side1 ?side2 A3.out).mono ?_); (case side1 => repeat (first | exact HR0.out | (with_reducible refine Kd.C_alloc ?_ _) | (with_reducible refine Kd.C_drewN ?_ _) | (with_reducible refine Kd.C_drew ?_))); (case side2 => exact HC0.out); rintro e w5 ⟨v116, rfl, ho0, hb⟩; have HO117 := m0 (Kd.R_lower ho0 (below_size bz)); replace HB := sb HB hb; (try clear hb); (try clear ho0); obtain ⟨Ao6, co6, eo6⟩ := Kd.R_slice HO117.out; subst eo6))
  repeat (go_quiet (first | (go_at_call 79; (with_reducible refine (L_queue.calls k _ _ l0 a1 t114 t115 _ ?side1 ?side2 A3.out).mono ?_); (case side1 => repeat (first | exact HR0.out | (with_reducible refine Kd.C_alloc ?_ _) | (with_reducible refine Kd.C_drewN ?_ _) | (with_reducible refine Kd.C_drew ?_))); (case side2 => exact HC0.out); rintro e w5 ⟨v116, rfl, ho0, hb⟩; have HO117 := m0 (Kd.R_lower ho0 (below_size bz)); replace HB := sb HB hb; (try clear hb); (try clear ho0); obtain ⟨Ao6, co6, eo6⟩ := Kd.R_slice HO117.out; subst eo6)); try go_wp2_with (first | (go_at_call 79; (with_reducible refine (L_queue.calls k _ _ l0 a1 t114 t115 _ ?side1 ?side2 A3.out).mono ?_); (case side1 => repeat (first | exact HR0.out | (with_reducible refine Kd.C_alloc ?_ _) | (with_reducible refine Kd.C_drewN ?_ _) | (with_reducible refine Kd.C_drew ?_))); (case side2 => exact HC0.out); rintro e w5 ⟨v116, rfl, ho0, hb⟩; have HO117 := m0 (Kd.R_lower ho0 (below_size bz)); replace HB := sb HB hb; (try clear hb); (try clear ho0); obtain ⟨Ao6, co6, eo6⟩ := Kd.R_slice HO117.out; subst eo6)))
  go_loopg [9, 25] k (fun kq v9 v25 w' => ∃ (x9_1 : Int) (x25_1 : Int), v9 = .int .i64 x9_1 ∧ v25 = .int .i64 x25_1 ∧ Aside0 (L_LackOf.l0 kq l0 a1 t114 x9_1 t114 (t114.length : Int) x25_1 = some (r1, r2, r3)) ∧ Aside0 (kq ≤ k) ∧ Aside0 (Kd.R (Kd.int .i64) 3 w' w.heap.size (fun _ => True) (.slice Ao6 t114.length co6) t114) ∧ Aside0 (Kd.R (Kd.int .i64) 3 w' w.heap.size (fun _ => True) (.slice Ao6 t114.length co6) t114) ∧ Aside0 (Below w.heap.size w w'))
  case atStart => exact ⟨(0), (0), (by first | rfl | (simp; done) | (simp [*]; done)), (by first | rfl | (simp; done) | (simp [*]; done)), H', ⟨Nat.le_refl _⟩, ⟨br HO117.out⟩, ⟨br HO117.out⟩, ⟨bz⟩⟩
  case round =>
   clear H'
   obtain ⟨x9_1, x25_1, rfl, rfl, HA, HK1, HO_7, HO_23, HB⟩ := hrel
   cases gk with
   | zero => exact absurd HA.out (by simp [L_LackOf.l0])
   | succ k1 =>
    have H := HA.out
    clear HA
    simp only [L_LackOf.l0] at H
    by_cases c7 : x25_1 < (t114.length : Int)
    ·rw [if_pos c7] at H
     have c7b0 := decide_eq_true c7
     clear c7
     by_cases c8 : 0 ≤ x25_1
     ·rw [if_pos c8] at H
      have c8b0 := decide_eq_true c8
      clear c8
      by_cases c9 : x25_1 < (t114.length : Int)
      ·rw [if_pos c9] at H
       have c9b0 := decide_eq_true c9
       clear c9
       by_cases c10 : 0 ≤ (rd t114 x25_1)
       ·rw [if_pos c10] at H
        have c10b0 := decide_eq_true c10
        clear c10
        by_cases c11 : (rd t114 x25_1) < (l0.length : Int)
        ·rw [if_pos c11] at H
         have c11b0 := decide_eq_true c11
         clear c11
         by_cases c12 : (wrap64 (x25_1 + 1)) = (t114.length : Int)
         ·rw [if_pos c12] at H
          have c12b0 := beq_iff_eq.mpr c12
          have c12b1 := bne_eq_false_iff_eq.mpr c12
          clear c12
          by_cases c13 : (wrap64 ((wrap64 (x9_1 + ((rd_T42 l0 (rd t114 x25_1)).f2))) - (wrap64 (((rd_T42 l0 (rd t114 x25_1)).f1) * a1)))) > 0
          ·rw [if_pos c13] at H
           have c13b0 := decide_eq_true c13
           clear c13
           simp only [Option.some.injEq, Prod.mk.injEq] at H
           obtain ⟨rfl, rfl, rfl⟩ := H
           have p118 : 0 ≤ (x25_1 : Int) := od
           have q118 : x25_1 < (t114.length : Int) := od
           obtain ⟨ad118, e118, hx118_0⟩ := Kd.at_int (Kd.R_reads' HO_23.out).2.2 x25_1 p118 q118
           cases e118
           replace p118 := eq_true p118
           replace q118 := eq_true q118
           have p119 : 0 ≤ ((rd t114 x25_1) : Int) := od
           have q119 : (rd t114 x25_1) < (l0.length : Int) := od
           obtain ⟨ad119, e119, hx119_0, hx119_1, hx119_2⟩ := at_T42 HR0.out (rd t114 x25_1) p119 q119
           cases e119
           replace hx119_0 := (HB.out.cell (World.block_lt_of_cell? w _ hx119_0)).trans hx119_0
           replace hx119_1 := (HB.out.cell (World.block_lt_of_cell? w _ hx119_1)).trans hx119_1
           replace hx119_2 := (HB.out.cell (World.block_lt_of_cell? w _ hx119_2)).trans hx119_2
           replace p119 := eq_true p119
           replace q119 := eq_true q119
           have p120 : 0 ≤ ((rd t114 x25_1) : Int) := od
           have q120 : (rd t114 x25_1) < (l0.length : Int) := od
           obtain ⟨ad120, e120, hx120_0, hx120_1, hx120_2⟩ := at_T42 HR0.out (rd t114 x25_1) p120 q120
           obtain rfl : ad119 = ad120 := (by injection e120)
           replace hx120_0 := (HB.out.cell (World.block_lt_of_cell? w _ hx120_0)).trans hx120_0
           replace hx120_1 := (HB.out.cell (World.block_lt_of_cell? w _ hx120_1)).trans hx120_1
           replace hx120_2 := (HB.out.cell (World.block_lt_of_cell? w _ hx120_2)).trans hx120_2
           replace p120 := eq_true p120
           replace q120 := eq_true q120
           have p121 : 0 ≤ ((rd t114 x25_1) : Int) := od
           have q121 : (rd t114 x25_1) < (l0.length : Int) := od
           obtain ⟨ad121, e121, hx121_0, hx121_1, hx121_2⟩ := at_T42 HR0.out (rd t114 x25_1) p121 q121
           obtain rfl : ad119 = ad121 := (by injection e121)
           replace hx121_0 := (HB.out.cell (World.block_lt_of_cell? w _ hx121_0)).trans hx121_0
           replace hx121_1 := (HB.out.cell (World.block_lt_of_cell? w _ hx121_1)).trans hx121_1
           replace hx121_2 := (HB.out.cell (World.block_lt_of_cell? w _ hx121_2)).trans hx121_2
           replace p121 := eq_true p121
           replace q121 := eq_true q121
           go_wp2
           repeat (go_quiet (fail); try go_wp2)
           go_ret3
           exact ez
          ·rw [if_neg c13] at H
           have c13b0 := decide_eq_false c13
           clear c13
           have H' := m0 H
           clear H
           have p118 : 0 ≤ (x25_1 : Int) := od
           have q118 : x25_1 < (t114.length : Int) := od
           obtain ⟨ad118, e118, hx118_0⟩ := Kd.at_int (Kd.R_reads' HO_23.out).2.2 x25_1 p118 q118
           cases e118
           replace p118 := eq_true p118
           replace q118 := eq_true q118
           have p119 : 0 ≤ ((rd t114 x25_1) : Int) := od
           have q119 : (rd t114 x25_1) < (l0.length : Int) := od
           obtain ⟨ad119, e119, hx119_0, hx119_1, hx119_2⟩ := at_T42 HR0.out (rd t114 x25_1) p119 q119
           cases e119
           replace hx119_0 := (HB.out.cell (World.block_lt_of_cell? w _ hx119_0)).trans hx119_0
           replace hx119_1 := (HB.out.cell (World.block_lt_of_cell? w _ hx119_1)).trans hx119_1
           replace hx119_2 := (HB.out.cell (World.block_lt_of_cell? w _ hx119_2)).trans hx119_2
           replace p119 := eq_true p119
           replace q119 := eq_true q119
           have p120 : 0 ≤ ((rd t114 x25_1) : Int) := od
           have q120 : (rd t114 x25_1) < (l0.length : Int) := od
           obtain ⟨ad120, e120, hx120_0, hx120_1, hx120_2⟩ := at_T42 HR0.out (rd t114 x25_1) p120 q120
           obtain rfl : ad119 = ad120 := (by injection e120)
           replace hx120_0 := (HB.out.cell (World.block_lt_of_cell? w _ hx120_0)).trans hx120_0
           replace hx120_1 := (HB.out.cell (World.block_lt_of_cell? w _ hx120_1)).trans hx120_1
           replace hx120_2 := (HB.out.cell (World.block_lt_of_cell? w _ hx120_2)).trans hx120_2
           replace p120 := eq_true p120
           replace q120 := eq_true q120
           go_wp2
           repeat (go_quiet (fail); try go_wp2)
           go_roundg k1
           case measure => have := HK1.out; omega
           case rel => exact ⟨(wrap64 (x9_1 + ((rd_T42 l0 (rd t114 x25_1)).f2))), (wrap64 (x25_1 + 1)), (by first | rfl | (simp; done) | (simp [*]; done)), (by first | rfl | (simp; done) | (simp [*]; done)), H', ⟨by have := HK1.out; omega⟩, ⟨br HO_7.out⟩, ⟨br HO_23.out⟩, ⟨bz⟩⟩
         ·rw [if_neg c12] at H
          have c12b0 := beq_eq_false_iff_ne.mpr c12
          have c12b1 := bne_iff_ne.mpr c12
          obtain ⟨ji14, hji14⟩ : ∃ j_ : Int, (wrap64 (x25_1 + 1)) = j_ := ⟨_, rfl⟩
          replace H : (if 0 ≤ (ji14) then (if (ji14) < (t114.length : Int) then (if 0 ≤ (rd t114 (ji14)) then (if (rd t114 (ji14)) < (l0.length : Int) then (if ((rd_T42 l0 (rd t114 (ji14))).f1) > ((rd_T42 l0 (rd t114 x25_1)).f1) then (if (wrap64 ((wrap64 (x9_1 + ((rd_T42 l0 (rd t114 x25_1)).f2))) - (wrap64 (((rd_T42 l0 (rd t114 x25_1)).f1) * a1)))) > 0 then (some ((rd_T42 l0 (rd t114 x25_1)).f1, wrap64 ((wrap64 (x9_1 + ((rd_T42 l0 (rd t114 x25_1)).f2))) - (wrap64 (((rd_T42 l0 (rd t114 x25_1)).f1) * a1))), 0)) else (L_LackOf.l0 k1 l0 a1 t114 (wrap64 (x9_1 + ((rd_T42 l0 (rd t114 x25_1)).f2))) t114 (t114.length : Int) ji14)) else (L_LackOf.l0 k1 l0 a1 t114 (wrap64 (x9_1 + ((rd_T42 l0 (rd t114 x25_1)).f2))) t114 (t114.length : Int) ji14)) else (none)) else (none)) else (none)) else (none)) = some (r1, r2, r3) := by first | (rw [hji14] at H; exact H) | (simp only [hji14] at H ⊢; exact H)
          (try rw [hji14] at c12b0)
          (try rw [hji14] at c12b1)
          have hji14w : (IntKind.i64.wrap (x25_1 + 1)) = ji14 := (i64_w _).trans hji14
          by_cases c15 : 0 ≤ (ji14)
          ·rw [if_pos c15] at H
           have c15b0 := decide_eq_true c15
           clear c15
           by_cases c16 : (ji14) < (t114.length : Int)
           ·rw [if_pos c16] at H
            have c16b0 := decide_eq_true c16
            clear c16
            by_cases c17 : 0 ≤ (rd t114 (ji14))
            ·rw [if_pos c17] at H
             have c17b0 := decide_eq_true c17
             clear c17
             by_cases c18 : (rd t114 (ji14)) < (l0.length : Int)
             ·rw [if_pos c18] at H
              have c18b0 := decide_eq_true c18
              clear c18
              by_cases c19 : ((rd_T42 l0 (rd t114 (ji14))).f1) > ((rd_T42 l0 (rd t114 x25_1)).f1)
              ·rw [if_pos c19] at H
               have c19b0 := decide_eq_true c19
               clear c19
               by_cases c20 : (wrap64 ((wrap64 (x9_1 + ((rd_T42 l0 (rd t114 x25_1)).f2))) - (wrap64 (((rd_T42 l0 (rd t114 x25_1)).f1) * a1)))) > 0
               ·rw [if_pos c20] at H
                have c20b0 := decide_eq_true c20
                clear c20
                simp only [Option.some.injEq, Prod.mk.injEq] at H
                obtain ⟨rfl, rfl, rfl⟩ := H
                have p118 : 0 ≤ (x25_1 : Int) := od
                have q118 : x25_1 < (t114.length : Int) := od
                obtain ⟨ad118, e118, hx118_0⟩ := Kd.at_int (Kd.R_reads' HO_23.out).2.2 x25_1 p118 q118
                cases e118
                replace p118 := eq_true p118
                replace q118 := eq_true q118
                have p119 : 0 ≤ ((rd t114 x25_1) : Int) := od
                have q119 : (rd t114 x25_1) < (l0.length : Int) := od
                obtain ⟨ad119, e119, hx119_0, hx119_1, hx119_2⟩ := at_T42 HR0.out (rd t114 x25_1) p119 q119
                cases e119
                replace hx119_0 := (HB.out.cell (World.block_lt_of_cell? w _ hx119_0)).trans hx119_0
                replace hx119_1 := (HB.out.cell (World.block_lt_of_cell? w _ hx119_1)).trans hx119_1
                replace hx119_2 := (HB.out.cell (World.block_lt_of_cell? w _ hx119_2)).trans hx119_2
                replace p119 := eq_true p119
                replace q119 := eq_true q119
                have p122 : 0 ≤ ((ji14) : Int) := od
                have q122 : (ji14) < (t114.length : Int) := od
                obtain ⟨ad122, e122, hx122_0⟩ := Kd.at_int (Kd.R_reads' HO_7.out).2.2 (ji14) p122 q122
                obtain rfl : ad118 = ad122 := (by injection e122)
                replace p122 := eq_true p122
                replace q122 := eq_true q122
                have p123 : 0 ≤ ((rd t114 (ji14)) : Int) := od
                have q123 : (rd t114 (ji14)) < (l0.length : Int) := od
                obtain ⟨ad123, e123, hx123_0, hx123_1, hx123_2⟩ := at_T42 HR0.out (rd t114 (ji14)) p123 q123
                obtain rfl : ad119 = ad123 := (by injection e123)
                replace hx123_0 := (HB.out.cell (World.block_lt_of_cell? w _ hx123_0)).trans hx123_0
                replace hx123_1 := (HB.out.cell (World.block_lt_of_cell? w _ hx123_1)).trans hx123_1
                replace hx123_2 := (HB.out.cell (World.block_lt_of_cell? w _ hx123_2)).trans hx123_2
                replace p123 := eq_true p123
                replace q123 := eq_true q123
                have p124 : 0 ≤ ((rd t114 x25_1) : Int) := od
                have q124 : (rd t114 x25_1) < (l0.length : Int) := od
                obtain ⟨ad124, e124, hx124_0, hx124_1, hx124_2⟩ := at_T42 HR0.out (rd t114 x25_1) p124 q124
                obtain rfl : ad119 = ad124 := (by injection e124)
                replace hx124_0 := (HB.out.cell (World.block_lt_of_cell? w _ hx124_0)).trans hx124_0
                replace hx124_1 := (HB.out.cell (World.block_lt_of_cell? w _ hx124_1)).trans hx124_1
                replace hx124_2 := (HB.out.cell (World.block_lt_of_cell? w _ hx124_2)).trans hx124_2
                replace p124 := eq_true p124
                replace q124 := eq_true q124
                have p125 : 0 ≤ ((rd t114 x25_1) : Int) := od
                have q125 : (rd t114 x25_1) < (l0.length : Int) := od
                obtain ⟨ad125, e125, hx125_0, hx125_1, hx125_2⟩ := at_T42 HR0.out (rd t114 x25_1) p125 q125
                obtain rfl : ad119 = ad125 := (by injection e125)
                replace hx125_0 := (HB.out.cell (World.block_lt_of_cell? w _ hx125_0)).trans hx125_0
                replace hx125_1 := (HB.out.cell (World.block_lt_of_cell? w _ hx125_1)).trans hx125_1
                replace hx125_2 := (HB.out.cell (World.block_lt_of_cell? w _ hx125_2)).trans hx125_2
                replace p125 := eq_true p125
                replace q125 := eq_true q125
                have p126 : 0 ≤ ((rd t114 x25_1) : Int) := od
                have q126 : (rd t114 x25_1) < (l0.length : Int) := od
                obtain ⟨ad126, e126, hx126_0, hx126_1, hx126_2⟩ := at_T42 HR0.out (rd t114 x25_1) p126 q126
                obtain rfl : ad119 = ad126 := (by injection e126)
                replace hx126_0 := (HB.out.cell (World.block_lt_of_cell? w _ hx126_0)).trans hx126_0
                replace hx126_1 := (HB.out.cell (World.block_lt_of_cell? w _ hx126_1)).trans hx126_1
                replace hx126_2 := (HB.out.cell (World.block_lt_of_cell? w _ hx126_2)).trans hx126_2
                replace p126 := eq_true p126
                replace q126 := eq_true q126
                go_wp2
                repeat (go_quiet (fail); try go_wp2)
                go_ret3
                exact ⟨by first | rfl | (simp [errW_none, errW_some] <;> rfl) | (simp only [← hji14]; first | rfl | (simp [errW_none, errW_some] <;> rfl)) | (simp [*, errW_none, errW_some] <;> rfl), by repeat (first | (with_reducible first | exact HB.out | apply below_alloc | apply pw_below_drewN | apply below_drew1) | exact HB.out)⟩
               ·rw [if_neg c20] at H
                have c20b0 := decide_eq_false c20
                clear c20
                have H' := m0 H
                clear H
                have p118 : 0 ≤ (x25_1 : Int) := od
                have q118 : x25_1 < (t114.length : Int) := od
                obtain ⟨ad118, e118, hx118_0⟩ := Kd.at_int (Kd.R_reads' HO_23.out).2.2 x25_1 p118 q118
                cases e118
                replace p118 := eq_true p118
                replace q118 := eq_true q118
                have p119 : 0 ≤ ((rd t114 x25_1) : Int) := od
                have q119 : (rd t114 x25_1) < (l0.length : Int) := od
                obtain ⟨ad119, e119, hx119_0, hx119_1, hx119_2⟩ := at_T42 HR0.out (rd t114 x25_1) p119 q119
                cases e119
                replace hx119_0 := (HB.out.cell (World.block_lt_of_cell? w _ hx119_0)).trans hx119_0
                replace hx119_1 := (HB.out.cell (World.block_lt_of_cell? w _ hx119_1)).trans hx119_1
                replace hx119_2 := (HB.out.cell (World.block_lt_of_cell? w _ hx119_2)).trans hx119_2
                replace p119 := eq_true p119
                replace q119 := eq_true q119
                have p122 : 0 ≤ ((ji14) : Int) := od
                have q122 : (ji14) < (t114.length : Int) := od
                obtain ⟨ad122, e122, hx122_0⟩ := Kd.at_int (Kd.R_reads' HO_7.out).2.2 (ji14) p122 q122
                obtain rfl : ad118 = ad122 := (by injection e122)
                replace p122 := eq_true p122
                replace q122 := eq_true q122
                have p123 : 0 ≤ ((rd t114 (ji14)) : Int) := od
                have q123 : (rd t114 (ji14)) < (l0.length : Int) := od
                obtain ⟨ad123, e123, hx123_0, hx123_1, hx123_2⟩ := at_T42 HR0.out (rd t114 (ji14)) p123 q123
                obtain rfl : ad119 = ad123 := (by injection e123)
                replace hx123_0 := (HB.out.cell (World.block_lt_of_cell? w _ hx123_0)).trans hx123_0
                replace hx123_1 := (HB.out.cell (World.block_lt_of_cell? w _ hx123_1)).trans hx123_1
                replace hx123_2 := (HB.out.cell (World.block_lt_of_cell? w _ hx123_2)).trans hx123_2
                replace p123 := eq_true p123
                replace q123 := eq_true q123
                have p124 : 0 ≤ ((rd t114 x25_1) : Int) := od
                have q124 : (rd t114 x25_1) < (l0.length : Int) := od
                obtain ⟨ad124, e124, hx124_0, hx124_1, hx124_2⟩ := at_T42 HR0.out (rd t114 x25_1) p124 q124
                obtain rfl : ad119 = ad124 := (by injection e124)
                replace hx124_0 := (HB.out.cell (World.block_lt_of_cell? w _ hx124_0)).trans hx124_0
                replace hx124_1 := (HB.out.cell (World.block_lt_of_cell? w _ hx124_1)).trans hx124_1
                replace hx124_2 := (HB.out.cell (World.block_lt_of_cell? w _ hx124_2)).trans hx124_2
                replace p124 := eq_true p124
                replace q124 := eq_true q124
                have p125 : 0 ≤ ((rd t114 x25_1) : Int) := od
                have q125 : (rd t114 x25_1) < (l0.length : Int) := od
                obtain ⟨ad125, e125, hx125_0, hx125_1, hx125_2⟩ := at_T42 HR0.out (rd t114 x25_1) p125 q125
                obtain rfl : ad119 = ad125 := (by injection e125)
                replace hx125_0 := (HB.out.cell (World.block_lt_of_cell? w _ hx125_0)).trans hx125_0
                replace hx125_1 := (HB.out.cell (World.block_lt_of_cell? w _ hx125_1)).trans hx125_1
                replace hx125_2 := (HB.out.cell (World.block_lt_of_cell? w _ hx125_2)).trans hx125_2
                replace p125 := eq_true p125
                replace q125 := eq_true q125
                go_wp2
                repeat (go_quiet (fail); try go_wp2)
                go_roundg k1
                case measure => have := HK1.out; omega
                case rel => exact ⟨(wrap64 (x9_1 + ((rd_T42 l0 (rd t114 x25_1)).f2))), (ji14), (by first | rfl | (simp; done) | (simp [*]; done)), (by first | rfl | (simp; done) | (simp only [← hji14] <;> (first | rfl | simp)) | (simp [*]; done)), H', ⟨by have := HK1.out; omega⟩, ⟨br HO_7.out⟩, ⟨br HO_23.out⟩, ⟨bz⟩⟩
              ·rw [if_neg c19] at H
               have c19b0 := decide_eq_false c19
               clear c19
               have H' := m0 H
               clear H
               have p118 : 0 ≤ (x25_1 : Int) := od
               have q118 : x25_1 < (t114.length : Int) := od
               obtain ⟨ad118, e118, hx118_0⟩ := Kd.at_int (Kd.R_reads' HO_23.out).2.2 x25_1 p118 q118
               cases e118
               replace p118 := eq_true p118
               replace q118 := eq_true q118
               have p119 : 0 ≤ ((rd t114 x25_1) : Int) := od
               have q119 : (rd t114 x25_1) < (l0.length : Int) := od
               obtain ⟨ad119, e119, hx119_0, hx119_1, hx119_2⟩ := at_T42 HR0.out (rd t114 x25_1) p119 q119
               cases e119
               replace hx119_0 := (HB.out.cell (World.block_lt_of_cell? w _ hx119_0)).trans hx119_0
               replace hx119_1 := (HB.out.cell (World.block_lt_of_cell? w _ hx119_1)).trans hx119_1
               replace hx119_2 := (HB.out.cell (World.block_lt_of_cell? w _ hx119_2)).trans hx119_2
               replace p119 := eq_true p119
               replace q119 := eq_true q119
               have p122 : 0 ≤ ((ji14) : Int) := od
               have q122 : (ji14) < (t114.length : Int) := od
               obtain ⟨ad122, e122, hx122_0⟩ := Kd.at_int (Kd.R_reads' HO_7.out).2.2 (ji14) p122 q122
               obtain rfl : ad118 = ad122 := (by injection e122)
               replace p122 := eq_true p122
               replace q122 := eq_true q122
               have p123 : 0 ≤ ((rd t114 (ji14)) : Int) := od
               have q123 : (rd t114 (ji14)) < (l0.length : Int) := od
               obtain ⟨ad123, e123, hx123_0, hx123_1, hx123_2⟩ := at_T42 HR0.out (rd t114 (ji14)) p123 q123
               obtain rfl : ad119 = ad123 := (by injection e123)
               replace hx123_0 := (HB.out.cell (World.block_lt_of_cell? w _ hx123_0)).trans hx123_0
               replace hx123_1 := (HB.out.cell (World.block_lt_of_cell? w _ hx123_1)).trans hx123_1
               replace hx123_2 := (HB.out.cell (World.block_lt_of_cell? w _ hx123_2)).trans hx123_2
               replace p123 := eq_true p123
               replace q123 := eq_true q123
               have p124 : 0 ≤ ((rd t114 x25_1) : Int) := od
               have q124 : (rd t114 x25_1) < (l0.length : Int) := od
               obtain ⟨ad124, e124, hx124_0, hx124_1, hx124_2⟩ := at_T42 HR0.out (rd t114 x25_1) p124 q124
               obtain rfl : ad119 = ad124 := (by injection e124)
               replace hx124_0 := (HB.out.cell (World.block_lt_of_cell? w _ hx124_0)).trans hx124_0
               replace hx124_1 := (HB.out.cell (World.block_lt_of_cell? w _ hx124_1)).trans hx124_1
               replace hx124_2 := (HB.out.cell (World.block_lt_of_cell? w _ hx124_2)).trans hx124_2
               replace p124 := eq_true p124
               replace q124 := eq_true q124
               have p125 : 0 ≤ ((rd t114 x25_1) : Int) := od
               have q125 : (rd t114 x25_1) < (l0.length : Int) := od
               obtain ⟨ad125, e125, hx125_0, hx125_1, hx125_2⟩ := at_T42 HR0.out (rd t114 x25_1) p125 q125
               obtain rfl : ad119 = ad125 := (by injection e125)
               replace hx125_0 := (HB.out.cell (World.block_lt_of_cell? w _ hx125_0)).trans hx125_0
               replace hx125_1 := (HB.out.cell (World.block_lt_of_cell? w _ hx125_1)).trans hx125_1
               replace hx125_2 := (HB.out.cell (World.block_lt_of_cell? w _ hx125_2)).trans hx125_2
               replace p125 := eq_true p125
               replace q125 := eq_true q125
               go_wp2
               repeat (go_quiet (fail); try go_wp2)
               go_roundg k1
               case measure => have := HK1.out; omega
               case rel => exact ⟨(wrap64 (x9_1 + ((rd_T42 l0 (rd t114 x25_1)).f2))), (ji14), (by first | rfl | (simp; done) | (simp [*]; done)), (by first | rfl | (simp; done) | (simp only [← hji14] <;> (first | rfl | simp)) | (simp [*]; done)), H', ⟨by have := HK1.out; omega⟩, ⟨br HO_7.out⟩, ⟨br HO_23.out⟩, ⟨bz⟩⟩
             ·rw [if_neg c18] at H
              exact absurd H (by simp)
            ·rw [if_neg c17] at H
             exact absurd H (by simp)
           ·rw [if_neg c16] at H
            exact absurd H (by simp)
          ·rw [if_neg c15] at H
           exact absurd H (by simp)
        ·rw [if_neg c11] at H
         exact absurd H (by simp)
       ·rw [if_neg c10] at H
        exact absurd H (by simp)
      ·rw [if_neg c9] at H
       exact absurd H (by simp)
     ·rw [if_neg c8] at H
      exact absurd H (by simp)
    ·rw [if_neg c7] at H
     have c7b0 := decide_eq_false c7
     clear c7
     simp only [Option.some.injEq, Prod.mk.injEq] at H
     obtain ⟨rfl, rfl, rfl⟩ := H
     go_wp2
     repeat (go_quiet (fail); try go_wp2)
     go_ret3
     exact ez
 ·rw [if_neg c4] at H
  have c4b0 := beq_eq_false_iff_ne.mpr c4
  have c4b1 := bne_iff_ne.mpr c4
  simp only [Option.some.injEq, Prod.mk.injEq] at H
  obtain ⟨rfl, rfl, rfl⟩ := H
  go_enter Try.func18, Try.ntmps18
  go_wp2_with (first | (go_at_call 79; (with_reducible refine (L_queue.calls k _ _ l0 a1 t114 t115 _ ?side1 ?side2 A3.out).mono ?_); (case side1 => repeat (first | exact HR0.out | (with_reducible refine Kd.C_alloc ?_ _) | (with_reducible refine Kd.C_drewN ?_ _) | (with_reducible refine Kd.C_drew ?_))); (case side2 => exact HC0.out); rintro e w21 ⟨v116, rfl, ho0, hb⟩; have HO117 := m0 (Kd.R_lower ho0 (below_size bz)); replace HB := sb HB hb; (try clear hb); (try clear ho0)))
  repeat (go_quiet (first | (go_at_call 79; (with_reducible refine (L_queue.calls k _ _ l0 a1 t114 t115 _ ?side1 ?side2 A3.out).mono ?_); (case side1 => repeat (first | exact HR0.out | (with_reducible refine Kd.C_alloc ?_ _) | (with_reducible refine Kd.C_drewN ?_ _) | (with_reducible refine Kd.C_drew ?_))); (case side2 => exact HC0.out); rintro e w21 ⟨v116, rfl, ho0, hb⟩; have HO117 := m0 (Kd.R_lower ho0 (below_size bz)); replace HB := sb HB hb; (try clear hb); (try clear ho0))); try go_wp2_with (first | (go_at_call 79; (with_reducible refine (L_queue.calls k _ _ l0 a1 t114 t115 _ ?side1 ?side2 A3.out).mono ?_); (case side1 => repeat (first | exact HR0.out | (with_reducible refine Kd.C_alloc ?_ _) | (with_reducible refine Kd.C_drewN ?_ _) | (with_reducible refine Kd.C_drew ?_))); (case side2 => exact HC0.out); rintro e w21 ⟨v116, rfl, ho0, hb⟩; have HO117 := m0 (Kd.R_lower ho0 (below_size bz)); replace HB := sb HB hb; (try clear hb); (try clear ho0))))
  go_ret3
  exact ez
end
section
def Bs_Ints.l0 : Nat → List Int → List Int → Int → Option (Bool)
 | 0, _, _, _ => none
 | k + 1, x0, x1, x5 => if x5 < (x0.length : Int) then (if 0 ≤ x5 then (if x5 < (x1.length : Int) then (if (rd x0 x5) = (rd x1 x5) then (Bs_Ints.l0 k x0 x1 (wrap64 (x5 + 1))) else (some false)) else (none)) else (none)) else (some true)
def Bs_Ints.f (k : Nat) (l0 : List Int) (l1 : List Int) : Option (Bool) := if (l0.length : Int) = (l1.length : Int) then (Bs_Ints.l0 k l0 l1 0) else (some false)
theorem Bs_Ints.mono_l : ∀ k, (∀ y0 y1 y2, LeO (Bs_Ints.l0 k y0 y1 y2) (Bs_Ints.l0 (k + 1) y0 y1 y2))
 | 0 => fun _ _ _ r h => by simp [Bs_Ints.l0] at h
 | k + 1 => by
  have ih0 := Bs_Ints.mono_l k
  ·intro y0 y1 y2
   unfold Bs_Ints.l0
   repeat' with_reducible first
    | exact ih0 ..
    | exact LeO.refl ..
    | exact LeO.none ..
    | refine LeO.ite ?_ ?_
    | refine LeO.bind ?_ (fun _ => ?_)
theorem Bs_Ints.mono : ∀ a0 a1 k, LeO (Bs_Ints.f k a0 a1) (Bs_Ints.f (k + 1) a0 a1) := by
 intro a0 a1 k
 have ih0 := Bs_Ints.mono_l k
 unfold Bs_Ints.f
 repeat' with_reducible first
  | exact ih0 ..
  | exact LeO.refl ..
  | exact LeO.none ..
  | refine LeO.ite ?_ ?_
  | refine LeO.bind ?_ (fun _ => ?_)
theorem Bs_Ints.calls (k : Nat) (A0 : Option Addr) (c0 : Nat) (l0 : List Int) (A1 : Option Addr) (c1 : Nat) (l1 : List Int) (r : Bool) (w : World) (hr0 : Kd.C (Kd.int .i64) w A0 l0.length l0) (hc0 : l0.length ≤ c0) (hr1 : Kd.C (Kd.int .i64) w A1 l1.length l1) (hc1 : l1.length ≤ c1) (h : Bs_Ints.f k l0 l1 = some r) :
  Calls Try.prog 21 #[.slice A0 l0.length c0, .slice A1 l1.length c1] w fun e w' => e = .returned (.bool r) ∧ Drawn0 w w' := by
 have HR0 := m0 hr0
 have HC0 := m0 hc0
 clear hr0 hc0
 have HR1 := m0 hr1
 have HC1 := m0 hc1
 clear hr1 hc1
 have H : (if (l0.length : Int) = (l1.length : Int) then (Bs_Ints.l0 k l0 l1 0) else (some false)) = some r := h
 clear h
 by_cases c3 : (l0.length : Int) = (l1.length : Int)
 ·rw [if_pos c3] at H
  have c3b0 := beq_iff_eq.mpr c3
  have c3b1 := bne_eq_false_iff_eq.mpr c3
  have c3b2 : (l0.length == l1.length) = true := by first | simpa using c3 | (simp at c3 ⊢; omega)
  clear c3
  have H' := m0 H
  clear H
  go_enter Try.func21, Try.ntmps21
  go_wp2
  repeat (go_quiet (fail); try go_wp2)
  go_loopg [5] k (fun kq v5 w' => ∃ (x5_1 : Int), v5 = .int .i64 x5_1 ∧ Aside0 (Bs_Ints.l0 kq l0 l1 x5_1 = some r) ∧ Aside0 (kq ≤ k) ∧ Drawn0 w w')
  case atStart => exact ⟨(0), (by first | rfl | (simp; done) | (simp [*]; done)), H', ⟨Nat.le_refl _⟩, by repeat (first | exact Drawn0.refl _ | apply Drawn0.step)⟩
  case round =>
   clear H'
   obtain ⟨x5_1, rfl, HA, HK1, ⟨m1, rfl⟩⟩ := hrel
   cases gk with
   | zero => exact absurd HA.out (by simp [Bs_Ints.l0])
   | succ k1 =>
    have H := HA.out
    clear HA
    simp only [Bs_Ints.l0] at H
    by_cases c4 : x5_1 < (l0.length : Int)
    ·rw [if_pos c4] at H
     have c4b0 := decide_eq_true c4
     clear c4
     by_cases c5 : 0 ≤ x5_1
     ·rw [if_pos c5] at H
      have c5b0 := decide_eq_true c5
      clear c5
      by_cases c6 : x5_1 < (l1.length : Int)
      ·rw [if_pos c6] at H
       have c6b0 := decide_eq_true c6
       clear c6
       by_cases c7 : (rd l0 x5_1) = (rd l1 x5_1)
       ·rw [if_pos c7] at H
        have c7b0 := beq_iff_eq.mpr c7
        have c7b1 := bne_eq_false_iff_eq.mpr c7
        clear c7
        have H' := m0 H
        clear H
        have p127 : 0 ≤ (x5_1 : Int) := od
        have q127 : x5_1 < (l0.length : Int) := od
        obtain ⟨ad127, e127, hx127_0⟩ := Kd.at_int HR0.out x5_1 p127 q127
        cases e127
        replace p127 := eq_true p127
        replace q127 := eq_true q127
        have p128 : 0 ≤ (x5_1 : Int) := od
        have q128 : x5_1 < (l1.length : Int) := od
        obtain ⟨ad128, e128, hx128_0⟩ := Kd.at_int HR1.out x5_1 p128 q128
        cases e128
        replace p128 := eq_true p128
        replace q128 := eq_true q128
        go_wp2
        repeat (go_quiet (fail); try go_wp2)
        go_roundg k1
        case measure => have := HK1.out; omega
        case rel => exact ⟨(wrap64 (x5_1 + 1)), (by first | rfl | (simp; done) | (simp [*]; done)), H', ⟨by have := HK1.out; omega⟩, by repeat (first | exact Drawn0.refl _ | apply Drawn0.step)⟩
       ·rw [if_neg c7] at H
        have c7b0 := beq_eq_false_iff_ne.mpr c7
        have c7b1 := bne_iff_ne.mpr c7
        obtain rfl := Option.some.inj H
        have p127 : 0 ≤ (x5_1 : Int) := od
        have q127 : x5_1 < (l0.length : Int) := od
        obtain ⟨ad127, e127, hx127_0⟩ := Kd.at_int HR0.out x5_1 p127 q127
        cases e127
        replace p127 := eq_true p127
        replace q127 := eq_true q127
        have p128 : 0 ≤ (x5_1 : Int) := od
        have q128 : x5_1 < (l1.length : Int) := od
        obtain ⟨ad128, e128, hx128_0⟩ := Kd.at_int HR1.out x5_1 p128 q128
        cases e128
        replace p128 := eq_true p128
        replace q128 := eq_true q128
        go_wp2
        repeat (go_quiet (fail); try go_wp2)
        go_ret
        exact ⟨by first | rfl | (simp; done) | (simp [*]; done), by repeat (first | exact Drawn0.refl _ | apply Drawn0.step)⟩
      ·rw [if_neg c6] at H
       exact absurd H (by simp)
     ·rw [if_neg c5] at H
      exact absurd H (by simp)
    ·rw [if_neg c4] at H
     have c4b0 := decide_eq_false c4
     clear c4
     obtain rfl := Option.some.inj H
     go_wp2
     repeat (go_quiet (fail); try go_wp2)
     go_ret
     exact ⟨by first | rfl | (simp; done) | (simp [*]; done), by repeat (first | exact Drawn0.refl _ | apply Drawn0.step)⟩
 ·rw [if_neg c3] at H
  have c3b0 := beq_eq_false_iff_ne.mpr c3
  have c3b1 := bne_iff_ne.mpr c3
  have c3b2 : (l0.length == l1.length) = false := by first | simpa using c3 | (simp at c3 ⊢; omega)
  obtain rfl := Option.some.inj H
  go_enter Try.func21, Try.ntmps21
  go_wp2
  repeat (go_quiet (fail); try go_wp2)
  go_ret
  exact ⟨by first | rfl | (simp; done) | (simp [*]; done), by repeat (first | exact Drawn0.refl _ | apply Drawn0.step)⟩
end
section
def L_sums_spread.f (a0_0 : Int) (a0_1 : Int) (a0_2 : Int) (a0_3 : Int) (a0_4 : Int) (a0_5 : Int) : Option (Int) := some (wrap64 ((wrap64 (a0_0 * a0_3)) - (wrap64 (a0_1 * a0_1))))
theorem L_sums_spread.calls (a0_0 : Int) (a0_1 : Int) (a0_2 : Int) (a0_3 : Int) (a0_4 : Int) (a0_5 : Int) (r : Int) (w : World) (h : L_sums_spread.f a0_0 a0_1 a0_2 a0_3 a0_4 a0_5 = some r) :
  Calls Try.prog 96 #[.agg #[.int .i64 a0_0, .int .i64 a0_1, .int .i64 a0_2, .int .i64 a0_3, .int .i64 a0_4, .int .i64 a0_5]] w fun e w' => e = .returned (.int .i64 r) ∧ Below w.heap.size w w' := by
 have hu149 := Try.underlying149
 have HB := m0 (Below.refl w.heap.size w)
 have H : (some (wrap64 ((wrap64 (a0_0 * a0_3)) - (wrap64 (a0_1 * a0_1))))) = some r := h
 clear h
 obtain rfl := Option.some.inj H
 go_enter Try.func96, Try.ntmps96
 go_wp2_with (first | ((with_reducible refine gate_dst (N := 1) rfl ?_); refine be 1 149 #[.int .i64 a0_0, .int .i64 a0_1, .int .i64 a0_2, .int .i64 a0_3, .int .i64 a0_4, .int .i64 a0_5] ?_; intro gb129 hg w2 hbox hb; have BK129 := m0 hbox; have GE129 := gw w hg; replace HB := sb HB hb; clear hb hbox hg; have hcz3_0 : w2.cell? ⟨gb129, 0, none⟩ = some (.int .i64 a0_0) := (blk_cell BK129.out 0).trans rfl; have hcz3_1 : w2.cell? ⟨gb129, 1, none⟩ = some (.int .i64 a0_1) := (blk_cell BK129.out 1).trans rfl; have hcz3_2 : w2.cell? ⟨gb129, 2, none⟩ = some (.int .i64 a0_2) := (blk_cell BK129.out 2).trans rfl; have hcz3_3 : w2.cell? ⟨gb129, 3, none⟩ = some (.int .i64 a0_3) := (blk_cell BK129.out 3).trans rfl; have hcz3_4 : w2.cell? ⟨gb129, 4, none⟩ = some (.int .i64 a0_4) := (blk_cell BK129.out 4).trans rfl; have hcz3_5 : w2.cell? ⟨gb129, 5, none⟩ = some (.int .i64 a0_5) := (blk_cell BK129.out 5).trans rfl; have hfz3_0 := blk_frozen BK129.out 0; have hfz3_1 := blk_frozen BK129.out 1; have hfz3_2 := blk_frozen BK129.out 2; have hfz3_3 := blk_frozen BK129.out 3; have hfz3_4 := blk_frozen BK129.out 4; have hfz3_5 := blk_frozen BK129.out 5))
 go_ret
 exact ez
end
section
def L_CheckReadings_1.f (a0 : Int) : Option (Bool) := (L_within.f a0 0 2000).bind fun t130 => (some t130)
theorem L_CheckReadings_1.calls (a0 : Int) (r : Bool) (w : World) (h : L_CheckReadings_1.f a0 = some r) :
  Calls Try.prog 111 #[.int .i64 a0] w fun e w' => e = .returned (.bool r) ∧ Drawn0 w w' := by
 have H : ((L_within.f a0 0 2000).bind fun t130 => (some t130)) = some r := h
 clear h
 replace H := ob H
 obtain ⟨t130, A2, H⟩ := H
 (try dsimp only at H)
 replace A2 := m0 A2
 obtain rfl := Option.some.inj H
 go_enter Try.func111, Try.ntmps111
 go_wp2_with (first | ((with_reducible refine gate_callee (f := 78) rfl ?_); refine gl (some 4) Try.func78 #[.int .i64 a0, .int .i64 0, .int .i64 2000] ?_; (with_reducible refine (L_within.calls a0 0 2000 t130 _ A2.out).mono ?_); rintro e w' ⟨rfl, ⟨nd, rfl⟩⟩; refine ⟨_, rfl, ?_⟩))
 go_ret
 exact ⟨by first | rfl | (simp; done) | (simp [*]; done), by repeat (first | exact Drawn0.refl _ | apply Drawn0.step)⟩
end
section
def L_CheckReadings.l0 : Nat → List (S85) → Int → Int → Option (Int × Int)
 | 0, _, _, _ => none
 | k + 1, x21, x22, x23 => if x23 < x22 then (if 0 ≤ x23 then (if x23 < (x21.length : Int) then ((L_CheckReadings_1.f ((rd_T85 x21 x23).f0)).bind fun t139 => (if t139 = true then ((L_CheckReadings_1.f ((rd_T85 x21 x23).f1)).bind fun t140 => (if t140 = true then ((L_within.f ((rd_T85 x21 x23).f2) 0 1000).bind fun t141 => (if t141 = true then (L_CheckReadings.l0 k x21 x22 (wrap64 (x23 + 1))) else (some (x23, 2)))) else (some (x23, 2)))) else (some (x23, 2)))) else (none)) else (none)) else (some (0, 0))
def L_CheckReadings.f (k : Nat) (l0 : List (S85)) : Option (Int × Int) := (L_unless.f (decide ((l0.length : Int) > 0)) 10).bind fun t131 => ((L_unless.f (decide ((l0.length : Int) ≤ 8)) 8).bind fun t132 => ((L_first.f k (([t131, t132] : List Int))).bind fun t136 => (if t136 = 0 then (L_CheckReadings.l0 k l0 (l0.length : Int) 0) else (some (0, t136)))))
theorem L_CheckReadings.mono_l : ∀ k, (∀ y0 y1 y2, LeO (L_CheckReadings.l0 k y0 y1 y2) (L_CheckReadings.l0 (k + 1) y0 y1 y2))
 | 0 => fun _ _ _ r h => by simp [L_CheckReadings.l0] at h
 | k + 1 => by
  have ih0 := L_CheckReadings.mono_l k
  ·intro y0 y1 y2
   unfold L_CheckReadings.l0
   repeat' with_reducible first
    | exact ih0 ..
    | exact L_first.mono ..
    | exact LeO.refl ..
    | exact LeO.none ..
    | refine LeO.ite ?_ ?_
    | refine LeO.bind ?_ (fun _ => ?_)
theorem L_CheckReadings.mono : ∀ a0 k, LeO (L_CheckReadings.f k a0) (L_CheckReadings.f (k + 1) a0) := by
 intro a0 k
 have ih0 := L_CheckReadings.mono_l k
 unfold L_CheckReadings.f
 repeat' with_reducible first
  | exact ih0 ..
  | exact L_first.mono ..
  | exact LeO.refl ..
  | exact LeO.none ..
  | refine LeO.ite ?_ ?_
  | refine LeO.bind ?_ (fun _ => ?_)
theorem L_CheckReadings.calls (k : Nat) (A0 : Option Addr) (c0 : Nat) (l0 : List (S85)) (r1 : Int) (r2 : Int) (w : World) (hr0 : Kd.C k85 w A0 l0.length l0) (hc0 : l0.length ≤ c0) (h : L_CheckReadings.f k l0 = some (r1, r2)) :
  Calls Try.prog 54 #[.slice A0 l0.length c0] w fun e w' => e = .returned (.tuple #[.int .i64 r1, .int .i64 r2]) ∧ Below w.heap.size w w' := by
 have hu85 := Try.underlying85
 have HR0 := m0 hr0
 have HC0 := m0 hc0
 clear hr0 hc0
 have HB := m0 (Below.refl w.heap.size w)
 have H : ((L_unless.f (decide ((l0.length : Int) > 0)) 10).bind fun t131 => ((L_unless.f (decide ((l0.length : Int) ≤ 8)) 8).bind fun t132 => ((L_first.f k (([t131, t132] : List Int))).bind fun t136 => (if t136 = 0 then (L_CheckReadings.l0 k l0 (l0.length : Int) 0) else (some (0, t136)))))) = some (r1, r2) := h
 clear h
 replace H := ob H
 obtain ⟨t131, A2, H⟩ := H
 (try dsimp only at H)
 replace A2 := m0 A2
 replace H := ob H
 obtain ⟨t132, A3, H⟩ := H
 (try dsimp only at H)
 replace A3 := m0 A3
 obtain ⟨y133, hy133⟩ : ∃ y_ : List Int, y_ = (([t131, t132] : List Int)) := ⟨_, rfl⟩
 replace H : ((L_first.f k y133).bind fun t136 => (if t136 = 0 then (L_CheckReadings.l0 k l0 (l0.length : Int) 0) else (some (0, t136)))) = some (r1, r2) := by first | (rw [hy133]; with_reducible exact H) | (have H2_ := (Option.bind_some _ _).symm.trans H; rw [hy133]; with_reducible exact H2_) | (have H2_ := (Option.bind_some _ _).symm.trans H; with_reducible exact H2_) | with_reducible exact H | (rw [hy133]; exact H) | exact H
 have Ny133 := m0 hy133
 clear hy133
 replace H := ob H
 obtain ⟨t136, A4, H⟩ := H
 (try dsimp only at H)
 replace A4 := m0 A4
 by_cases c5 : t136 = 0
 ·rw [if_pos c5] at H
  have c5b0 := beq_iff_eq.mpr c5
  have c5b1 := bne_eq_false_iff_eq.mpr c5
  clear c5
  have H' := m0 H
  clear H
  go_enter Try.func54, Try.ntmps54
  go_wp2_with (first | ((with_reducible refine gate_callee (f := 76) rfl ?_); refine goesL_ (some 11) rfl rfl Try.func76 (by kernel_rfl) rfl #[.bool (decide ((l0.length : Int) > 0)), .int .i64 10] rfl (by (try simp only [List.map_toArray, List.map_cons, List.map_nil]); first | done | rfl | (simp only [List.length_drop, List.length_take]; rfl) | (simp; first | done | exact ⟨rfl, rfl⟩)) ?_; (with_reducible refine (L_unless.calls (decide ((l0.length : Int) > 0)) 10 t131 _ A2.out).mono ?_); rintro e w' ⟨rfl, ⟨nd, rfl⟩⟩; refine ⟨_, rfl, ?_⟩) | ((with_reducible refine gate_callee (f := 76) rfl ?_); refine gl (some 15) Try.func76 #[.bool (decide ((l0.length : Int) ≤ 8)), .int .i64 8] ?_; (with_reducible refine (L_unless.calls (decide ((l0.length : Int) ≤ 8)) 8 t132 _ A3.out).mono ?_); rintro e w' ⟨rfl, ⟨nd, rfl⟩⟩; refine ⟨_, rfl, ?_⟩) | ((with_reducible refine gate_dst (N := 16) rfl ?_); refine Kd.R_lit (Kd.int .i64) _ 24 ?hg (N := 16) ?hd (xs := ([t131, t132] : List Int)) (inner := [.int .i64 t131, .int .i64 t132]) (ok := fun _ => True) (okp := fun _ => True) ?hr ?hp (fun _ hk => hk) trivial (Below.refl _ _) (Nat.le_refl _) (by simp) ?_; (case hd => rfl); (case hg => rfl); (case hr => first | (go_simp; done) | (go_simp; rfl)); (case hp => exact (Reps.one (show Kd.M (Kd.int .i64) _ _ _ t131 [.int .i64 t131] from rfl) (Reps.one (show Kd.M (Kd.int .i64) _ _ _ t132 [.int .i64 t132] from rfl) (Reps.none _ _)))); intro v134 w6 ho7 hb hg_ hnew_; clear hg_ hnew_; (first | rw [← Ny133.out] at ho7 | (simp only [Int.reduceToNat] at ho7; rw [← Ny133.out] at ho7)); have HO135 := m0 (Kd.R_lower ho7 (below_size bz)); replace HB := sb HB hb; clear hb ho7; obtain ⟨Ao8, co8, eo8⟩ := Kd.R_slice HO135.out; subst eo8) | ((with_reducible refine gate_callee (f := 75) rfl ?_); refine gl (some 17) Try.func75 #[.slice Ao8 y133.length co8] ?_; (with_reducible refine (L_first.calls k _ _ y133 t136 _ ?side1 ?side2 A4.out).mono ?_); (case side1 => exact bc (Kd.R_reads' HO135.out).2.2); (case side2 => exact (Kd.R_reads' HO135.out).2.1); rintro e w' ⟨rfl, ⟨nd, rfl⟩⟩; refine ⟨_, rfl, ?_⟩))
  go_loopg [23] k (fun kq v23 w' => ∃ (x23_1 : Int), v23 = .int .i64 x23_1 ∧ Aside0 (L_CheckReadings.l0 kq l0 (l0.length : Int) x23_1 = some (r1, r2)) ∧ Aside0 (kq ≤ k) ∧ Aside0 (Below w.heap.size w w'))
  case atStart => exact ⟨(0), (by first | rfl | (simp; done) | (simp [*]; done)), H', ⟨Nat.le_refl _⟩, ⟨bz⟩⟩
  case round =>
   clear H'
   obtain ⟨x23_1, rfl, HA, HK1, HB⟩ := hrel
   cases gk with
   | zero => exact absurd HA.out (by simp [L_CheckReadings.l0])
   | succ k1 =>
    have H := HA.out
    clear HA
    simp only [L_CheckReadings.l0] at H
    by_cases c9 : x23_1 < (l0.length : Int)
    ·rw [if_pos c9] at H
     have c9b0 := decide_eq_true c9
     clear c9
     by_cases c10 : 0 ≤ x23_1
     ·rw [if_pos c10] at H
      have c10b0 := decide_eq_true c10
      clear c10
      by_cases c11 : x23_1 < (l0.length : Int)
      ·rw [if_pos c11] at H
       have c11b0 := decide_eq_true c11
       clear c11
       replace H := ob H
       obtain ⟨t139, A12, H⟩ := H
       (try dsimp only at H)
       replace A12 := m0 A12
       by_cases c13 : t139 = true
       ·subst c13
        rw [if_pos rfl] at H
        replace H := ob H
        obtain ⟨t140, A14, H⟩ := H
        (try dsimp only at H)
        replace A14 := m0 A14
        by_cases c15 : t140 = true
        ·subst c15
         rw [if_pos rfl] at H
         replace H := ob H
         obtain ⟨t141, A16, H⟩ := H
         (try dsimp only at H)
         replace A16 := m0 A16
         by_cases c17 : t141 = true
         ·subst c17
          rw [if_pos rfl] at H
          have H' := m0 H
          clear H
          have p137 : 0 ≤ (x23_1 : Int) := od
          have q137 : x23_1 < (l0.length : Int) := od
          obtain ⟨ad137, e137, hx137_0, hx137_1, hx137_2⟩ := at_T85 HR0.out x23_1 p137 q137
          cases e137
          replace hx137_0 := (HB.out.cell (World.block_lt_of_cell? w _ hx137_0)).trans hx137_0
          replace hx137_1 := (HB.out.cell (World.block_lt_of_cell? w _ hx137_1)).trans hx137_1
          replace hx137_2 := (HB.out.cell (World.block_lt_of_cell? w _ hx137_2)).trans hx137_2
          replace p137 := eq_true p137
          replace q137 := eq_true q137
          go_wp2_with (first | ((with_reducible refine gate_dst (N := 7) rfl ?_); refine be 7 85 #[.int .i64 0, .int .i64 0, .int .i64 0] ?_; intro gb138 hg w18 hbox hb; have BK138 := m0 hbox; have GE138 := gw w hg; replace HB := sb HB hb; clear hb hbox hg; obtain ⟨_, _, _, _, _, _⟩ := b3 BK138) | (go_at_call 111; (with_reducible refine (L_CheckReadings_1.calls ((rd_T85 l0 x23_1).f0) true _ A12.out).mono ?_); rintro e w' ⟨rfl, ⟨nd, rfl⟩⟩) | (go_at_call 111; (with_reducible refine (L_CheckReadings_1.calls ((rd_T85 l0 x23_1).f1) true _ A14.out).mono ?_); rintro e w' ⟨rfl, ⟨nd, rfl⟩⟩) | (go_at_call 78; (with_reducible refine (L_within.calls ((rd_T85 l0 x23_1).f2) 0 1000 true _ A16.out).mono ?_); rintro e w' ⟨rfl, ⟨nd, rfl⟩⟩))
          go_roundg k1
          case measure => have := HK1.out; omega
          case rel => exact ⟨(wrap64 (x23_1 + 1)), (by first | rfl | (simp; done) | (simp [*]; done)), H', ⟨by have := HK1.out; omega⟩, ⟨bz⟩⟩
         ·replace c17 := Bool.eq_false_iff.mpr c17
          subst c17
          rw [if_neg (show ¬ (false = true) by decide)] at H
          simp only [Option.some.injEq, Prod.mk.injEq] at H
          obtain ⟨rfl, rfl⟩ := H
          have p137 : 0 ≤ (x23_1 : Int) := od
          have q137 : x23_1 < (l0.length : Int) := od
          obtain ⟨ad137, e137, hx137_0, hx137_1, hx137_2⟩ := at_T85 HR0.out x23_1 p137 q137
          cases e137
          replace hx137_0 := (HB.out.cell (World.block_lt_of_cell? w _ hx137_0)).trans hx137_0
          replace hx137_1 := (HB.out.cell (World.block_lt_of_cell? w _ hx137_1)).trans hx137_1
          replace hx137_2 := (HB.out.cell (World.block_lt_of_cell? w _ hx137_2)).trans hx137_2
          replace p137 := eq_true p137
          replace q137 := eq_true q137
          go_wp2_with (first | ((with_reducible refine gate_dst (N := 7) rfl ?_); refine be 7 85 #[.int .i64 0, .int .i64 0, .int .i64 0] ?_; intro gb138 hg w20 hbox hb; have BK138 := m0 hbox; have GE138 := gw w hg; replace HB := sb HB hb; clear hb hbox hg; obtain ⟨_, _, _, _, _, _⟩ := b3 BK138) | (go_at_call 111; (with_reducible refine (L_CheckReadings_1.calls ((rd_T85 l0 x23_1).f0) true _ A12.out).mono ?_); rintro e w' ⟨rfl, ⟨nd, rfl⟩⟩) | (go_at_call 111; (with_reducible refine (L_CheckReadings_1.calls ((rd_T85 l0 x23_1).f1) true _ A14.out).mono ?_); rintro e w' ⟨rfl, ⟨nd, rfl⟩⟩) | (go_at_call 78; (with_reducible refine (L_within.calls ((rd_T85 l0 x23_1).f2) 0 1000 false _ A16.out).mono ?_); rintro e w' ⟨rfl, ⟨nd, rfl⟩⟩))
          go_ret2
          exact ez
        ·replace c15 := Bool.eq_false_iff.mpr c15
         subst c15
         rw [if_neg (show ¬ (false = true) by decide)] at H
         simp only [Option.some.injEq, Prod.mk.injEq] at H
         obtain ⟨rfl, rfl⟩ := H
         have p137 : 0 ≤ (x23_1 : Int) := od
         have q137 : x23_1 < (l0.length : Int) := od
         obtain ⟨ad137, e137, hx137_0, hx137_1, hx137_2⟩ := at_T85 HR0.out x23_1 p137 q137
         cases e137
         replace hx137_0 := (HB.out.cell (World.block_lt_of_cell? w _ hx137_0)).trans hx137_0
         replace hx137_1 := (HB.out.cell (World.block_lt_of_cell? w _ hx137_1)).trans hx137_1
         replace hx137_2 := (HB.out.cell (World.block_lt_of_cell? w _ hx137_2)).trans hx137_2
         replace p137 := eq_true p137
         replace q137 := eq_true q137
         go_wp2_with (first | ((with_reducible refine gate_dst (N := 7) rfl ?_); refine be 7 85 #[.int .i64 0, .int .i64 0, .int .i64 0] ?_; intro gb138 hg w22 hbox hb; have BK138 := m0 hbox; have GE138 := gw w hg; replace HB := sb HB hb; clear hb hbox hg; obtain ⟨_, _, _, _, _, _⟩ := b3 BK138) | (go_at_call 111; (with_reducible refine (L_CheckReadings_1.calls ((rd_T85 l0 x23_1).f0) true _ A12.out).mono ?_); rintro e w' ⟨rfl, ⟨nd, rfl⟩⟩) | (go_at_call 111; (with_reducible refine (L_CheckReadings_1.calls ((rd_T85 l0 x23_1).f1) false _ A14.out).mono ?_); rintro e w' ⟨rfl, ⟨nd, rfl⟩⟩))
         go_ret2
         exact ez
       ·replace c13 := Bool.eq_false_iff.mpr c13
        subst c13
        rw [if_neg (show ¬ (false = true) by decide)] at H
        simp only [Option.some.injEq, Prod.mk.injEq] at H
        obtain ⟨rfl, rfl⟩ := H
        have p137 : 0 ≤ (x23_1 : Int) := od
        have q137 : x23_1 < (l0.length : Int) := od
        obtain ⟨ad137, e137, hx137_0, hx137_1, hx137_2⟩ := at_T85 HR0.out x23_1 p137 q137
        cases e137
        replace hx137_0 := (HB.out.cell (World.block_lt_of_cell? w _ hx137_0)).trans hx137_0
        replace hx137_1 := (HB.out.cell (World.block_lt_of_cell? w _ hx137_1)).trans hx137_1
        replace hx137_2 := (HB.out.cell (World.block_lt_of_cell? w _ hx137_2)).trans hx137_2
        replace p137 := eq_true p137
        replace q137 := eq_true q137
        go_wp2_with (first | ((with_reducible refine gate_dst (N := 7) rfl ?_); refine be 7 85 #[.int .i64 0, .int .i64 0, .int .i64 0] ?_; intro gb138 hg w24 hbox hb; have BK138 := m0 hbox; have GE138 := gw w hg; replace HB := sb HB hb; clear hb hbox hg; obtain ⟨_, _, _, _, _, _⟩ := b3 BK138) | (go_at_call 111; (with_reducible refine (L_CheckReadings_1.calls ((rd_T85 l0 x23_1).f0) false _ A12.out).mono ?_); rintro e w' ⟨rfl, ⟨nd, rfl⟩⟩))
        go_ret2
        exact ez
      ·rw [if_neg c11] at H
       exact absurd H (by simp)
     ·rw [if_neg c10] at H
      exact absurd H (by simp)
    ·rw [if_neg c9] at H
     have c9b0 := decide_eq_false c9
     clear c9
     simp only [Option.some.injEq, Prod.mk.injEq] at H
     obtain ⟨rfl, rfl⟩ := H
     go_wp2
     go_ret2
     exact ez
 ·rw [if_neg c5] at H
  have c5b0 := beq_eq_false_iff_ne.mpr c5
  have c5b1 := bne_iff_ne.mpr c5
  simp only [Option.some.injEq, Prod.mk.injEq] at H
  obtain ⟨rfl, rfl⟩ := H
  go_enter Try.func54, Try.ntmps54
  go_wp2_with (first | ((with_reducible refine gate_callee (f := 76) rfl ?_); refine goesL_ (some 11) rfl rfl Try.func76 (by kernel_rfl) rfl #[.bool (decide ((l0.length : Int) > 0)), .int .i64 10] rfl (by (try simp only [List.map_toArray, List.map_cons, List.map_nil]); first | done | rfl | (simp only [List.length_drop, List.length_take]; rfl) | (simp; first | done | exact ⟨rfl, rfl⟩)) ?_; (with_reducible refine (L_unless.calls (decide ((l0.length : Int) > 0)) 10 t131 _ A2.out).mono ?_); rintro e w' ⟨rfl, ⟨nd, rfl⟩⟩; refine ⟨_, rfl, ?_⟩) | ((with_reducible refine gate_callee (f := 76) rfl ?_); refine gl (some 15) Try.func76 #[.bool (decide ((l0.length : Int) ≤ 8)), .int .i64 8] ?_; (with_reducible refine (L_unless.calls (decide ((l0.length : Int) ≤ 8)) 8 t132 _ A3.out).mono ?_); rintro e w' ⟨rfl, ⟨nd, rfl⟩⟩; refine ⟨_, rfl, ?_⟩) | ((with_reducible refine gate_dst (N := 16) rfl ?_); refine Kd.R_lit (Kd.int .i64) _ 24 ?hg (N := 16) ?hd (xs := ([t131, t132] : List Int)) (inner := [.int .i64 t131, .int .i64 t132]) (ok := fun _ => True) (okp := fun _ => True) ?hr ?hp (fun _ hk => hk) trivial (Below.refl _ _) (Nat.le_refl _) (by simp) ?_; (case hd => rfl); (case hg => rfl); (case hr => first | (go_simp; done) | (go_simp; rfl)); (case hp => exact (Reps.one (show Kd.M (Kd.int .i64) _ _ _ t131 [.int .i64 t131] from rfl) (Reps.one (show Kd.M (Kd.int .i64) _ _ _ t132 [.int .i64 t132] from rfl) (Reps.none _ _)))); intro v134 w26 ho27 hb hg_ hnew_; clear hg_ hnew_; (first | rw [← Ny133.out] at ho27 | (simp only [Int.reduceToNat] at ho27; rw [← Ny133.out] at ho27)); have HO135 := m0 (Kd.R_lower ho27 (below_size bz)); replace HB := sb HB hb; clear hb ho27; obtain ⟨Ao28, co28, eo28⟩ := Kd.R_slice HO135.out; subst eo28) | ((with_reducible refine gate_callee (f := 75) rfl ?_); refine gl (some 17) Try.func75 #[.slice Ao28 y133.length co28] ?_; (with_reducible refine (L_first.calls k _ _ y133 t136 _ ?side1 ?side2 A4.out).mono ?_); (case side1 => exact bc (Kd.R_reads' HO135.out).2.2); (case side2 => exact (Kd.R_reads' HO135.out).2.1); rintro e w' ⟨rfl, ⟨nd, rfl⟩⟩; refine ⟨_, rfl, ?_⟩))
  go_ret2
  exact ez
end
section
def L_readingsErr.f (k : Nat) (l0 : List (S85)) : Option (Int) := (L_CheckReadings.f k l0).bind fun bt142 => (some bt142.2)
theorem L_readingsErr.mono : ∀ a0 k, LeO (L_readingsErr.f k a0) (L_readingsErr.f (k + 1) a0) := by
 intro a0 k
 unfold L_readingsErr.f
 repeat' with_reducible first
  | exact L_CheckReadings.mono ..
  | exact LeO.refl ..
  | exact LeO.none ..
  | refine LeO.ite ?_ ?_
  | refine LeO.bind ?_ (fun _ => ?_)
theorem L_readingsErr.calls (k : Nat) (A0 : Option Addr) (c0 : Nat) (l0 : List (S85)) (r : Int) (w : World) (hr0 : Kd.C k85 w A0 l0.length l0) (hc0 : l0.length ≤ c0) (h : L_readingsErr.f k l0 = some r) :
  Calls Try.prog 112 #[.slice A0 l0.length c0] w fun e w' => e = .returned (.int .i64 r) ∧ Below w.heap.size w w' := by
 have HR0 := m0 hr0
 have HC0 := m0 hc0
 clear hr0 hc0
 have HB := m0 (Below.refl w.heap.size w)
 have H : ((L_CheckReadings.f k l0).bind fun bt142 => (some bt142.2)) = some r := h
 clear h
 replace H := ob H
 obtain ⟨⟨t142, t143⟩, A2, H⟩ := H
 (try dsimp only at H)
 replace A2 := m0 A2
 obtain rfl := Option.some.inj H
 go_enter Try.func112, Try.ntmps112
 go_wp2_with (first | ((with_reducible refine gate_callee (f := 54) rfl ?_); refine gl (some 7) Try.func54 #[.slice A0 l0.length c0] ?_; (with_reducible refine (L_CheckReadings.calls k _ _ l0 t142 t143 _ ?side1 ?side2 A2.out).mono ?_); (case side1 => repeat (first | exact HR0.out | (with_reducible refine Kd.C_alloc ?_ _) | (with_reducible refine Kd.C_drewN ?_ _) | (with_reducible refine Kd.C_drew ?_))); (case side2 => exact HC0.out); rintro e w3 ⟨rfl, hb⟩; refine ⟨_, rfl, ?_⟩; replace HB := sb HB hb; (try clear hb)))
 go_ret
 exact ez
end
end Go.Proofs.Ytibhfahbabgbaaa.A
