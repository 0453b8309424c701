/- Walks of the program's functions (printed, made shorter), each with what it computes. -/
import Derived.Test.YtibhfahbabgbaaaB05
import Derived.Test.YtibhfahbabgbaaaB13
import Derived.Test.YtibhfahbabgbaaaB14
import Derived.Test.YtibhfahbabgbaaaB04
namespace Go.Proofs.Ytibhfahbabgbaaa.A
set_option maxHeartbeats 8000000
set_option maxRecDepth 100000
open Go.RowKit Go.Proofs.YtibhfahbabgbaaaW.PrintWords Go.Proofs.YtibhfahbabgbaaaW.PrintLast Go.Proofs.YtibhfahbabgbaaaW.PrintMore
attribute [local go_sem] max2_int min2_int max_two min_two max_three min_three max_four min_four
set_option linter.unusedVariables false
set_option linter.unusedSimpArgs false
section
mutual
def L_scores.l0 : Nat → List (S126) → List Int → List (S139) → Int → Int → Option (List Int)
  | 0, _, _, _, _, _ => none
  | k + 1, x0, x3, x9, x10, x11 => if x11 < x10 then (if 0 ≤ x11 then (if x11 < (x9.length : Int) then (L_scores.l1 k x0 x3 0 x9 x10 x11 x0 (x0.length : Int) 0 ((rd_T139 x9 x11).f0.f0) ((rd_T139 x9 x11).f0.f1) ((rd_T139 x9 x11).f0.f2) ((rd_T139 x9 x11).f1.f0) ((rd_T139 x9 x11).f1.f1) ((rd_T139 x9 x11).f1.f2) ((rd_T139 x9 x11).f2.f0) ((rd_T139 x9 x11).f2.f1) ((rd_T139 x9 x11).f2.f2)) else (none)) else (none)) else (some x3)
def L_scores.l1 : Nat → List (S126) → List Int → Int → List (S139) → Int → Int → List (S126) → Int → Int → Int → Int → Int → Int → Int → Int → Int → Int → Int → Option (List Int)
  | 0, _, _, _, _, _, _, _, _, _, _, _, _, _, _, _, _, _, _ => none
  | k + 1, x0, x3, x6, x9, x10, x11, x15, x16, x17, x266000, x266001, x266002, x266003, x266004, x266005, x266006, x266007, x266008 => if x17 < x16 then (if 0 ≤ x17 then (if x17 < (x15.length : Int) then ((L_rotation_turned.f x266000 x266001 x266002 x266003 x266004 x266005 x266006 x266007 x266008 ((rd_T126 x15 x17).f0.f0) ((rd_T126 x15 x17).f0.f1) ((rd_T126 x15 x17).f0.f2)).bind fun bt268 => ((L_vector_dot.f ((rd_T126 x15 x17).f1.f0) ((rd_T126 x15 x17).f1.f1) ((rd_T126 x15 x17).f1.f2) bt268.1 bt268.2.1 bt268.2.2).bind fun t271 => (L_scores.l1 k x0 x3 (wrap64 (x6 + t271)) x9 x10 x11 x15 x16 (wrap64 (x17 + 1)) x266000 x266001 x266002 x266003 x266004 x266005 x266006 x266007 x266008))) else (none)) else (none)) else (if x3.length < 17592186044416 then (L_scores.l0 k x0 (x3 ++ [x6]) x9 x10 (wrap64 (x11 + 1))) else (none))
end
def L_scores.f (k : Nat) (l0 : List (S126)) : Option (List Int) := (L_rotations.f k).bind fun t261 => (L_scores.l0 k l0 ([] : List Int) t261 (t261.length : Int) 0)
theorem L_scores.mono_l : ∀ k, (∀ y0 y1 y2 y3 y4, LeO (L_scores.l0 k y0 y1 y2 y3 y4) (L_scores.l0 (k + 1) y0 y1 y2 y3 y4)) ∧ (∀ y0 y1 y2 y3 y4 y5 y6 y7 y8 y9 y10 y11 y12 y13 y14 y15 y16 y17, LeO (L_scores.l1 k y0 y1 y2 y3 y4 y5 y6 y7 y8 y9 y10 y11 y12 y13 y14 y15 y16 y17) (L_scores.l1 (k + 1) y0 y1 y2 y3 y4 y5 y6 y7 y8 y9 y10 y11 y12 y13 y14 y15 y16 y17))
  | 0 => ⟨fun _ _ _ _ _ r h => by simp [L_scores.l0] at h, fun _ _ _ _ _ _ _ _ _ _ _ _ _ _ _ _ _ _ r h => by simp [L_scores.l1] at h⟩
  | k + 1 => by
    obtain ⟨ih0, ih1⟩ := L_scores.mono_l k
    refine ⟨?_, ?_⟩
    · intro y0 y1 y2 y3 y4
      unfold L_scores.l0
      repeat' with_reducible first
        | exact ih0 ..
        | exact ih1 ..
        | exact L_rotations.mono ..
        | exact LeO.refl ..
        | exact LeO.none ..
        | refine LeO.ite ?_ ?_
        | refine LeO.bind ?_ (fun _ => ?_)
    · intro y0 y1 y2 y3 y4 y5 y6 y7 y8 y9 y10 y11 y12 y13 y14 y15 y16 y17
      unfold L_scores.l1
      repeat' with_reducible first
        | exact ih0 ..
        | exact ih1 ..
        | exact L_rotations.mono ..
        | exact LeO.refl ..
        | exact LeO.none ..
        | refine LeO.ite ?_ ?_
        | refine LeO.bind ?_ (fun _ => ?_)
theorem L_scores.mono : ∀ a0 k, LeO (L_scores.f k a0) (L_scores.f (k + 1) a0) := by
  intro a0 k
  obtain ⟨ih0, ih1⟩ := L_scores.mono_l k
  unfold L_scores.f
  repeat' with_reducible first
    | exact ih0 ..
    | exact ih1 ..
    | exact L_rotations.mono ..
    | exact LeO.refl ..
    | exact LeO.none ..
    | refine LeO.ite ?_ ?_
    | refine LeO.bind ?_ (fun _ => ?_)
def L_scores.T9 : Bool × List (List Nat × List Nat) := (true, [([], []), ([], []), ([1], [1]), ([], []), ([], []), ([4], [4]), ([3, 5], [3, 5]), ([2, 6, 6], [2, 6]), ([0, 7], [0, 7]), ([8, 7, 0, 1, 2, 3, 4, 5, 6, 7, 8], [0, 8])])
def L_scores.B9 : List Nat := [0, 0, 2, 0, 0, 16, 56, 126, 255, 511]
theorem L_scores.tab9 : rtab .any (opsOf Try.f124 9) = L_scores.T9 := by kernel_rfl
theorem L_scores.bits9 : waitsOk L_scores.T9.2 L_scores.B9 = true := by kernel_rfl
theorem L_scores.calls (k : Nat) (A0 : Option Addr) (c0 : Nat) (l0 : List (S126)) (r : List Int) (w : World) (hr0 : Kd.C k126 w A0 l0.length l0) (hc0 : l0.length ≤ c0) (h : L_scores.f k l0 = some r) :
    Calls Try.prog 124 #[.slice A0 l0.length c0] w fun e w' => ∃ v0_ : Value, e = .returned (v0_) ∧ Kd.R (Kd.int .i64) 3 w' w.heap.size (fun _ => True) v0_ r ∧ Below w.heap.size w w' := by
  have hu139 := Try.underlying139
  have hu126 := Try.underlying126
  have hu44 := Try.underlying44
  have HR0 := m0 hr0
  have HC0 := m0 hc0
  clear hr0 hc0
  have HB := m0 (Below.refl w.heap.size w)
  have H : ((L_rotations.f k).bind fun t261 => (L_scores.l0 k l0 ([] : List Int) t261 (t261.length : Int) 0)) = some r := h
  clear h
  replace H := ob H
  obtain ⟨t261, A2, H⟩ := H
  (try dsimp only at H)
  replace A2 := m0 A2
  have H' := m0 H
  clear H
  go_enter Try.func124, Try.ntmps124
  go_wp2_with (first | ((with_reducible refine gate_callee (f := 84) rfl ?_); refine gl (some 9) Try.func84 #[] ?_; (with_reducible refine (L_rotations.calls k  t261 _ A2.out).mono ?_); rintro e w3 ⟨v262, rfl, ho0, hb⟩; refine ⟨_, rfl, ?_⟩; have HO263 := m0 (Kd.R_lower ho0 (below_size bz)); replace HB := sb HB hb; (try clear hb); (try clear ho0); obtain ⟨Ao4, co4, eo4⟩ := Kd.R_slice HO263.out; subst eo4))
  go_loopg [3, 11] k (fun kq v3 v11 w' => ∃ (x3_1 : List Int) (x11_1 : Int), v11 = .int .i64 x11_1 ∧ Aside0 (L_scores.l0 kq l0 x3_1 t261 (t261.length : Int) x11_1 = some r) ∧ Aside0 (kq ≤ k) ∧ Aside0 (Kd.R (Kd.int .i64) 3 w' w.heap.size (fun _ => True) v3 x3_1) ∧ Aside0 (Kd.R k139 139 w' w.heap.size (fun _ => True) (.slice Ao4 t261.length co4) t261) ∧ Aside0 (Below w.heap.size w w'))
  case atStart => exact ⟨(([] : List Int)), (0), (by first | rfl | (simp; done) | (simp [*]; done)), H', ⟨Nat.le_refl _⟩, ⟨by first | exact Kd.R_nil _ _ _ _ _ | exact Kd.N_nil _ _ _ _ _ | exact Kd.V_nil _ _ _ _ _ | exact Kd.Q_nil _ _ _ _ _ | exact Kd.S_nil _ _ _ _ _⟩, ⟨br HO263.out⟩, ⟨bz⟩⟩
  case round =>
    clear H'
    obtain ⟨x3_1, x11_1, rfl, HA, HK1, HO_3, HO_9, HB⟩ := hrel
    cases gk with
    | zero => exact absurd HA.out (by simp [L_scores.l0])
    | succ k1 =>
      have H := HA.out
      clear HA
      simp only [L_scores.l0] at H
      by_cases c5 : x11_1 < (t261.length : Int)
      · rw [if_pos c5] at H
        have c5b0 := decide_eq_true c5
        clear c5
        by_cases c6 : 0 ≤ x11_1
        · rw [if_pos c6] at H
          have c6b0 := decide_eq_true c6
          clear c6
          by_cases c7 : x11_1 < (t261.length : Int)
          · rw [if_pos c7] at H
            have c7b0 := decide_eq_true c7
            clear c7
            have H' := m0 H
            clear H
            have p264 : 0 ≤ (x11_1 : Int) := od
            have q264 : x11_1 < (t261.length : Int) := od
            obtain ⟨ad264, e264, hx264_0, hx264_1, hx264_2, hx264_3, hx264_4, hx264_5, hx264_6, hx264_7, hx264_8⟩ := at_T139 (Kd.R_reads' HO_9.out).2.2 x11_1 p264 q264
            cases e264
            replace p264 := eq_true p264
            replace q264 := eq_true q264
            go_wp2_with (first | ((with_reducible refine gate_dst (N := 5) rfl ?_); refine be 5 139 #[.int .i64 0, .int .i64 0, .int .i64 0, .int .i64 0, .int .i64 0, .int .i64 0, .int .i64 0, .int .i64 0, .int .i64 0] ?_; intro gb265 hg w8 hbox hb; replace HO_3 := rb HO_3 hb; replace HO_9 := m0 (Kd.R_below (Kd.R_elderB (br HO_9.out) gb265 (Nat.le_of_eq hg.symm)) hb); have BK265 := m0 hbox; have GE265 := gw w hg; replace HB := sb HB hb; clear hb hbox hg; have hcz9_0 : w8.cell? ⟨gb265, 0, none⟩ = some (.int .i64 0) := (blk_cell BK265.out 0).trans rfl; have hcz9_1 : w8.cell? ⟨gb265, 1, none⟩ = some (.int .i64 0) := (blk_cell BK265.out 1).trans rfl; have hcz9_2 : w8.cell? ⟨gb265, 2, none⟩ = some (.int .i64 0) := (blk_cell BK265.out 2).trans rfl; have hcz9_3 : w8.cell? ⟨gb265, 3, none⟩ = some (.int .i64 0) := (blk_cell BK265.out 3).trans rfl; have hcz9_4 : w8.cell? ⟨gb265, 4, none⟩ = some (.int .i64 0) := (blk_cell BK265.out 4).trans rfl; have hcz9_5 : w8.cell? ⟨gb265, 5, none⟩ = some (.int .i64 0) := (blk_cell BK265.out 5).trans rfl; have hcz9_6 : w8.cell? ⟨gb265, 6, none⟩ = some (.int .i64 0) := (blk_cell BK265.out 6).trans rfl; have hcz9_7 : w8.cell? ⟨gb265, 7, none⟩ = some (.int .i64 0) := (blk_cell BK265.out 7).trans rfl; have hcz9_8 : w8.cell? ⟨gb265, 8, none⟩ = some (.int .i64 0) := (blk_cell BK265.out 8).trans rfl; have hfz9_0 := blk_frozen BK265.out 0; have hfz9_1 := blk_frozen BK265.out 1; have hfz9_2 := blk_frozen BK265.out 2; have hfz9_3 := blk_frozen BK265.out 3; have hfz9_4 := blk_frozen BK265.out 4; have hfz9_5 := blk_frozen BK265.out 5; have hfz9_6 := blk_frozen BK265.out 6; have hfz9_7 := blk_frozen BK265.out 7; have hfz9_8 := blk_frozen BK265.out 8))
            go_loopg [6, 17] k1 (fun kq v6 v17 w' => ∃ (x6_2 : Int) (x17_2 : Int), v6 = .int .i64 x6_2 ∧ v17 = .int .i64 x17_2 ∧ Aside0 (L_scores.l1 kq l0 x3_1 x6_2 t261 (t261.length : Int) x11_1 l0 (l0.length : Int) x17_2 ((rd_T139 t261 x11_1).f0.f0) ((rd_T139 t261 x11_1).f0.f1) ((rd_T139 t261 x11_1).f0.f2) ((rd_T139 t261 x11_1).f1.f0) ((rd_T139 t261 x11_1).f1.f1) ((rd_T139 t261 x11_1).f1.f2) ((rd_T139 t261 x11_1).f2.f0) ((rd_T139 t261 x11_1).f2.f1) ((rd_T139 t261 x11_1).f2.f2) = some r) ∧ Aside0 (kq ≤ k1) ∧ Aside0 (Kd.R (Kd.int .i64) 3 w' w.heap.size (fun _ => True) u3 x3_1) ∧ Aside0 (Kd.R k139 139 w' w.heap.size (fun k_ => k_ ≠ gb265) (.slice (some ad264) t261.length co4) t261) ∧ Aside0 (w'.heap[gb265]? = some (.cells #[.int .i64 ((rd_T139 t261 x11_1).f0.f0), .int .i64 ((rd_T139 t261 x11_1).f0.f1), .int .i64 ((rd_T139 t261 x11_1).f0.f2), .int .i64 ((rd_T139 t261 x11_1).f1.f0), .int .i64 ((rd_T139 t261 x11_1).f1.f1), .int .i64 ((rd_T139 t261 x11_1).f1.f2), .int .i64 ((rd_T139 t261 x11_1).f2.f0), .int .i64 ((rd_T139 t261 x11_1).f2.f1), .int .i64 ((rd_T139 t261 x11_1).f2.f2)] 139 (0, 0))) ∧ Aside0 (Below w.heap.size w w'))
            case atStart => exact ⟨(0), (0), (by first | rfl | (simp; done) | (simp [*]; done)), (by first | rfl | (simp; done) | (simp [*]; done)), H', ⟨Nat.le_refl _⟩, ⟨by (with_reducible repeat (first | apply Kd.R_alloc | apply Kd.R_drewN | apply Kd.R_drew)); exact Kd.R_mono (Kd.R_far (p := ⟨gb265, 8, none⟩) (Kd.R_far (p := ⟨gb265, 7, none⟩) (Kd.R_far (p := ⟨gb265, 6, none⟩) (Kd.R_far (p := ⟨gb265, 5, none⟩) (Kd.R_far (p := ⟨gb265, 4, none⟩) (Kd.R_far (p := ⟨gb265, 3, none⟩) (Kd.R_far (p := ⟨gb265, 2, none⟩) (Kd.R_far (p := ⟨gb265, 1, none⟩) (Kd.R_far (p := ⟨gb265, 0, none⟩) (Kd.R_types HO_3.out BK265.out (by decide)) (fun _ hk => hk.2) (.int .i64 ((rd_T139 t261 x11_1).f0.f0))) (fun _ hk => hk.2) (.int .i64 ((rd_T139 t261 x11_1).f0.f1))) (fun _ hk => hk.2) (.int .i64 ((rd_T139 t261 x11_1).f0.f2))) (fun _ hk => hk.2) (.int .i64 ((rd_T139 t261 x11_1).f1.f0))) (fun _ hk => hk.2) (.int .i64 ((rd_T139 t261 x11_1).f1.f1))) (fun _ hk => hk.2) (.int .i64 ((rd_T139 t261 x11_1).f1.f2))) (fun _ hk => hk.2) (.int .i64 ((rd_T139 t261 x11_1).f2.f0))) (fun _ hk => hk.2) (.int .i64 ((rd_T139 t261 x11_1).f2.f1))) (fun _ hk => hk.2) (.int .i64 ((rd_T139 t261 x11_1).f2.f2))) (fun _ hk => trivial)⟩, ⟨by (with_reducible repeat (first | apply Kd.R_alloc | apply Kd.R_drewN | apply Kd.R_drew)); exact Kd.R_mono (Kd.R_far (p := ⟨gb265, 8, none⟩) (Kd.R_far (p := ⟨gb265, 7, none⟩) (Kd.R_far (p := ⟨gb265, 6, none⟩) (Kd.R_far (p := ⟨gb265, 5, none⟩) (Kd.R_far (p := ⟨gb265, 4, none⟩) (Kd.R_far (p := ⟨gb265, 3, none⟩) (Kd.R_far (p := ⟨gb265, 2, none⟩) (Kd.R_far (p := ⟨gb265, 1, none⟩) (Kd.R_far (p := ⟨gb265, 0, none⟩) (Kd.R_mono HO_9.out (fun k_ hk => (⟨hk, hk.2⟩ : _ ∧ k_ ≠ gb265))) (fun _ hk => hk.2) (.int .i64 ((rd_T139 t261 x11_1).f0.f0))) (fun _ hk => hk.2) (.int .i64 ((rd_T139 t261 x11_1).f0.f1))) (fun _ hk => hk.2) (.int .i64 ((rd_T139 t261 x11_1).f0.f2))) (fun _ hk => hk.2) (.int .i64 ((rd_T139 t261 x11_1).f1.f0))) (fun _ hk => hk.2) (.int .i64 ((rd_T139 t261 x11_1).f1.f1))) (fun _ hk => hk.2) (.int .i64 ((rd_T139 t261 x11_1).f1.f2))) (fun _ hk => hk.2) (.int .i64 ((rd_T139 t261 x11_1).f2.f0))) (fun _ hk => hk.2) (.int .i64 ((rd_T139 t261 x11_1).f2.f1))) (fun _ hk => hk.2) (.int .i64 ((rd_T139 t261 x11_1).f2.f2))) (fun _ hk => hk.1.2)⟩, ⟨bq BK265.out⟩, ⟨bz⟩⟩
            case round =>
              clear H'
              try clear hx2
              try clear hcz9_0
              try clear hcz9_1
              try clear hcz9_2
              try clear hcz9_3
              try clear hcz9_4
              try clear hcz9_5
              try clear hcz9_6
              try clear hcz9_7
              try clear hcz9_8
              try clear hfz9_0
              try clear hfz9_1
              try clear hfz9_2
              try clear hfz9_3
              try clear hfz9_4
              try clear hfz9_5
              try clear hfz9_6
              try clear hfz9_7
              try clear hfz9_8
              try clear hx264_0
              try clear hx264_1
              try clear hx264_2
              try clear hx264_3
              try clear hx264_4
              try clear hx264_5
              try clear hx264_6
              try clear hx264_7
              try clear hx264_8
              obtain ⟨x6_2, x17_2, rfl, rfl, HA, HK2, HO_3, HO_9, BK265, HB⟩ := hrel
              cases gk with
              | zero => exact absurd HA.out (by simp [L_scores.l1])
              | succ k2 =>
                have H := HA.out
                clear HA
                simp only [L_scores.l1] at H
                by_cases c10 : x17_2 < (l0.length : Int)
                · rw [if_pos c10] at H
                  have c10b0 := decide_eq_true c10
                  clear c10
                  by_cases c11 : 0 ≤ x17_2
                  · rw [if_pos c11] at H
                    have c11b0 := decide_eq_true c11
                    clear c11
                    by_cases c12 : x17_2 < (l0.length : Int)
                    · rw [if_pos c12] at H
                      have c12b0 := decide_eq_true c12
                      clear c12
                      replace H := ob H
                      obtain ⟨⟨t268, t269, t270⟩, A13, H⟩ := H
                      (try dsimp only at H)
                      replace A13 := m0 A13
                      replace H := ob H
                      obtain ⟨t271, A14, H⟩ := H
                      (try dsimp only at H)
                      replace A14 := m0 A14
                      have H' := m0 H
                      clear H
                      have p266 : 0 ≤ (x17_2 : Int) := od
                      have q266 : x17_2 < (l0.length : Int) := od
                      obtain ⟨ad266, e266, hx266_0, hx266_1, hx266_2, hx266_3, hx266_4, hx266_5⟩ := at_T126 HR0.out x17_2 p266 q266
                      cases e266
                      replace hx266_0 := (HB.out.cell (World.block_lt_of_cell? w _ hx266_0)).trans hx266_0
                      replace hx266_1 := (HB.out.cell (World.block_lt_of_cell? w _ hx266_1)).trans hx266_1
                      replace hx266_2 := (HB.out.cell (World.block_lt_of_cell? w _ hx266_2)).trans hx266_2
                      replace hx266_3 := (HB.out.cell (World.block_lt_of_cell? w _ hx266_3)).trans hx266_3
                      replace hx266_4 := (HB.out.cell (World.block_lt_of_cell? w _ hx266_4)).trans hx266_4
                      replace hx266_5 := (HB.out.cell (World.block_lt_of_cell? w _ hx266_5)).trans hx266_5
                      replace p266 := eq_true p266
                      replace q266 := eq_true q266
                      try go_wp2_with (first | ((with_reducible refine gate_dst (N := 8) rfl ?_); refine be 8 126 #[.int .i64 0, .int .i64 0, .int .i64 0, .int .i64 0, .int .i64 0, .int .i64 0] ?_; intro gb267 hg w15 hbox hb; replace HO_3 := rb HO_3 hb; replace HO_9 := rb HO_9 hb; have BK267 := m0 hbox; have GE267 := gw w hg; replace HB := sb HB hb; have NB265_267 := nl BK265 hg; have NB267_265 := ng (nl BK265 hg); replace BK265 := bb BK265 hb; clear hb hbox hg; have hnb16 := NB267_265.out; have hnc16 := NB265_267.out; have hcz17_0 : w15.cell? ⟨gb267, 0, none⟩ = some (.int .i64 0) := (blk_cell BK267.out 0).trans rfl; have hcz17_1 : w15.cell? ⟨gb267, 1, none⟩ = some (.int .i64 0) := (blk_cell BK267.out 1).trans rfl; have hcz17_2 : w15.cell? ⟨gb267, 2, none⟩ = some (.int .i64 0) := (blk_cell BK267.out 2).trans rfl; have hcz17_3 : w15.cell? ⟨gb267, 3, none⟩ = some (.int .i64 0) := (blk_cell BK267.out 3).trans rfl; have hcz17_4 : w15.cell? ⟨gb267, 4, none⟩ = some (.int .i64 0) := (blk_cell BK267.out 4).trans rfl; have hcz17_5 : w15.cell? ⟨gb267, 5, none⟩ = some (.int .i64 0) := (blk_cell BK267.out 5).trans rfl; have hfz17_0 := blk_frozen BK267.out 0; have hfz17_1 := blk_frozen BK267.out 1; have hfz17_2 := blk_frozen BK267.out 2; have hfz17_3 := blk_frozen BK267.out 3; have hfz17_4 := blk_frozen BK267.out 4; have hfz17_5 := blk_frozen BK267.out 5))
                      replace HO_3 : Aside0 (Kd.R (Kd.int .i64) 3 ((((((w15.setCell ⟨gb267, 0, none⟩ (.int .i64 ((rd_T126 l0 x17_2).f0.f0))).setCell ⟨gb267, 1, none⟩ (.int .i64 ((rd_T126 l0 x17_2).f0.f1))).setCell ⟨gb267, 2, none⟩ (.int .i64 ((rd_T126 l0 x17_2).f0.f2))).setCell ⟨gb267, 3, none⟩ (.int .i64 ((rd_T126 l0 x17_2).f1.f0))).setCell ⟨gb267, 4, none⟩ (.int .i64 ((rd_T126 l0 x17_2).f1.f1))).setCell ⟨gb267, 5, none⟩ (.int .i64 ((rd_T126 l0 x17_2).f1.f2))) w.heap.size (fun _ => True) u3 x3_1) := ⟨by (with_reducible repeat (first | apply Kd.R_alloc | apply Kd.R_drewN | apply Kd.R_drew)); exact Kd.R_mono (Kd.R_far (p := ⟨gb267, 5, none⟩) (Kd.R_far (p := ⟨gb267, 4, none⟩) (Kd.R_far (p := ⟨gb267, 3, none⟩) (Kd.R_far (p := ⟨gb267, 2, none⟩) (Kd.R_far (p := ⟨gb267, 1, none⟩) (Kd.R_far (p := ⟨gb267, 0, none⟩) (Kd.R_types HO_3.out BK267.out (by decide)) (fun _ hk => hk.2) (.int .i64 ((rd_T126 l0 x17_2).f0.f0))) (fun _ hk => hk.2) (.int .i64 ((rd_T126 l0 x17_2).f0.f1))) (fun _ hk => hk.2) (.int .i64 ((rd_T126 l0 x17_2).f0.f2))) (fun _ hk => hk.2) (.int .i64 ((rd_T126 l0 x17_2).f1.f0))) (fun _ hk => hk.2) (.int .i64 ((rd_T126 l0 x17_2).f1.f1))) (fun _ hk => hk.2) (.int .i64 ((rd_T126 l0 x17_2).f1.f2))) (fun _ hk => trivial)⟩
                      replace HO_9 : Aside0 (Kd.R k139 139 ((((((w15.setCell ⟨gb267, 0, none⟩ (.int .i64 ((rd_T126 l0 x17_2).f0.f0))).setCell ⟨gb267, 1, none⟩ (.int .i64 ((rd_T126 l0 x17_2).f0.f1))).setCell ⟨gb267, 2, none⟩ (.int .i64 ((rd_T126 l0 x17_2).f0.f2))).setCell ⟨gb267, 3, none⟩ (.int .i64 ((rd_T126 l0 x17_2).f1.f0))).setCell ⟨gb267, 4, none⟩ (.int .i64 ((rd_T126 l0 x17_2).f1.f1))).setCell ⟨gb267, 5, none⟩ (.int .i64 ((rd_T126 l0 x17_2).f1.f2))) w.heap.size (fun k_ => k_ ≠ gb265) (.slice (some ad264) t261.length co4) t261) := ⟨by (with_reducible repeat (first | apply Kd.R_alloc | apply Kd.R_drewN | apply Kd.R_drew)); exact Kd.R_mono (Kd.R_far (p := ⟨gb267, 5, none⟩) (Kd.R_far (p := ⟨gb267, 4, none⟩) (Kd.R_far (p := ⟨gb267, 3, none⟩) (Kd.R_far (p := ⟨gb267, 2, none⟩) (Kd.R_far (p := ⟨gb267, 1, none⟩) (Kd.R_far (p := ⟨gb267, 0, none⟩) (Kd.R_types HO_9.out BK267.out (by decide)) (fun _ hk => hk.2) (.int .i64 ((rd_T126 l0 x17_2).f0.f0))) (fun _ hk => hk.2) (.int .i64 ((rd_T126 l0 x17_2).f0.f1))) (fun _ hk => hk.2) (.int .i64 ((rd_T126 l0 x17_2).f0.f2))) (fun _ hk => hk.2) (.int .i64 ((rd_T126 l0 x17_2).f1.f0))) (fun _ hk => hk.2) (.int .i64 ((rd_T126 l0 x17_2).f1.f1))) (fun _ hk => hk.2) (.int .i64 ((rd_T126 l0 x17_2).f1.f2))) (fun _ hk => hk.1)⟩
                      replace BK265 : Aside0 (((((((w15.setCell ⟨gb267, 0, none⟩ (.int .i64 ((rd_T126 l0 x17_2).f0.f0))).setCell ⟨gb267, 1, none⟩ (.int .i64 ((rd_T126 l0 x17_2).f0.f1))).setCell ⟨gb267, 2, none⟩ (.int .i64 ((rd_T126 l0 x17_2).f0.f2))).setCell ⟨gb267, 3, none⟩ (.int .i64 ((rd_T126 l0 x17_2).f1.f0))).setCell ⟨gb267, 4, none⟩ (.int .i64 ((rd_T126 l0 x17_2).f1.f1))).setCell ⟨gb267, 5, none⟩ (.int .i64 ((rd_T126 l0 x17_2).f1.f2))).heap[gb265]? = some (.cells #[.int .i64 ((rd_T139 t261 x11_1).f0.f0), .int .i64 ((rd_T139 t261 x11_1).f0.f1), .int .i64 ((rd_T139 t261 x11_1).f0.f2), .int .i64 ((rd_T139 t261 x11_1).f1.f0), .int .i64 ((rd_T139 t261 x11_1).f1.f1), .int .i64 ((rd_T139 t261 x11_1).f1.f2), .int .i64 ((rd_T139 t261 x11_1).f2.f0), .int .i64 ((rd_T139 t261 x11_1).f2.f1), .int .i64 ((rd_T139 t261 x11_1).f2.f2)] 139 (0, 0))) := ⟨bq BK265.out⟩
                      replace BK267 : Aside0 (((((((w15.setCell ⟨gb267, 0, none⟩ (.int .i64 ((rd_T126 l0 x17_2).f0.f0))).setCell ⟨gb267, 1, none⟩ (.int .i64 ((rd_T126 l0 x17_2).f0.f1))).setCell ⟨gb267, 2, none⟩ (.int .i64 ((rd_T126 l0 x17_2).f0.f2))).setCell ⟨gb267, 3, none⟩ (.int .i64 ((rd_T126 l0 x17_2).f1.f0))).setCell ⟨gb267, 4, none⟩ (.int .i64 ((rd_T126 l0 x17_2).f1.f1))).setCell ⟨gb267, 5, none⟩ (.int .i64 ((rd_T126 l0 x17_2).f1.f2))).heap[gb267]? = some (.cells #[.int .i64 ((rd_T126 l0 x17_2).f0.f0), .int .i64 ((rd_T126 l0 x17_2).f0.f1), .int .i64 ((rd_T126 l0 x17_2).f0.f2), .int .i64 ((rd_T126 l0 x17_2).f1.f0), .int .i64 ((rd_T126 l0 x17_2).f1.f1), .int .i64 ((rd_T126 l0 x17_2).f1.f2)] 126 (0, 0))) := ⟨bq BK267.out⟩
                      replace HB : Aside0 (Below w.heap.size w ((((((w15.setCell ⟨gb267, 0, none⟩ (.int .i64 ((rd_T126 l0 x17_2).f0.f0))).setCell ⟨gb267, 1, none⟩ (.int .i64 ((rd_T126 l0 x17_2).f0.f1))).setCell ⟨gb267, 2, none⟩ (.int .i64 ((rd_T126 l0 x17_2).f0.f2))).setCell ⟨gb267, 3, none⟩ (.int .i64 ((rd_T126 l0 x17_2).f1.f0))).setCell ⟨gb267, 4, none⟩ (.int .i64 ((rd_T126 l0 x17_2).f1.f1))).setCell ⟨gb267, 5, none⟩ (.int .i64 ((rd_T126 l0 x17_2).f1.f2)))) := ⟨bz⟩
                      generalize ((((((w15.setCell ⟨gb267, 0, none⟩ (.int .i64 ((rd_T126 l0 x17_2).f0.f0))).setCell ⟨gb267, 1, none⟩ (.int .i64 ((rd_T126 l0 x17_2).f0.f1))).setCell ⟨gb267, 2, none⟩ (.int .i64 ((rd_T126 l0 x17_2).f0.f2))).setCell ⟨gb267, 3, none⟩ (.int .i64 ((rd_T126 l0 x17_2).f1.f0))).setCell ⟨gb267, 4, none⟩ (.int .i64 ((rd_T126 l0 x17_2).f1.f1))).setCell ⟨gb267, 5, none⟩ (.int .i64 ((rd_T126 l0 x17_2).f1.f2))) = w18 at HO_3 HO_9 BK265 BK267 HB ⊢
                      replace HO_3 := m0 (Kd.R_drew HO_3.out); replace HO_9 := m0 (Kd.R_drew HO_9.out); replace BK265 := bd BK265; replace BK267 := bd BK267; replace HB := sd HB
                      refine start_ (n := 10) (S := fun w' => w'.cell? ⟨gb267, 0, none⟩ = some (.int .i64 ((rd_T126 l0 x17_2).f0.f0)) ∧ w'.cell? ⟨gb267, 1, none⟩ = some (.int .i64 ((rd_T126 l0 x17_2).f0.f1)) ∧ w'.cell? ⟨gb267, 2, none⟩ = some (.int .i64 ((rd_T126 l0 x17_2).f0.f2)) ∧ w'.cell? ⟨gb267, 3, none⟩ = some (.int .i64 ((rd_T126 l0 x17_2).f1.f0)) ∧ w'.cell? ⟨gb267, 4, none⟩ = some (.int .i64 ((rd_T126 l0 x17_2).f1.f1)) ∧ w'.cell? ⟨gb267, 5, none⟩ = some (.int .i64 ((rd_T126 l0 x17_2).f1.f2)) ∧ w'.cell? ⟨gb265, 0, none⟩ = some (.int .i64 ((rd_T139 t261 x11_1).f0.f0)) ∧ w'.cell? ⟨gb265, 1, none⟩ = some (.int .i64 ((rd_T139 t261 x11_1).f0.f1)) ∧ w'.cell? ⟨gb265, 2, none⟩ = some (.int .i64 ((rd_T139 t261 x11_1).f0.f2)) ∧ w'.cell? ⟨gb265, 3, none⟩ = some (.int .i64 ((rd_T139 t261 x11_1).f1.f0)) ∧ w'.cell? ⟨gb265, 4, none⟩ = some (.int .i64 ((rd_T139 t261 x11_1).f1.f1)) ∧ w'.cell? ⟨gb265, 5, none⟩ = some (.int .i64 ((rd_T139 t261 x11_1).f1.f2)) ∧ w'.cell? ⟨gb265, 6, none⟩ = some (.int .i64 ((rd_T139 t261 x11_1).f2.f0)) ∧ w'.cell? ⟨gb265, 7, none⟩ = some (.int .i64 ((rd_T139 t261 x11_1).f2.f1)) ∧ w'.cell? ⟨gb265, 8, none⟩ = some (.int .i64 ((rd_T139 t261 x11_1).f2.f2))) (ds := []) #[false, false, false, false, false, false, false, false, false, false] (by kernel_rfl) rfl rfl cz (fun hH => ?_); refine with_tabW L_scores.tab9 L_scores.bits9 (fun HT_ HW_ => ?_)
                      generalize w18.drew = w19 at HO_3 HO_9 BK265 BK267 HB hH ⊢
                      refine pZ 0 (some 21) #[true, false, false, false, false, false, false, false, false, false] HT_ ?_
                      refine pZ 1 (some 22) #[true, true, false, false, false, false, false, false, false, false] HT_ ?_
                      refine pZ 4 (some 25) #[true, true, false, false, true, false, false, false, false, false] HT_ ?_
                      refine takeZ 2 (some 23) #[true, true, true, false, true, false, false, false, false, false] (take_ofW HT_.out HW_.out (by kernel_rfl)) hH ?_
                      refine takeZ 3 (some 24) #[true, true, true, true, true, false, false, false, false, false] (take_ofW HT_.out HW_.out (by kernel_rfl)) hH ?_
                      refine takeZ 5 (some 26) #[true, true, true, true, true, true, false, false, false, false] (take_ofW HT_.out HW_.out (by kernel_rfl)) hH ?_
                      refine oneZ 6 (some 27) #[true, true, true, true, true, true, true, false, false, false] (one_of HT_.out (by kernel_rfl)) fun K hK => ?_
                      refine gz Try.func86 #[.agg #[.int .i64 ((rd_T139 t261 x11_1).f0.f0), .int .i64 ((rd_T139 t261 x11_1).f0.f1), .int .i64 ((rd_T139 t261 x11_1).f0.f2), .int .i64 ((rd_T139 t261 x11_1).f1.f0), .int .i64 ((rd_T139 t261 x11_1).f1.f1), .int .i64 ((rd_T139 t261 x11_1).f1.f2), .int .i64 ((rd_T139 t261 x11_1).f2.f0), .int .i64 ((rd_T139 t261 x11_1).f2.f1), .int .i64 ((rd_T139 t261 x11_1).f2.f2)], .agg #[.int .i64 ((rd_T126 l0 x17_2).f0.f0), .int .i64 ((rd_T126 l0 x17_2).f0.f1), .int .i64 ((rd_T126 l0 x17_2).f0.f2)]] ?_
                      with_reducible refine (L_rotation_turned.calls ((rd_T139 t261 x11_1).f0.f0) ((rd_T139 t261 x11_1).f0.f1) ((rd_T139 t261 x11_1).f0.f2) ((rd_T139 t261 x11_1).f1.f0) ((rd_T139 t261 x11_1).f1.f1) ((rd_T139 t261 x11_1).f1.f2) ((rd_T139 t261 x11_1).f2.f0) ((rd_T139 t261 x11_1).f2.f1) ((rd_T139 t261 x11_1).f2.f2) ((rd_T126 l0 x17_2).f0.f0) ((rd_T126 l0 x17_2).f0.f1) ((rd_T126 l0 x17_2).f0.f2) t268 t269 t270 _ A13.out).mono ?_
                      rintro e w20 ⟨rfl, hb⟩
                      refine ⟨_, rfl, ?_⟩
                      replace HO_3 := rb HO_3 hb; replace HO_9 := rb HO_9 hb; replace BK265 := bb BK265 hb; replace BK267 := bb BK267 hb; replace HB := sb HB hb
                      (try clear hb)
                      refine hK.out _ _ cz (fun hH => ?_)
                      clear hK K
                      refine norm_ (a' := ?_) ?_ ?_
                      rotate_left
                      · show Act.put _ (some 27) _ = _
                        exact pz
                      refine oneZ 7 (some 28) #[true, true, true, true, true, true, true, true, false, false] (one_of HT_.out (by kernel_rfl)) fun K hK => ?_
                      refine gz Try.func130 #[.agg #[.int .i64 ((rd_T126 l0 x17_2).f1.f0), .int .i64 ((rd_T126 l0 x17_2).f1.f1), .int .i64 ((rd_T126 l0 x17_2).f1.f2)], .agg #[.int .i64 t268, .int .i64 t269, .int .i64 t270]] ?_
                      with_reducible refine (L_vector_dot.calls ((rd_T126 l0 x17_2).f1.f0) ((rd_T126 l0 x17_2).f1.f1) ((rd_T126 l0 x17_2).f1.f2) t268 t269 t270 t271 _ A14.out).mono ?_
                      rintro e w21 ⟨rfl, hb⟩
                      refine ⟨_, rfl, ?_⟩
                      replace HO_3 := rb HO_3 hb; replace HO_9 := rb HO_9 hb; replace BK265 := bb BK265 hb; replace BK267 := bb BK267 hb; replace HB := sb HB hb
                      (try clear hb)
                      refine hK.out _ _ cz (fun hH => ?_)
                      clear hK K
                      refine norm_ (a' := ?_) ?_ ?_
                      rotate_left
                      · show Act.put _ (some 28) _ = _
                        exact pz
                      refine pZ 8 (some 29) #[true, true, true, true, true, true, true, true, true, false] HT_ ?_
                      refine pZ 9 (some 6) #[true, true, true, true, true, true, true, true, true, true] HT_ ?_
                      refine done_ (done_of HT_.out (by kernel_rfl)) ?_
                      try go_wp2
                      go_roundg k2
                      case measure => have := HK1.out; have := HK2.out; omega
                      case rel => exact ⟨(wrap64 (x6_2 + t271)), (wrap64 (x17_2 + 1)), (by first | rfl | (simp; done) | (simp [*]; done)), (by first | rfl | (simp; done) | (simp [*]; done)), H', ⟨by have := HK1.out; have := HK2.out; omega⟩, ⟨br HO_3.out⟩, ⟨br HO_9.out⟩, ⟨bk BK265.out⟩, ⟨bz⟩⟩
                    · rw [if_neg c12] at H
                      exact absurd H (by simp)
                  · rw [if_neg c11] at H
                    exact absurd H (by simp)
                · rw [if_neg c10] at H
                  have c10b0 := decide_eq_false c10
                  clear c10
                  by_cases c22 : x3_1.length < 17592186044416
                  · rw [if_pos c22] at H
                    have LMc22 := m0 c22
                    clear c22
                    obtain ⟨y272, hy272⟩ : ∃ y_ : List Int, y_ = (x3_1 ++ [x6_2]) := ⟨_, rfl⟩
                    replace H : (L_scores.l0 k2 l0 y272 t261 (t261.length : Int) (wrap64 (x11_1 + 1))) = some r := by first | (rw [hy272]; with_reducible exact H) | (have H2_ := (Option.bind_some _ _).symm.trans H; rw [hy272]; with_reducible exact H2_) | (have H2_ := (Option.bind_some _ _).symm.trans H; with_reducible exact H2_) | with_reducible exact H | (rw [hy272]; exact H) | exact H
                    have Ny272 := m0 hy272
                    clear hy272
                    have H' := m0 H
                    clear H
                    go_wp2_with (first | ((with_reducible refine gate_builtin (b := .append) (xs := #[.tmp 31, .tmp 33]) rfl ?_); at_builtin; refine Kd.R_append (Kd.int .i64) (w0 := w) w.heap.size rfl (.tmp 31) (.tmp 33) 28 3 (.int .i64 0) 8 rfl Try.underlying28 info3 rfl (by decide) (by omega) u3 x3_1 x6_2 [.int .i64 x6_2] (fun _ => True) (fun _ => False) rfl rfl ?aP (fun _ hk => hk.elim) ?aF ?aO ?aB ?aS ?aL ?_; (case aP => exact rfl); (case aB => exact bz); (case aF => exact (fun _ _ => trivial)); (case aO => exact (br HO_3.out)); (case aS => exact (below_size bz)); (case aL => have := LMc22.out; omega); intro v273 w23 ho hb hg hat; rw [← Ny272.out] at ho; have n0_ := m0 (Kd.R_over' (br HO_9.out) (Kd.R_typed (br HO_3.out)) (by decide) hg); have n1_ := m0 (blk_grown (g := gb265) (o := .cells #[.int .i64 ((rd_T139 t261 x11_1).f0.f0), .int .i64 ((rd_T139 t261 x11_1).f0.f1), .int .i64 ((rd_T139 t261 x11_1).f0.f2), .int .i64 ((rd_T139 t261 x11_1).f1.f0), .int .i64 ((rd_T139 t261 x11_1).f1.f1), .int .i64 ((rd_T139 t261 x11_1).f1.f2), .int .i64 ((rd_T139 t261 x11_1).f2.f0), .int .i64 ((rd_T139 t261 x11_1).f2.f1), .int .i64 ((rd_T139 t261 x11_1).f2.f2)] 139 (0, 0)) (bk BK265.out) hg (Kd.R_ne HO_3.out BK265.out (by decide))); have n2_ := m0 (hb); have n3_ := m0 (ho); clear HO_9; clear BK265; clear HB; clear HO_3; have HO_9 := n0_; have BK265 := n1_; have HB := n2_; have HO274 := n3_; clear n0_ n1_ n2_ n3_; clear ho hb hg hat))
                    go_roundg k2
                    case measure => have := HK1.out; have := HK2.out; omega
                    case rel => exact ⟨(y272), (wrap64 (x11_1 + 1)), (by first | rfl | (simp; done) | (simp [*]; done)), H', ⟨by have := HK1.out; have := HK2.out; omega⟩, ⟨br HO274.out⟩, ⟨by (with_reducible repeat (first | apply Kd.R_alloc | apply Kd.R_drewN | apply Kd.R_drew)); exact Kd.R_mono HO_9.out (fun _ hk => trivial)⟩, ⟨bz⟩⟩
                  · rw [if_neg c22] at H
                    exact absurd H (by simp)
          · rw [if_neg c7] at H
            exact absurd H (by simp)
        · rw [if_neg c6] at H
          exact absurd H (by simp)
      · rw [if_neg c5] at H
        have c5b0 := decide_eq_false c5
        clear c5
        obtain rfl := Option.some.inj H
        go_wp2
        go_ret
        exact ⟨_, by first | rfl | (simp [errW_none, errW_some] <;> rfl) | (simp [*, errW_none, errW_some] <;> rfl), by (with_reducible repeat (first | apply Kd.R_alloc | apply Kd.R_drewN | apply Kd.R_drew)); exact HO_3.out, by repeat (first | (with_reducible first | exact HB.out | apply below_alloc | apply pw_below_drewN | apply below_drew1) | exact HB.out)⟩
end
section
def slices_Max_int_int.l0 : Nat → List Int → Int → Int → Option (Int)
  | 0, _, _, _ => none
  | k + 1, x0, x3, x4 => if x4 < (x0.length : Int) then (if 0 ≤ x4 then (slices_Max_int_int.l0 k x0 (mx x3 (rd x0 x4)) (wrap64 (x4 + 1))) else (none)) else (some x3)
def slices_Max_int_int.f (k : Nat) (l0 : List Int) : Option (Int) := if (l0.length : Int) < 1 then (none) else (if 0 < (l0.length : Int) then (slices_Max_int_int.l0 k l0 (rd l0 0) 1) else (none))
theorem slices_Max_int_int.mono_l : ∀ k, (∀ y0 y1 y2, LeO (slices_Max_int_int.l0 k y0 y1 y2) (slices_Max_int_int.l0 (k + 1) y0 y1 y2))
  | 0 => fun _ _ _ r h => by simp [slices_Max_int_int.l0] at h
  | k + 1 => by
    have ih0 := slices_Max_int_int.mono_l k
    · intro y0 y1 y2
      unfold slices_Max_int_int.l0
      repeat' with_reducible first
        | exact ih0 ..
        | exact LeO.refl ..
        | exact LeO.none ..
        | refine LeO.ite ?_ ?_
        | refine LeO.bind ?_ (fun _ => ?_)
theorem slices_Max_int_int.mono : ∀ a0 k, LeO (slices_Max_int_int.f k a0) (slices_Max_int_int.f (k + 1) a0) := by
  intro a0 k
  have ih0 := slices_Max_int_int.mono_l k
  unfold slices_Max_int_int.f
  repeat' with_reducible first
    | exact ih0 ..
    | exact LeO.refl ..
    | exact LeO.none ..
    | refine LeO.ite ?_ ?_
    | refine LeO.bind ?_ (fun _ => ?_)
theorem slices_Max_int_int.calls (k : Nat) (A0 : Option Addr) (c0 : Nat) (l0 : List Int) (r : Int) (w : World) (hr0 : Kd.C (Kd.int .i64) w A0 l0.length l0) (hc0 : l0.length ≤ c0) (h : slices_Max_int_int.f k l0 = some r) :
    Calls Try.prog 125 #[.slice A0 l0.length c0] w fun e w' => e = .returned (.int .i64 r) ∧ Below w.heap.size w w' := by
  have HR0 := m0 hr0
  have HC0 := m0 hc0
  clear hr0 hc0
  have HB := m0 (Below.refl w.heap.size w)
  have H : (if (l0.length : Int) < 1 then (none) else (if 0 < (l0.length : Int) then (slices_Max_int_int.l0 k l0 (rd l0 0) 1) else (none))) = some r := h
  clear h
  by_cases c2 : (l0.length : Int) < 1
  · rw [if_pos c2] at H
    exact absurd H (by simp)
  · rw [if_neg c2] at H
    have c2b0 := decide_eq_false c2
    have c2b1 : decide (l0.length < 1) = false := decide_eq_false (by omega)
    clear c2
    by_cases c3 : 0 < (l0.length : Int)
    · rw [if_pos c3] at H
      have c3b0 := decide_eq_true c3
      have c3b1 : decide (0 < l0.length) = true := decide_eq_true (by omega)
      clear c3
      have H' := m0 H
      clear H
      have p275 : 0 ≤ (0 : Int) := (by omega)
      have q275 : 0 < (l0.length : Int) := od
      obtain ⟨ad275, e275, hx275_0⟩ := Kd.at_int HR0.out 0 p275 q275
      cases e275
      have qi275 : (0 < l0.length) = True := eq_true (by omega)
      (try rw [show ((0 : Int)).toNat = 0 from rfl] at hx275_0)
      (try rw [Addr.add_zero'] at hx275_0)
      replace p275 := eq_true p275
      replace q275 := eq_true q275
      go_enter Try.func125, Try.ntmps125
      go_wp2
      go_loopg [3, 4] k (fun kq v3 v4 w' => ∃ (x3_1 : Int) (x4_1 : Int), v3 = .int .i64 x3_1 ∧ v4 = .int .i64 x4_1 ∧ Aside0 (slices_Max_int_int.l0 kq l0 x3_1 x4_1 = some r) ∧ Aside0 (kq ≤ k) ∧ Aside0 (Below w.heap.size w w'))
      case atStart => exact ⟨(rd l0 0), (1), (by first | rfl | (simp; done) | (simp [*]; done)), (by first | rfl | (simp; done) | (simp [*]; done)), H', ⟨Nat.le_refl _⟩, ⟨bz⟩⟩
      case round =>
        clear H'
        try clear hx2
        try clear qi2
        try clear hx275_0
        obtain ⟨x3_1, x4_1, rfl, rfl, HA, HK1, HB⟩ := hrel
        cases gk with
        | zero => exact absurd HA.out (by simp [slices_Max_int_int.l0])
        | succ k1 =>
          have H := HA.out
          clear HA
          simp only [slices_Max_int_int.l0] at H
          by_cases c4 : x4_1 < (l0.length : Int)
          · rw [if_pos c4] at H
            have c4b0 := decide_eq_true c4
            clear c4
            by_cases c5 : 0 ≤ x4_1
            · rw [if_pos c5] at H
              have c5b0 := decide_eq_true c5
              clear c5
              obtain ⟨ji6, hji6⟩ : ∃ j_ : Int, (mx x3_1 (rd l0 x4_1)) = j_ := ⟨_, rfl⟩
              replace H : (slices_Max_int_int.l0 k1 l0 ji6 (wrap64 (x4_1 + 1))) = some r := by first | (rw [hji6] at H; exact H) | (simp only [hji6] at H ⊢; exact H)
              have hji6_ : (if x3_1 < (rd l0 x4_1) then (rd l0 x4_1) else x3_1) = ji6 := hji6
              have H' := m0 H
              clear H
              have p276 : 0 ≤ (x4_1 : Int) := od
              have q276 : x4_1 < (l0.length : Int) := od
              obtain ⟨ad276, e276, hx276_0⟩ := Kd.at_int HR0.out x4_1 p276 q276
              obtain rfl : ad275 = ad276 := (by injection e276)
              replace hx276_0 := (HB.out.cell (World.block_lt_of_cell? w _ hx276_0)).trans hx276_0
              replace p276 := eq_true p276
              replace q276 := eq_true q276
              go_wp2
              go_roundg k1
              case measure => have := HK1.out; omega
              case rel => exact ⟨(ji6), (wrap64 (x4_1 + 1)), (by first | rfl | (simp; done) | (simp only [← hji6] <;> (first | rfl | simp)) | (simp [*]; done)), (by first | rfl | (simp; done) | (simp [*]; done)), H', ⟨by have := HK1.out; omega⟩, ⟨bz⟩⟩
            · rw [if_neg c5] at H
              exact absurd H (by simp)
          · rw [if_neg c4] at H
            have c4b0 := decide_eq_false c4
            clear c4
            obtain rfl := Option.some.inj H
            go_wp2
            go_ret
            exact ez
    · rw [if_neg c3] at H
      exact absurd H (by simp)
end
section
def slices_Index_int_int.l0 : Nat → List Int → Int → Int → Int → Option (Int)
 | 0, _, _, _, _ => none
 | k + 1, x0, x1, x7, x8 => if x8 < x7 then (if 0 ≤ x8 then (if x8 < (x0.length : Int) then (if x1 = (rd x0 x8) then (some x8) else (slices_Index_int_int.l0 k x0 x1 x7 (wrap64 (x8 + 1)))) else (none)) else (none)) else (some (-1))
def slices_Index_int_int.f (k : Nat) (l0 : List Int) (a1 : Int) : Option (Int) := slices_Index_int_int.l0 k l0 a1 (l0.length : Int) 0
theorem slices_Index_int_int.mono_l : ∀ k, (∀ y0 y1 y2 y3, LeO (slices_Index_int_int.l0 k y0 y1 y2 y3) (slices_Index_int_int.l0 (k + 1) y0 y1 y2 y3))
 | 0 => fun _ _ _ _ r h => by simp [slices_Index_int_int.l0] at h
 | k + 1 => by
  have ih0 := slices_Index_int_int.mono_l k
  ·intro y0 y1 y2 y3
   unfold slices_Index_int_int.l0
   repeat' with_reducible first
    | exact ih0 ..
    | exact LeO.refl ..
    | exact LeO.none ..
    | refine LeO.ite ?_ ?_
    | refine LeO.bind ?_ (fun _ => ?_)
theorem slices_Index_int_int.mono : ∀ a0 a1 k, LeO (slices_Index_int_int.f k a0 a1) (slices_Index_int_int.f (k + 1) a0 a1) := by
 intro a0 a1 k
 have ih0 := slices_Index_int_int.mono_l k
 unfold slices_Index_int_int.f
 repeat' with_reducible first
  | exact ih0 ..
  | exact LeO.refl ..
  | exact LeO.none ..
  | refine LeO.ite ?_ ?_
  | refine LeO.bind ?_ (fun _ => ?_)
theorem slices_Index_int_int.calls (k : Nat) (A0 : Option Addr) (c0 : Nat) (l0 : List Int) (a1 : Int) (r : Int) (w : World) (hr0 : Kd.C (Kd.int .i64) w A0 l0.length l0) (hc0 : l0.length ≤ c0) (h : slices_Index_int_int.f k l0 a1 = some r) :
  Calls Try.prog 126 #[.slice A0 l0.length c0, .int .i64 a1] w fun e w' => e = .returned (.int .i64 r) ∧ Drawn0 w w' := by
 have HR0 := m0 hr0
 have HC0 := m0 hc0
 clear hr0 hc0
 have H : (slices_Index_int_int.l0 k l0 a1 (l0.length : Int) 0) = some r := h
 clear h
 have H' := m0 H
 clear H
 go_enter Try.func126, Try.ntmps126
 go_wp2
 go_loopg [8] k (fun kq v8 w' => ∃ (x8_1 : Int), v8 = .int .i64 x8_1 ∧ Aside0 (slices_Index_int_int.l0 kq l0 a1 (l0.length : Int) x8_1 = some r) ∧ Aside0 (kq ≤ k) ∧ Drawn0 w w')
 case atStart => exact ⟨(0), (by first | rfl | (simp; done) | (simp [*]; done)), H', ⟨Nat.le_refl _⟩, by repeat (first | exact Drawn0.refl _ | apply Drawn0.step)⟩
 case round =>
  clear H'
  obtain ⟨x8_1, rfl, HA, HK1, ⟨m1, rfl⟩⟩ := hrel
  cases gk with
  | zero => exact absurd HA.out (by simp [slices_Index_int_int.l0])
  | succ k1 =>
   have H := HA.out
   clear HA
   simp only [slices_Index_int_int.l0] at H
   by_cases c3 : x8_1 < (l0.length : Int)
   ·rw [if_pos c3] at H
    have c3b0 := decide_eq_true c3
    clear c3
    by_cases c4 : 0 ≤ x8_1
    ·rw [if_pos c4] at H
     have c4b0 := decide_eq_true c4
     clear c4
     by_cases c5 : x8_1 < (l0.length : Int)
     ·rw [if_pos c5] at H
      have c5b0 := decide_eq_true c5
      clear c5
      by_cases c6 : a1 = (rd l0 x8_1)
      ·rw [if_pos c6] at H
       have c6b0 := beq_iff_eq.mpr c6
       have c6b1 := bne_eq_false_iff_eq.mpr c6
       clear c6
       obtain rfl := Option.some.inj H
       have p277 : 0 ≤ (x8_1 : Int) := od
       have q277 : x8_1 < (l0.length : Int) := od
       obtain ⟨ad277, e277, hx277_0⟩ := Kd.at_int HR0.out x8_1 p277 q277
       cases e277
       replace p277 := eq_true p277
       replace q277 := eq_true q277
       go_wp2
       go_ret
       exact ⟨by first | rfl | (simp; done) | (simp [*]; done), by repeat (first | exact Drawn0.refl _ | apply Drawn0.step)⟩
      ·rw [if_neg c6] at H
       have c6b0 := beq_eq_false_iff_ne.mpr c6
       have c6b1 := bne_iff_ne.mpr c6
       have H' := m0 H
       clear H
       have p277 : 0 ≤ (x8_1 : Int) := od
       have q277 : x8_1 < (l0.length : Int) := od
       obtain ⟨ad277, e277, hx277_0⟩ := Kd.at_int HR0.out x8_1 p277 q277
       cases e277
       replace p277 := eq_true p277
       replace q277 := eq_true q277
       go_wp2
       go_roundg k1
       case measure => have := HK1.out; omega
       case rel => exact ⟨(wrap64 (x8_1 + 1)), (by first | rfl | (simp; done) | (simp [*]; done)), H', ⟨by have := HK1.out; omega⟩, by repeat (first | exact Drawn0.refl _ | apply Drawn0.step)⟩
     ·rw [if_neg c5] at H
      exact absurd H (by simp)
    ·rw [if_neg c4] at H
     exact absurd H (by simp)
   ·rw [if_neg c3] at H
    have c3b0 := decide_eq_false c3
    clear c3
    obtain rfl := Option.some.inj H
    go_wp2
    go_ret
    exact ⟨by first | rfl | (simp; done) | (simp [*]; done), by repeat (first | exact Drawn0.refl _ | apply Drawn0.step)⟩
end
section
def L_PointingOf.f (k : Nat) (l0 : List (S126)) : Option (Int × Int × Int) := (L_sightsErr.f k l0).bind fun t278 => (if t278 = 0 then ((L_scores.f k l0).bind fun t279 => ((slices_Max_int_int.f k t279).bind fun t282 => ((slices_Index_int_int.f k t279 t282).bind fun t283 => (some (t283, t282, 0))))) else (some (0, 0, t278)))
theorem L_PointingOf.mono : ∀ a0 k, LeO (L_PointingOf.f k a0) (L_PointingOf.f (k + 1) a0) := by
 intro a0 k
 unfold L_PointingOf.f
 repeat' with_reducible first
  | exact slices_Index_int_int.mono ..
  | exact slices_Max_int_int.mono ..
  | exact L_scores.mono ..
  | exact L_sightsErr.mono ..
  | exact LeO.refl ..
  | exact LeO.none ..
  | refine LeO.ite ?_ ?_
  | refine LeO.bind ?_ (fun _ => ?_)
theorem L_PointingOf.calls (k : Nat) (A0 : Option Addr) (c0 : Nat) (l0 : List (S126)) (r1 : Int) (r2 : Int) (r3 : Int) (w : World) (hr0 : Kd.C k126 w A0 l0.length l0) (hc0 : l0.length ≤ c0) (h : L_PointingOf.f k l0 = some (r1, r2, r3)) :
  Calls Try.prog 65 #[.slice A0 l0.length c0] w fun e w' => e = .returned (.tuple #[.int .i64 r1, .int .i64 r2, .int .i64 r3]) ∧ Below w.heap.size w w' := by
 have HR0 := m0 hr0
 have HC0 := m0 hc0
 clear hr0 hc0
 have HB := m0 (Below.refl w.heap.size w)
 have H : ((L_sightsErr.f k l0).bind fun t278 => (if t278 = 0 then ((L_scores.f k l0).bind fun t279 => ((slices_Max_int_int.f k t279).bind fun t282 => ((slices_Index_int_int.f k t279 t282).bind fun t283 => (some (t283, t282, 0))))) else (some (0, 0, t278)))) = some (r1, r2, r3) := h
 clear h
 replace H := ob H
 obtain ⟨t278, A2, H⟩ := H
 (try dsimp only at H)
 replace A2 := m0 A2
 by_cases c3 : t278 = 0
 ·rw [if_pos c3] at H
  have c3b0 := beq_iff_eq.mpr c3
  have c3b1 := bne_eq_false_iff_eq.mpr c3
  clear c3
  replace H := ob H
  obtain ⟨t279, A4, H⟩ := H
  (try dsimp only at H)
  replace A4 := m0 A4
  replace H := ob H
  obtain ⟨t282, A5, H⟩ := H
  (try dsimp only at H)
  replace A5 := m0 A5
  replace H := ob H
  obtain ⟨t283, A6, H⟩ := H
  (try dsimp only at H)
  replace A6 := m0 A6
  simp only [Option.some.injEq, Prod.mk.injEq] at H
  obtain ⟨rfl, rfl, rfl⟩ := H
  go_enter Try.func65, Try.ntmps65
  go_wp2_with (first | ((with_reducible refine gate_callee (f := 123) rfl ?_); refine gl (some 9) Try.func123 #[.slice A0 l0.length c0] ?_; (with_reducible refine (L_sightsErr.calls k _ _ l0 t278 _ ?side1 ?side2 A2.out).mono ?_); (case side1 => repeat (first | exact HR0.out | (with_reducible refine Kd.C_alloc ?_ _) | (with_reducible refine Kd.C_drewN ?_ _) | (with_reducible refine Kd.C_drew ?_))); (case side2 => exact HC0.out); rintro e w7 ⟨rfl, hb⟩; refine ⟨_, rfl, ?_⟩; replace HB := sb HB hb; (try clear hb)) | ((with_reducible refine gate_callee (f := 124) rfl ?_); refine gl (some 14) Try.func124 #[.slice A0 l0.length c0] ?_; (with_reducible refine (L_scores.calls k _ _ l0 t279 _ ?side1 ?side2 A4.out).mono ?_); (case side1 => exact cb HR0 HB); (case side2 => exact HC0.out); rintro e w8 ⟨v280, rfl, ho0, hb⟩; refine ⟨_, rfl, ?_⟩; have HO281 := m0 (Kd.R_lower ho0 (below_size bz)); replace HB := sb HB hb; (try clear hb); (try clear ho0); obtain ⟨Ao9, co9, eo9⟩ := Kd.R_slice HO281.out; subst eo9) | ((with_reducible refine gate_callee (f := 125) rfl ?_); refine gl (some 16) Try.func125 #[.slice Ao9 t279.length co9] ?_; (with_reducible refine (slices_Max_int_int.calls k _ _ t279 t282 _ ?side1 ?side2 A5.out).mono ?_); (case side1 => exact bc (Kd.R_reads' HO281.out).2.2); (case side2 => exact (Kd.R_reads' HO281.out).2.1); rintro e w10 ⟨rfl, hb⟩; refine ⟨_, rfl, ?_⟩; replace HO281 := rb HO281 hb; replace HB := sb HB hb; (try clear hb)) | ((with_reducible refine gate_callee (f := 126) rfl ?_); refine gl (some 19) Try.func126 #[.slice Ao9 t279.length co9, .int .i64 t282] ?_; (with_reducible refine (slices_Index_int_int.calls k _ _ t279 t282 t283 _ ?side1 ?side2 A6.out).mono ?_); (case side1 => exact bc (Kd.R_reads' HO281.out).2.2); (case side2 => exact (Kd.R_reads' HO281.out).2.1); rintro e w' ⟨rfl, ⟨nd, rfl⟩⟩; refine ⟨_, rfl, ?_⟩))
  go_ret3
  exact ez
 ·rw [if_neg c3] at H
  have c3b0 := beq_eq_false_iff_ne.mpr c3
  have c3b1 := bne_iff_ne.mpr c3
  simp only [Option.some.injEq, Prod.mk.injEq] at H
  obtain ⟨rfl, rfl, rfl⟩ := H
  go_enter Try.func65, Try.ntmps65
  go_wp2_with (first | ((with_reducible refine gate_callee (f := 123) rfl ?_); refine gl (some 9) Try.func123 #[.slice A0 l0.length c0] ?_; (with_reducible refine (L_sightsErr.calls k _ _ l0 t278 _ ?side1 ?side2 A2.out).mono ?_); (case side1 => repeat (first | exact HR0.out | (with_reducible refine Kd.C_alloc ?_ _) | (with_reducible refine Kd.C_drewN ?_ _) | (with_reducible refine Kd.C_drew ?_))); (case side2 => exact HC0.out); rintro e w11 ⟨rfl, hb⟩; refine ⟨_, rfl, ?_⟩; replace HB := sb HB hb; (try clear hb)))
  go_ret3
  exact ez
end
section
def Lw_Readings.f  : Option ((List (S85))) := some (([(⟨100, 103, 2⟩ : S85), (⟨500, 504, 1⟩ : S85), (⟨900, 910, 3⟩ : S85)] : List (S85)))
theorem Lw_Readings.calls  (r : List (S85)) (w : World) (h : Lw_Readings.f  = some r) :
  Calls Try.prog 71 #[] w fun e w' => ∃ v0_ : Value, e = .returned (v0_) ∧ Kd.R k85 85 w' w.heap.size (fun _ => True) v0_ r ∧ Below w.heap.size w w' := by
 have hu85 := Try.underlying85
 have HB := m0 (Below.refl w.heap.size w)
 have H : (some (([(⟨100, 103, 2⟩ : S85), (⟨500, 504, 1⟩ : S85), (⟨900, 910, 3⟩ : S85)] : List (S85)))) = some r := h
 clear h
 obtain ⟨y284, hy284⟩ : ∃ y_ : List (S85), y_ = (([(⟨100, 103, 2⟩ : S85), (⟨500, 504, 1⟩ : S85), (⟨900, 910, 3⟩ : S85)] : List (S85))) := ⟨_, rfl⟩
 replace H : (some y284) = some r := by first | (rw [hy284]; with_reducible exact H) | (have H2_ := (Option.bind_some _ _).symm.trans H; rw [hy284]; with_reducible exact H2_) | (have H2_ := (Option.bind_some _ _).symm.trans H; with_reducible exact H2_) | with_reducible exact H | (rw [hy284]; exact H) | exact H
 have Ny284 := m0 hy284
 clear hy284
 obtain rfl := Option.some.inj H
 go_enter Try.func71, Try.ntmps71
 go_wp2_with (first | ((with_reducible refine gate_dst (N := 4) rfl ?_); refine Kd.R_lit k85 _ 85 ?hg (N := 4) ?hd (xs := ([(⟨100, 103, 2⟩ : S85), (⟨500, 504, 1⟩ : S85), (⟨900, 910, 3⟩ : S85)] : List (S85))) (inner := [.int .i64 100, .int .i64 103, .int .i64 2, .int .i64 500, .int .i64 504, .int .i64 1, .int .i64 900, .int .i64 910, .int .i64 3]) (ok := fun _ => True) (okp := fun _ => True) ?hr ?hp (fun _ hk => hk) trivial (Below.refl _ _) (Nat.le_refl _) (by simp) ?_; (case hd => rfl); (case hg => rfl); (case hr => first | (go_simp; done) | (go_simp; rfl)); (case hp => exact (Reps.c3 (show Kd.M k85 _ _ _ (⟨100, 103, 2⟩ : S85) [.int .i64 100, .int .i64 103, .int .i64 2] from (k85_mkM _ _ _ (⟨100, 103, 2⟩ : S85) )) (Reps.c3 (show Kd.M k85 _ _ _ (⟨500, 504, 1⟩ : S85) [.int .i64 500, .int .i64 504, .int .i64 1] from (k85_mkM _ _ _ (⟨500, 504, 1⟩ : S85) )) (Reps.c3 (show Kd.M k85 _ _ _ (⟨900, 910, 3⟩ : S85) [.int .i64 900, .int .i64 910, .int .i64 3] from (k85_mkM _ _ _ (⟨900, 910, 3⟩ : S85) )) (Reps.none _ _))))); intro v285 w1 ho2 hb hg_ hnew_; clear hg_ hnew_; (first | rw [← Ny284.out] at ho2 | (simp only [Int.reduceToNat] at ho2; rw [← Ny284.out] at ho2)); have HO286 := m0 (Kd.R_lower ho2 (below_size bz)); replace HB := sb HB hb; clear hb ho2))
 go_ret
 exact ⟨_, by first | rfl | (simp [errW_none, errW_some] <;> rfl) | (simp [*, errW_none, errW_some] <;> rfl), by (with_reducible repeat (first | apply Kd.R_alloc | apply Kd.R_drewN | apply Kd.R_drew)); exact HO286.out, by repeat (first | (with_reducible first | exact HB.out | apply below_alloc | apply pw_below_drewN | apply below_drew1) | exact HB.out)⟩
end
section
def Lw_Steps.f  : Option ((List (S85))) := some (([(⟨0, 1, 0⟩ : S85), (⟨1, 3, 0⟩ : S85), (⟨2, 8, 0⟩ : S85)] : List (S85)))
theorem Lw_Steps.calls  (r : List (S85)) (w : World) (h : Lw_Steps.f  = some r) :
  Calls Try.prog 72 #[] w fun e w' => ∃ v0_ : Value, e = .returned (v0_) ∧ Kd.R k85 85 w' w.heap.size (fun _ => True) v0_ r ∧ Below w.heap.size w w' := by
 have hu85 := Try.underlying85
 have HB := m0 (Below.refl w.heap.size w)
 have H : (some (([(⟨0, 1, 0⟩ : S85), (⟨1, 3, 0⟩ : S85), (⟨2, 8, 0⟩ : S85)] : List (S85)))) = some r := h
 clear h
 obtain ⟨y287, hy287⟩ : ∃ y_ : List (S85), y_ = (([(⟨0, 1, 0⟩ : S85), (⟨1, 3, 0⟩ : S85), (⟨2, 8, 0⟩ : S85)] : List (S85))) := ⟨_, rfl⟩
 replace H : (some y287) = some r := by first | (rw [hy287]; with_reducible exact H) | (have H2_ := (Option.bind_some _ _).symm.trans H; rw [hy287]; with_reducible exact H2_) | (have H2_ := (Option.bind_some _ _).symm.trans H; with_reducible exact H2_) | with_reducible exact H | (rw [hy287]; exact H) | exact H
 have Ny287 := m0 hy287
 clear hy287
 obtain rfl := Option.some.inj H
 go_enter Try.func72, Try.ntmps72
 go_wp2_with (first | ((with_reducible refine gate_dst (N := 4) rfl ?_); refine Kd.R_lit k85 _ 85 ?hg (N := 4) ?hd (xs := ([(⟨0, 1, 0⟩ : S85), (⟨1, 3, 0⟩ : S85), (⟨2, 8, 0⟩ : S85)] : List (S85))) (inner := [.int .i64 0, .int .i64 1, .int .i64 0, .int .i64 1, .int .i64 3, .int .i64 0, .int .i64 2, .int .i64 8, .int .i64 0]) (ok := fun _ => True) (okp := fun _ => True) ?hr ?hp (fun _ hk => hk) trivial (Below.refl _ _) (Nat.le_refl _) (by simp) ?_; (case hd => rfl); (case hg => rfl); (case hr => first | (go_simp; done) | (go_simp; rfl)); (case hp => exact (Reps.c3 (show Kd.M k85 _ _ _ (⟨0, 1, 0⟩ : S85) [.int .i64 0, .int .i64 1, .int .i64 0] from (k85_mkM _ _ _ (⟨0, 1, 0⟩ : S85) )) (Reps.c3 (show Kd.M k85 _ _ _ (⟨1, 3, 0⟩ : S85) [.int .i64 1, .int .i64 3, .int .i64 0] from (k85_mkM _ _ _ (⟨1, 3, 0⟩ : S85) )) (Reps.c3 (show Kd.M k85 _ _ _ (⟨2, 8, 0⟩ : S85) [.int .i64 2, .int .i64 8, .int .i64 0] from (k85_mkM _ _ _ (⟨2, 8, 0⟩ : S85) )) (Reps.none _ _))))); intro v288 w1 ho2 hb hg_ hnew_; clear hg_ hnew_; (first | rw [← Ny287.out] at ho2 | (simp only [Int.reduceToNat] at ho2; rw [← Ny287.out] at ho2)); have HO289 := m0 (Kd.R_lower ho2 (below_size bz)); replace HB := sb HB hb; clear hb ho2))
 go_ret
 exact ⟨_, by first | rfl | (simp [errW_none, errW_some] <;> rfl) | (simp [*, errW_none, errW_some] <;> rfl), by (with_reducible repeat (first | apply Kd.R_alloc | apply Kd.R_drewN | apply Kd.R_drew)); exact HO289.out, by repeat (first | (with_reducible first | exact HB.out | apply below_alloc | apply pw_below_drewN | apply below_drew1) | exact HB.out)⟩
end
section
def Lw_Sights.f  : Option ((List (S126))) := some (([(⟨(⟨1, 0, 0⟩ : S44), (⟨0, 1, 0⟩ : S44)⟩ : S126), (⟨(⟨0, 1, 0⟩ : S44), (⟨(-1), 0, 0⟩ : S44)⟩ : S126)] : List (S126)))
theorem Lw_Sights.calls  (r : List (S126)) (w : World) (h : Lw_Sights.f  = some r) :
  Calls Try.prog 73 #[] w fun e w' => ∃ v0_ : Value, e = .returned (v0_) ∧ Kd.R k126 126 w' w.heap.size (fun _ => True) v0_ r ∧ Below w.heap.size w w' := by
 have hu44 := Try.underlying44
 have hu126 := Try.underlying126
 have HB := m0 (Below.refl w.heap.size w)
 have H : (some (([(⟨(⟨1, 0, 0⟩ : S44), (⟨0, 1, 0⟩ : S44)⟩ : S126), (⟨(⟨0, 1, 0⟩ : S44), (⟨(-1), 0, 0⟩ : S44)⟩ : S126)] : List (S126)))) = some r := h
 clear h
 obtain ⟨y290, hy290⟩ : ∃ y_ : List (S126), y_ = (([(⟨(⟨1, 0, 0⟩ : S44), (⟨0, 1, 0⟩ : S44)⟩ : S126), (⟨(⟨0, 1, 0⟩ : S44), (⟨(-1), 0, 0⟩ : S44)⟩ : S126)] : List (S126))) := ⟨_, rfl⟩
 replace H : (some y290) = some r := by first | (rw [hy290]; with_reducible exact H) | (have H2_ := (Option.bind_some _ _).symm.trans H; rw [hy290]; with_reducible exact H2_) | (have H2_ := (Option.bind_some _ _).symm.trans H; with_reducible exact H2_) | with_reducible exact H | (rw [hy290]; exact H) | exact H
 have Ny290 := m0 hy290
 clear hy290
 obtain rfl := Option.some.inj H
 go_enter Try.func73, Try.ntmps73
 go_wp2_with (first | ((with_reducible refine gate_dst (N := 7) rfl ?_); refine Kd.R_lit k126 _ 126 ?hg (N := 7) ?hd (xs := ([(⟨(⟨1, 0, 0⟩ : S44), (⟨0, 1, 0⟩ : S44)⟩ : S126), (⟨(⟨0, 1, 0⟩ : S44), (⟨(-1), 0, 0⟩ : S44)⟩ : S126)] : List (S126))) (inner := [.int .i64 1, .int .i64 0, .int .i64 0, .int .i64 0, .int .i64 1, .int .i64 0, .int .i64 0, .int .i64 1, .int .i64 0, .int .i64 (-1), .int .i64 0, .int .i64 0]) (ok := fun _ => True) (okp := fun _ => True) ?hr ?hp (fun _ hk => hk) trivial (Below.refl _ _) (Nat.le_refl _) (by simp) ?_; (case hd => rfl); (case hg => rfl); (case hr => first | (go_simp; done) | (go_simp; rfl)); (case hp => exact (Reps.c6 (show Kd.M k126 _ _ _ (⟨(⟨1, 0, 0⟩ : S44), (⟨0, 1, 0⟩ : S44)⟩ : S126) [.int .i64 1, .int .i64 0, .int .i64 0, .int .i64 0, .int .i64 1, .int .i64 0] from (k126_mkM _ _ _ (⟨(⟨1, 0, 0⟩ : S44), (⟨0, 1, 0⟩ : S44)⟩ : S126) )) (Reps.c6 (show Kd.M k126 _ _ _ (⟨(⟨0, 1, 0⟩ : S44), (⟨(-1), 0, 0⟩ : S44)⟩ : S126) [.int .i64 0, .int .i64 1, .int .i64 0, .int .i64 (-1), .int .i64 0, .int .i64 0] from (k126_mkM _ _ _ (⟨(⟨0, 1, 0⟩ : S44), (⟨(-1), 0, 0⟩ : S44)⟩ : S126) )) (Reps.none _ _)))); intro v291 w1 ho2 hb hg_ hnew_; clear hg_ hnew_; (first | rw [← Ny290.out] at ho2 | (simp only [Int.reduceToNat] at ho2; rw [← Ny290.out] at ho2)); have HO292 := m0 (Kd.R_lower ho2 (below_size bz)); replace HB := sb HB hb; clear hb ho2))
 go_ret
 exact ⟨_, by first | rfl | (simp [errW_none, errW_some] <;> rfl) | (simp [*, errW_none, errW_some] <;> rfl), by (with_reducible repeat (first | apply Kd.R_alloc | apply Kd.R_drewN | apply Kd.R_drew)); exact HO292.out, by repeat (first | (with_reducible first | exact HB.out | apply below_alloc | apply pw_below_drewN | apply below_drew1) | exact HB.out)⟩
end
section
def Lw_Tasks.f  : Option ((List (S42))) := some (([(⟨(⟨#[97]⟩ : ByteArray), 2, 10⟩ : S42), (⟨(⟨#[98]⟩ : ByteArray), 1, 6⟩ : S42)] : List (S42)))
theorem Lw_Tasks.calls  (r : List (S42)) (w : World) (h : Lw_Tasks.f  = some r) :
  Calls Try.prog 74 #[] w fun e w' => ∃ v0_ : Value, e = .returned (v0_) ∧ Kd.R k42 42 w' w.heap.size (fun _ => True) v0_ r ∧ Below w.heap.size w w' := by
 have hu42 := Try.underlying42
 have HB := m0 (Below.refl w.heap.size w)
 have H : (some (([(⟨(⟨#[97]⟩ : ByteArray), 2, 10⟩ : S42), (⟨(⟨#[98]⟩ : ByteArray), 1, 6⟩ : S42)] : List (S42)))) = some r := h
 clear h
 obtain ⟨y293, hy293⟩ : ∃ y_ : List (S42), y_ = (([(⟨(⟨#[97]⟩ : ByteArray), 2, 10⟩ : S42), (⟨(⟨#[98]⟩ : ByteArray), 1, 6⟩ : S42)] : List (S42))) := ⟨_, rfl⟩
 replace H : (some y293) = some r := by first | (rw [hy293]; with_reducible exact H) | (have H2_ := (Option.bind_some _ _).symm.trans H; rw [hy293]; with_reducible exact H2_) | (have H2_ := (Option.bind_some _ _).symm.trans H; with_reducible exact H2_) | with_reducible exact H | (rw [hy293]; exact H) | exact H
 have Ny293 := m0 hy293
 clear hy293
 obtain rfl := Option.some.inj H
 go_enter Try.func74, Try.ntmps74
 go_wp2_with (first | ((with_reducible refine gate_dst (N := 3) rfl ?_); refine Kd.R_lit k42 _ 42 ?hg (N := 3) ?hd (xs := ([(⟨(⟨#[97]⟩ : ByteArray), 2, 10⟩ : S42), (⟨(⟨#[98]⟩ : ByteArray), 1, 6⟩ : S42)] : List (S42))) (inner := [.string (⟨#[97]⟩ : ByteArray), .int .i64 2, .int .i64 10, .string (⟨#[98]⟩ : ByteArray), .int .i64 1, .int .i64 6]) (ok := fun _ => True) (okp := fun _ => True) ?hr ?hp (fun _ hk => hk) trivial (Below.refl _ _) (Nat.le_refl _) (by simp) ?_; (case hd => rfl); (case hg => rfl); (case hr => first | (go_simp; done) | (go_simp; rfl)); (case hp => exact (Reps.c3 (show Kd.M k42 _ _ _ (⟨(⟨#[97]⟩ : ByteArray), 2, 10⟩ : S42) [.string (⟨#[97]⟩ : ByteArray), .int .i64 2, .int .i64 10] from (k42_mkM _ _ _ (⟨(⟨#[97]⟩ : ByteArray), 2, 10⟩ : S42) )) (Reps.c3 (show Kd.M k42 _ _ _ (⟨(⟨#[98]⟩ : ByteArray), 1, 6⟩ : S42) [.string (⟨#[98]⟩ : ByteArray), .int .i64 1, .int .i64 6] from (k42_mkM _ _ _ (⟨(⟨#[98]⟩ : ByteArray), 1, 6⟩ : S42) )) (Reps.none _ _)))); intro v294 w1 ho2 hb hg_ hnew_; clear hg_ hnew_; (first | rw [← Ny293.out] at ho2 | (simp only [Int.reduceToNat] at ho2; rw [← Ny293.out] at ho2)); have HO295 := m0 (Kd.R_lower ho2 (below_size bz)); replace HB := sb HB hb; clear hb ho2))
 go_ret
 exact ⟨_, by first | rfl | (simp [errW_none, errW_some] <;> rfl) | (simp [*, errW_none, errW_some] <;> rfl), by (with_reducible repeat (first | apply Kd.R_alloc | apply Kd.R_drewN | apply Kd.R_drew)); exact HO295.out, by repeat (first | (with_reducible first | exact HB.out | apply below_alloc | apply pw_below_drewN | apply below_drew1) | exact HB.out)⟩
end
end Go.Proofs.Ytibhfahbabgbaaa.A
