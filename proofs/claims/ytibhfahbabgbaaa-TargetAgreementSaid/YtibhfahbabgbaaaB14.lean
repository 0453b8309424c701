/- Walks of the program's functions (printed, made shorter), each with what it computes. -/
import Derived.Test.YtibhfahbabgbaaaB05
import Derived.Test.YtibhfahbabgbaaaB13
import Derived.Test.YtibhfahbabgbaaaB04
namespace Go.Proofs.Ytibhfahbabgbaaa.A
set_option maxHeartbeats 8000000
set_option maxRecDepth 100000
open Go.RowKit Go.Proofs.YtibhfahbabgbaaaW.PrintWords Go.Proofs.YtibhfahbabgbaaaW.PrintLast Go.Proofs.YtibhfahbabgbaaaW.PrintMore
attribute [local go_sem] max2_int min2_int max_two min_two max_three min_three max_four min_four
set_option linter.unusedVariables false
set_option linter.unusedSimpArgs false
section
mutual
def L_rotations.l0 : Nat → List (S137) → List (S139) → List (S137) → Int → Int → Option ((List (S139)))
  | 0, _, _, _, _, _ => none
  | k + 1, x1, x2, x14, x15, x16 => if x16 < x15 then (if 0 ≤ x16 then (if x16 < (x14.length : Int) then (L_rotations.l1 k x1 x2 x14 x15 x16 x1 (x1.length : Int) 0 ((rd_T137 x14 x16).f0) ((rd_T137 x14 x16).f1) ((rd_T137 x14 x16).f2)) else (none)) else (none)) else (some x2)
def L_rotations.l1 : Nat → List (S137) → List (S139) → List (S137) → Int → Int → List (S137) → Int → Int → Int → Int → Int → Option ((List (S139)))
  | 0, _, _, _, _, _, _, _, _, _, _, _ => none
  | k + 1, x1, x2, x14, x15, x16, x20, x21, x22, x246000, x246001, x246002 => if x22 < x21 then (if 0 ≤ x22 then (if x22 < (x20.length : Int) then ((L_vector_dot.f x246000 x246001 x246002 ((rd_T137 x20 x22).f0) ((rd_T137 x20 x22).f1) ((rd_T137 x20 x22).f2)).bind fun t248 => (if t248 = 0 then ((L_vector_cross.f x246000 x246001 x246002 ((rd_T137 x20 x22).f0) ((rd_T137 x20 x22).f1) ((rd_T137 x20 x22).f2)).bind fun bt249 => (if x2.length < 1954687338268 then (L_rotations.l1 k x1 (x2 ++ [(⟨(⟨x246000, x246001, x246002⟩ : S137), (⟨(rd_T137 x20 x22).f0, (rd_T137 x20 x22).f1, (rd_T137 x20 x22).f2⟩ : S137), (⟨bt249.1, bt249.2.1, bt249.2.2⟩ : S137)⟩ : S139)]) x14 x15 x16 x20 x21 (wrap64 (x22 + 1)) x246000 x246001 x246002) else (none))) else (L_rotations.l1 k x1 x2 x14 x15 x16 x20 x21 (wrap64 (x22 + 1)) x246000 x246001 x246002))) else (none)) else (none)) else (L_rotations.l0 k x1 x2 x14 x15 (wrap64 (x16 + 1)))
end
def L_rotations.f (k : Nat)  : Option ((List (S139))) := (some (([(⟨(-1), 0, 0⟩ : S137), (⟨0, (-1), 0⟩ : S137), (⟨0, 0, (-1)⟩ : S137), (⟨0, 0, 1⟩ : S137), (⟨0, 1, 0⟩ : S137), (⟨1, 0, 0⟩ : S137)] : List (S137)) : List (S137))).bind fun y241 => (L_rotations.l0 k y241 ([] : List (S139)) y241 (y241.length : Int) 0)
theorem L_rotations.mono_l : ∀ k, (∀ y0 y1 y2 y3 y4, LeO (L_rotations.l0 k y0 y1 y2 y3 y4) (L_rotations.l0 (k + 1) y0 y1 y2 y3 y4)) ∧ (∀ y0 y1 y2 y3 y4 y5 y6 y7 y8 y9 y10, LeO (L_rotations.l1 k y0 y1 y2 y3 y4 y5 y6 y7 y8 y9 y10) (L_rotations.l1 (k + 1) y0 y1 y2 y3 y4 y5 y6 y7 y8 y9 y10))
  | 0 => ⟨fun _ _ _ _ _ r h => by simp [L_rotations.l0] at h, fun _ _ _ _ _ _ _ _ _ _ _ r h => by simp [L_rotations.l1] at h⟩
  | k + 1 => by
    obtain ⟨ih0, ih1⟩ := L_rotations.mono_l k
    refine ⟨?_, ?_⟩
    · intro y0 y1 y2 y3 y4
      unfold L_rotations.l0
      repeat' with_reducible first
        | exact ih0 ..
        | exact ih1 ..
        | exact LeO.refl ..
        | exact LeO.none ..
        | refine LeO.ite ?_ ?_
        | refine LeO.bind ?_ (fun _ => ?_)
    · intro y0 y1 y2 y3 y4 y5 y6 y7 y8 y9 y10
      unfold L_rotations.l1
      repeat' with_reducible first
        | exact ih0 ..
        | exact ih1 ..
        | exact LeO.refl ..
        | exact LeO.none ..
        | refine LeO.ite ?_ ?_
        | refine LeO.bind ?_ (fun _ => ?_)
theorem L_rotations.mono : ∀ k, LeO (L_rotations.f k ) (L_rotations.f (k + 1) ) := by
  intro  k
  obtain ⟨ih0, ih1⟩ := L_rotations.mono_l k
  unfold L_rotations.f
  repeat' with_reducible first
    | exact ih0 ..
    | exact ih1 ..
    | exact LeO.refl ..
    | exact LeO.none ..
    | refine LeO.ite ?_ ?_
    | refine LeO.bind ?_ (fun _ => ?_)
def L_rotations.T10 : Bool × List (List Nat × List Nat) := (true, [([], []), ([], []), ([], []), ([], []), ([], []), ([3, 4], [3, 4]), ([1, 2, 5], [1, 2, 5]), ([6], [6]), ([0, 7, 5], [0, 7]), ([8, 8, 0, 1, 2, 3, 4, 5, 6, 7, 8], [0, 8])])
def L_rotations.B10 : List Nat := [0, 0, 0, 0, 0, 24, 62, 126, 255, 511]
theorem L_rotations.tab10 : rtab .any (opsOf Try.f84 10) = L_rotations.T10 := by kernel_rfl
theorem L_rotations.bits10 : waitsOk L_rotations.T10.2 L_rotations.B10 = true := by kernel_rfl
theorem L_rotations.calls (k : Nat)  (r : List (S139)) (w : World) (h : L_rotations.f k  = some r) :
    Calls Try.prog 84 #[] w fun e w' => ∃ v0_ : Value, e = .returned (v0_) ∧ Kd.R k139 139 w' w.heap.size (fun _ => True) v0_ r ∧ Below w.heap.size w w' := by
  have hu137 := Try.underlying137
  have hu139 := Try.underlying139
  have HB := m0 (Below.refl w.heap.size w)
  have H : ((some (([(⟨(-1), 0, 0⟩ : S137), (⟨0, (-1), 0⟩ : S137), (⟨0, 0, (-1)⟩ : S137), (⟨0, 0, 1⟩ : S137), (⟨0, 1, 0⟩ : S137), (⟨1, 0, 0⟩ : S137)] : List (S137)) : List (S137))).bind fun y241 => (L_rotations.l0 k y241 ([] : List (S139)) y241 (y241.length : Int) 0)) = some r := h
  clear h
  obtain ⟨y241, hy241⟩ : ∃ y_ : List (S137), y_ = (([(⟨(-1), 0, 0⟩ : S137), (⟨0, (-1), 0⟩ : S137), (⟨0, 0, (-1)⟩ : S137), (⟨0, 0, 1⟩ : S137), (⟨0, 1, 0⟩ : S137), (⟨1, 0, 0⟩ : S137)] : List (S137))) := ⟨_, rfl⟩
  replace H : (L_rotations.l0 k y241 ([] : List (S139)) y241 (y241.length : Int) 0) = some r := by first | (rw [hy241]; with_reducible exact H) | (have H2_ := (Option.bind_some _ _).symm.trans H; rw [hy241]; with_reducible exact H2_) | (have H2_ := (Option.bind_some _ _).symm.trans H; with_reducible exact H2_) | with_reducible exact H | (rw [hy241]; exact H) | exact H
  have Ny241 := m0 hy241
  clear hy241
  have H' := m0 H
  clear H
  go_enter Try.func84, Try.ntmps84
  go_wp2_with (first | ((with_reducible refine gate_dst (N := 13) rfl ?_); refine Kd.R_lit k137 _ 137 ?hg (N := 13) ?hd (xs := ([(⟨(-1), 0, 0⟩ : S137), (⟨0, (-1), 0⟩ : S137), (⟨0, 0, (-1)⟩ : S137), (⟨0, 0, 1⟩ : S137), (⟨0, 1, 0⟩ : S137), (⟨1, 0, 0⟩ : S137)] : List (S137))) (inner := [.int .i64 (-1), .int .i64 0, .int .i64 0, .int .i64 0, .int .i64 (-1), .int .i64 0, .int .i64 0, .int .i64 0, .int .i64 (-1), .int .i64 0, .int .i64 0, .int .i64 1, .int .i64 0, .int .i64 1, .int .i64 0, .int .i64 1, .int .i64 0, .int .i64 0]) (ok := fun _ => True) (okp := fun _ => True) ?hr ?hp (fun _ hk => hk) trivial (Below.refl _ _) (Nat.le_refl _) (by simp) ?_; (case hd => rfl); (case hg => rfl); (case hr => first | (go_simp; done) | (go_simp; rfl)); (case hp => exact (Reps.c3 (show Kd.M k137 _ _ _ (⟨(-1), 0, 0⟩ : S137) [.int .i64 (-1), .int .i64 0, .int .i64 0] from (k137_mkM _ _ _ (⟨(-1), 0, 0⟩ : S137) )) (Reps.c3 (show Kd.M k137 _ _ _ (⟨0, (-1), 0⟩ : S137) [.int .i64 0, .int .i64 (-1), .int .i64 0] from (k137_mkM _ _ _ (⟨0, (-1), 0⟩ : S137) )) (Reps.c3 (show Kd.M k137 _ _ _ (⟨0, 0, (-1)⟩ : S137) [.int .i64 0, .int .i64 0, .int .i64 (-1)] from (k137_mkM _ _ _ (⟨0, 0, (-1)⟩ : S137) )) (Reps.c3 (show Kd.M k137 _ _ _ (⟨0, 0, 1⟩ : S137) [.int .i64 0, .int .i64 0, .int .i64 1] from (k137_mkM _ _ _ (⟨0, 0, 1⟩ : S137) )) (Reps.c3 (show Kd.M k137 _ _ _ (⟨0, 1, 0⟩ : S137) [.int .i64 0, .int .i64 1, .int .i64 0] from (k137_mkM _ _ _ (⟨0, 1, 0⟩ : S137) )) (Reps.c3 (show Kd.M k137 _ _ _ (⟨1, 0, 0⟩ : S137) [.int .i64 1, .int .i64 0, .int .i64 0] from (k137_mkM _ _ _ (⟨1, 0, 0⟩ : S137) )) (Reps.none _ _)))))))); intro v242 w1 ho2 hb hg_ hnew_; clear hg_ hnew_; (first | rw [← Ny241.out] at ho2 | (simp only [Int.reduceToNat] at ho2; rw [← Ny241.out] at ho2)); have HO243 := m0 (Kd.R_lower ho2 (below_size bz)); replace HB := sb HB hb; clear hb ho2; obtain ⟨Ao3, co3, eo3⟩ := Kd.R_slice HO243.out; subst eo3))
  go_loopg [2, 16] k (fun kq v2 v16 w' => ∃ (x2_1 : List (S139)) (x16_1 : Int), v16 = .int .i64 x16_1 ∧ Aside0 (L_rotations.l0 kq y241 x2_1 y241 (y241.length : Int) x16_1 = some r) ∧ Aside0 (kq ≤ k) ∧ Aside0 (Kd.R k137 137 w' w.heap.size (fun _ => True) (.slice Ao3 y241.length co3) y241) ∧ Aside0 (Kd.R k139 139 w' w.heap.size (fun _ => True) v2 x2_1) ∧ Aside0 (Kd.R k137 137 w' w.heap.size (fun _ => True) (.slice Ao3 y241.length co3) y241) ∧ Aside0 (Below w.heap.size w w'))
  case atStart => exact ⟨(([] : List (S139))), (0), (by first | rfl | (simp; done) | (simp [*]; done)), H', ⟨Nat.le_refl _⟩, ⟨br HO243.out⟩, ⟨by first | exact Kd.R_nil _ _ _ _ _ | exact Kd.N_nil _ _ _ _ _ | exact Kd.V_nil _ _ _ _ _ | exact Kd.Q_nil _ _ _ _ _ | exact Kd.S_nil _ _ _ _ _⟩, ⟨br HO243.out⟩, ⟨bz⟩⟩
  case round =>
    clear H'
    obtain ⟨x2_1, x16_1, rfl, HA, HK1, HO_1, HO_2, HO_14, HB⟩ := hrel
    cases gk with
    | zero => exact absurd HA.out (by simp [L_rotations.l0])
    | succ k1 =>
      have H := HA.out
      clear HA
      simp only [L_rotations.l0] at H
      by_cases c4 : x16_1 < (y241.length : Int)
      · rw [if_pos c4] at H
        have c4b0 := decide_eq_true c4
        clear c4
        by_cases c5 : 0 ≤ x16_1
        · rw [if_pos c5] at H
          have c5b0 := decide_eq_true c5
          clear c5
          by_cases c6 : x16_1 < (y241.length : Int)
          · rw [if_pos c6] at H
            have c6b0 := decide_eq_true c6
            clear c6
            have H' := m0 H
            clear H
            have p244 : 0 ≤ (x16_1 : Int) := od
            have q244 : x16_1 < (y241.length : Int) := od
            obtain ⟨ad244, e244, hx244_0, hx244_1, hx244_2⟩ := at_T137 (Kd.R_reads' HO_14.out).2.2 x16_1 p244 q244
            cases e244
            replace p244 := eq_true p244
            replace q244 := eq_true q244
            go_wp2_with (first | ((with_reducible refine gate_dst (N := 4) rfl ?_); refine be 4 137 #[.int .i64 0, .int .i64 0, .int .i64 0] ?_; intro gb245 hg w7 hbox hb; replace HO_1 := m0 (Kd.R_below (Kd.R_elderB (br HO_1.out) gb245 (Nat.le_of_eq hg.symm)) hb); replace HO_2 := rb HO_2 hb; replace HO_14 := m0 (Kd.R_below (Kd.R_elderB (br HO_14.out) gb245 (Nat.le_of_eq hg.symm)) hb); have BK245 := m0 hbox; have GE245 := gw w hg; replace HB := sb HB hb; clear hb hbox hg; obtain ⟨hcz8_0, hcz8_1, hcz8_2, hfz8_0, hfz8_1, hfz8_2⟩ := b3 BK245))
            go_loopg [2, 22] k1 (fun kq v2 v22 w' => ∃ (x2_2 : List (S139)) (x22_2 : Int), v22 = .int .i64 x22_2 ∧ Aside0 (L_rotations.l1 kq y241 x2_2 y241 (y241.length : Int) x16_1 y241 (y241.length : Int) x22_2 ((rd_T137 y241 x16_1).f0) ((rd_T137 y241 x16_1).f1) ((rd_T137 y241 x16_1).f2) = some r) ∧ Aside0 (kq ≤ k1) ∧ Aside0 (Kd.R k137 137 w' w.heap.size (fun k_ => k_ ≠ gb245) (.slice (some ad244) y241.length co3) y241) ∧ Aside0 (Kd.R k139 139 w' w.heap.size (fun _ => True) v2 x2_2) ∧ Aside0 (Kd.R k137 137 w' w.heap.size (fun k_ => k_ ≠ gb245) (.slice (some ad244) y241.length co3) y241) ∧ Aside0 (Kd.R k137 137 w' w.heap.size (fun k_ => k_ ≠ gb245) (.slice (some ad244) y241.length co3) y241) ∧ Aside0 (w'.heap[gb245]? = some (.cells #[.int .i64 ((rd_T137 y241 x16_1).f0), .int .i64 ((rd_T137 y241 x16_1).f1), .int .i64 ((rd_T137 y241 x16_1).f2)] 137 (0, 0))) ∧ Aside0 (Below w.heap.size w w'))
            case atStart => exact ⟨(x2_1), (0), (by first | rfl | (simp; done) | (simp [*]; done)), H', ⟨Nat.le_refl _⟩, ⟨by (with_reducible repeat (first | apply Kd.R_alloc | apply Kd.R_drewN | apply Kd.R_drew)); exact Kd.R_mono (Kd.R_far (p := ⟨gb245, 2, none⟩) (Kd.R_far (p := ⟨gb245, 1, none⟩) (Kd.R_far (p := ⟨gb245, 0, none⟩) (Kd.R_mono HO_1.out (fun k_ hk => (⟨hk, hk.2⟩ : _ ∧ k_ ≠ gb245))) (fun _ hk => hk.2) (.int .i64 ((rd_T137 y241 x16_1).f0))) (fun _ hk => hk.2) (.int .i64 ((rd_T137 y241 x16_1).f1))) (fun _ hk => hk.2) (.int .i64 ((rd_T137 y241 x16_1).f2))) (fun _ hk => hk.1.2)⟩, ⟨by (with_reducible repeat (first | apply Kd.R_alloc | apply Kd.R_drewN | apply Kd.R_drew)); exact Kd.R_mono (Kd.R_far (p := ⟨gb245, 2, none⟩) (Kd.R_far (p := ⟨gb245, 1, none⟩) (Kd.R_far (p := ⟨gb245, 0, none⟩) (Kd.R_types HO_2.out BK245.out (by decide)) (fun _ hk => hk.2) (.int .i64 ((rd_T137 y241 x16_1).f0))) (fun _ hk => hk.2) (.int .i64 ((rd_T137 y241 x16_1).f1))) (fun _ hk => hk.2) (.int .i64 ((rd_T137 y241 x16_1).f2))) (fun _ hk => trivial)⟩, ⟨by (with_reducible repeat (first | apply Kd.R_alloc | apply Kd.R_drewN | apply Kd.R_drew)); exact Kd.R_mono (Kd.R_far (p := ⟨gb245, 2, none⟩) (Kd.R_far (p := ⟨gb245, 1, none⟩) (Kd.R_far (p := ⟨gb245, 0, none⟩) (Kd.R_mono HO_14.out (fun k_ hk => (⟨hk, hk.2⟩ : _ ∧ k_ ≠ gb245))) (fun _ hk => hk.2) (.int .i64 ((rd_T137 y241 x16_1).f0))) (fun _ hk => hk.2) (.int .i64 ((rd_T137 y241 x16_1).f1))) (fun _ hk => hk.2) (.int .i64 ((rd_T137 y241 x16_1).f2))) (fun _ hk => hk.1.2)⟩, ⟨by (with_reducible repeat (first | apply Kd.R_alloc | apply Kd.R_drewN | apply Kd.R_drew)); exact Kd.R_mono (Kd.R_far (p := ⟨gb245, 2, none⟩) (Kd.R_far (p := ⟨gb245, 1, none⟩) (Kd.R_far (p := ⟨gb245, 0, none⟩) (Kd.R_mono HO_1.out (fun k_ hk => (⟨hk, hk.2⟩ : _ ∧ k_ ≠ gb245))) (fun _ hk => hk.2) (.int .i64 ((rd_T137 y241 x16_1).f0))) (fun _ hk => hk.2) (.int .i64 ((rd_T137 y241 x16_1).f1))) (fun _ hk => hk.2) (.int .i64 ((rd_T137 y241 x16_1).f2))) (fun _ hk => hk.1.2)⟩, ⟨bq BK245.out⟩, ⟨bz⟩⟩
            case round =>
              clear H'
              try clear hx2
              try clear hcz8_0
              try clear hcz8_1
              try clear hcz8_2
              try clear hfz8_0
              try clear hfz8_1
              try clear hfz8_2
              try clear hx244_0
              try clear hx244_1
              try clear hx244_2
              obtain ⟨x2_2, x22_2, rfl, HA, HK2, HO_1, HO_2, HO_14, HO_20, BK245, HB⟩ := hrel
              cases gk with
              | zero => exact absurd HA.out (by simp [L_rotations.l1])
              | succ k2 =>
                have H := HA.out
                clear HA
                simp only [L_rotations.l1] at H
                by_cases c9 : x22_2 < (y241.length : Int)
                · rw [if_pos c9] at H
                  have c9b0 := decide_eq_true c9
                  clear c9
                  by_cases c10 : 0 ≤ x22_2
                  · rw [if_pos c10] at H
                    have c10b0 := decide_eq_true c10
                    clear c10
                    by_cases c11 : x22_2 < (y241.length : Int)
                    · rw [if_pos c11] at H
                      have c11b0 := decide_eq_true c11
                      clear c11
                      replace H := ob H
                      obtain ⟨t248, A12, H⟩ := H
                      (try dsimp only at H)
                      replace A12 := m0 A12
                      by_cases c13 : t248 = 0
                      · rw [if_pos c13] at H
                        have c13b0 := beq_iff_eq.mpr c13
                        have c13b1 := bne_eq_false_iff_eq.mpr c13
                        clear c13
                        replace H := ob H
                        obtain ⟨⟨t249, t250, t251⟩, A14, H⟩ := H
                        (try dsimp only at H)
                        replace A14 := m0 A14
                        by_cases c15 : x2_2.length < 1954687338268
                        · rw [if_pos c15] at H
                          have LMc15 := m0 c15
                          clear c15
                          obtain ⟨y252, hy252⟩ : ∃ y_ : List (S139), y_ = (x2_2 ++ [(⟨(⟨((rd_T137 y241 x16_1).f0), ((rd_T137 y241 x16_1).f1), ((rd_T137 y241 x16_1).f2)⟩ : S137), (⟨(rd_T137 y241 x22_2).f0, (rd_T137 y241 x22_2).f1, (rd_T137 y241 x22_2).f2⟩ : S137), (⟨t249, t250, t251⟩ : S137)⟩ : S139)]) := ⟨_, rfl⟩
                          replace H : (L_rotations.l1 k2 y241 y252 y241 (y241.length : Int) x16_1 y241 (y241.length : Int) (wrap64 (x22_2 + 1)) ((rd_T137 y241 x16_1).f0) ((rd_T137 y241 x16_1).f1) ((rd_T137 y241 x16_1).f2)) = some r := by first | (rw [hy252]; with_reducible exact H) | (have H2_ := (Option.bind_some _ _).symm.trans H; rw [hy252]; with_reducible exact H2_) | (have H2_ := (Option.bind_some _ _).symm.trans H; with_reducible exact H2_) | with_reducible exact H | (rw [hy252]; exact H) | exact H
                          have Ny252 := m0 hy252
                          clear hy252
                          have H' := m0 H
                          clear H
                          have p246 : 0 ≤ (x22_2 : Int) := od
                          have q246 : x22_2 < (y241.length : Int) := od
                          obtain ⟨ad246, e246, hx246_0, hx246_1, hx246_2⟩ := at_T137 (Kd.R_reads' HO_20.out).2.2 x22_2 p246 q246
                          obtain rfl : ad244 = ad246 := (by injection e246)
                          replace p246 := eq_true p246
                          replace q246 := eq_true q246
                          try go_wp2_with (first | ((with_reducible refine gate_dst (N := 6) rfl ?_); refine be 6 137 #[.int .i64 0, .int .i64 0, .int .i64 0] ?_; intro gb247 hg w16 hbox hb; replace HO_1 := m0 (Kd.R_below (Kd.R_elderB (br HO_1.out) gb247 (Nat.le_of_eq hg.symm)) hb); replace HO_2 := rb HO_2 hb; replace HO_14 := m0 (Kd.R_below (Kd.R_elderB (br HO_14.out) gb247 (Nat.le_of_eq hg.symm)) hb); replace HO_20 := m0 (Kd.R_below (Kd.R_elderB (br HO_20.out) gb247 (Nat.le_of_eq hg.symm)) hb); have BK247 := m0 hbox; have GE247 := gw w hg; replace HB := sb HB hb; have NB245_247 := nl BK245 hg; have NB247_245 := ng (nl BK245 hg); replace BK245 := bb BK245 hb; clear hb hbox hg; have hnb17 := NB247_245.out; have hnc17 := NB245_247.out; obtain ⟨_, _, _, _, _, _⟩ := b3 BK247; obtain ⟨_, _, _, _, _, _⟩ := b3 BK245) | ((with_reducible refine gate_callee (f := 130) rfl ?_); refine gl (some 28) Try.func130 #[.agg #[.int .i64 ((rd_T137 y241 x16_1).f0), .int .i64 ((rd_T137 y241 x16_1).f1), .int .i64 ((rd_T137 y241 x16_1).f2)], .agg #[.int .i64 ((rd_T137 y241 x22_2).f0), .int .i64 ((rd_T137 y241 x22_2).f1), .int .i64 ((rd_T137 y241 x22_2).f2)]] ?_; (with_reducible refine (L_vector_dot.calls ((rd_T137 y241 x16_1).f0) ((rd_T137 y241 x16_1).f1) ((rd_T137 y241 x16_1).f2) ((rd_T137 y241 x22_2).f0) ((rd_T137 y241 x22_2).f1) ((rd_T137 y241 x22_2).f2) t248 _ A12.out).mono ?_); rintro e w20 ⟨rfl, hb⟩; refine ⟨_, rfl, ?_⟩; replace HO_1 := m0 (Kd.R_below (by (with_reducible repeat (first | apply Kd.R_alloc | apply Kd.R_drewN | apply Kd.R_drew)); exact (Kd.R_mono (Kd.R_far (p := ⟨gb247, 2, none⟩) (Kd.R_far (p := ⟨gb247, 1, none⟩) (Kd.R_far (p := ⟨gb247, 0, none⟩) (Kd.R_mono HO_1.out (fun k_ hk => (⟨hk, hk.2⟩ : _ ∧ k_ ≠ gb247))) (fun _ hk => hk.2) (.int .i64 ((rd_T137 y241 x22_2).f0))) (fun _ hk => hk.2) (.int .i64 ((rd_T137 y241 x22_2).f1))) (fun _ hk => hk.2) (.int .i64 ((rd_T137 y241 x22_2).f2))) (fun _ h_ => h_.1))) hb); replace HO_2 := m0 (Kd.R_below (by (with_reducible repeat (first | apply Kd.R_alloc | apply Kd.R_drewN | apply Kd.R_drew)); exact (Kd.R_mono (Kd.R_far (p := ⟨gb247, 2, none⟩) (Kd.R_far (p := ⟨gb247, 1, none⟩) (Kd.R_far (p := ⟨gb247, 0, none⟩) (Kd.R_types HO_2.out BK247.out (by decide)) (fun _ hk => hk.2) (.int .i64 ((rd_T137 y241 x22_2).f0))) (fun _ hk => hk.2) (.int .i64 ((rd_T137 y241 x22_2).f1))) (fun _ hk => hk.2) (.int .i64 ((rd_T137 y241 x22_2).f2))) (fun _ h_ => h_.1))) hb); replace HO_14 := m0 (Kd.R_below (by (with_reducible repeat (first | apply Kd.R_alloc | apply Kd.R_drewN | apply Kd.R_drew)); exact (Kd.R_mono (Kd.R_far (p := ⟨gb247, 2, none⟩) (Kd.R_far (p := ⟨gb247, 1, none⟩) (Kd.R_far (p := ⟨gb247, 0, none⟩) (Kd.R_mono HO_14.out (fun k_ hk => (⟨hk, hk.2⟩ : _ ∧ k_ ≠ gb247))) (fun _ hk => hk.2) (.int .i64 ((rd_T137 y241 x22_2).f0))) (fun _ hk => hk.2) (.int .i64 ((rd_T137 y241 x22_2).f1))) (fun _ hk => hk.2) (.int .i64 ((rd_T137 y241 x22_2).f2))) (fun _ h_ => h_.1))) hb); replace HO_20 := m0 (Kd.R_below (by (with_reducible repeat (first | apply Kd.R_alloc | apply Kd.R_drewN | apply Kd.R_drew)); exact (Kd.R_mono (Kd.R_far (p := ⟨gb247, 2, none⟩) (Kd.R_far (p := ⟨gb247, 1, none⟩) (Kd.R_far (p := ⟨gb247, 0, none⟩) (Kd.R_mono HO_20.out (fun k_ hk => (⟨hk, hk.2⟩ : _ ∧ k_ ≠ gb247))) (fun _ hk => hk.2) (.int .i64 ((rd_T137 y241 x22_2).f0))) (fun _ hk => hk.2) (.int .i64 ((rd_T137 y241 x22_2).f1))) (fun _ hk => hk.2) (.int .i64 ((rd_T137 y241 x22_2).f2))) (fun _ h_ => h_.1))) hb); replace BK245 := m0 (blk_below (g := gb245) (o := .cells #[.int .i64 ((rd_T137 y241 x16_1).f0), .int .i64 ((rd_T137 y241 x16_1).f1), .int .i64 ((rd_T137 y241 x16_1).f2)] 137 (0, 0)) (bq BK245.out) hb); replace BK247 := m0 (blk_below (g := gb247) (o := .cells #[.int .i64 ((rd_T137 y241 x22_2).f0), .int .i64 ((rd_T137 y241 x22_2).f1), .int .i64 ((rd_T137 y241 x22_2).f2)] 137 (0, 0)) (bq BK247.out) hb); replace HB := sb HB hb; (try clear hb)))
                          replace HO_1 := m0 (Kd.R_drew HO_1.out); replace HO_2 := m0 (Kd.R_drew HO_2.out); replace HO_14 := m0 (Kd.R_drew HO_14.out); replace HO_20 := m0 (Kd.R_drew HO_20.out); replace BK245 := bd BK245; replace BK247 := bd BK247; replace HB := sd HB
                          refine start_ (n := 10) (S := fun w' => w'.cell? ⟨gb245, 0, none⟩ = some (.int .i64 ((rd_T137 y241 x16_1).f0)) ∧ w'.cell? ⟨gb245, 1, none⟩ = some (.int .i64 ((rd_T137 y241 x16_1).f1)) ∧ w'.cell? ⟨gb245, 2, none⟩ = some (.int .i64 ((rd_T137 y241 x16_1).f2)) ∧ w'.cell? ⟨gb247, 0, none⟩ = some (.int .i64 ((rd_T137 y241 x22_2).f0)) ∧ w'.cell? ⟨gb247, 1, none⟩ = some (.int .i64 ((rd_T137 y241 x22_2).f1)) ∧ w'.cell? ⟨gb247, 2, none⟩ = some (.int .i64 ((rd_T137 y241 x22_2).f2))) (ds := []) #[false, false, false, false, false, false, false, false, false, false] (by kernel_rfl) rfl rfl cz (fun hH => ?_); refine with_tabW L_rotations.tab10 L_rotations.bits10 (fun HT_ HW_ => ?_)
                          generalize w20.drew = w21 at HO_1 HO_2 HO_14 HO_20 BK245 BK247 HB hH ⊢
                          refine pZ 0 (some 30) #[true, false, false, false, false, false, false, false, false, false] HT_ ?_
                          refine takeZ 1 (some 31) #[true, true, false, false, false, false, false, false, false, false] (take_ofW HT_.out HW_.out (by kernel_rfl)) hH ?_
                          refine takeZ 2 (some 32) #[true, true, true, false, false, false, false, false, false, false] (take_ofW HT_.out HW_.out (by kernel_rfl)) hH ?_
                          refine takeZ 3 (some 33) #[true, true, true, true, false, false, false, false, false, false] (take_ofW HT_.out HW_.out (by kernel_rfl)) hH ?_
                          refine takeZ 4 (some 34) #[true, true, true, true, true, false, false, false, false, false] (take_ofW HT_.out HW_.out (by kernel_rfl)) hH ?_
                          refine oneZ 5 (some 35) #[true, true, true, true, true, true, false, false, false, false] (one_of HT_.out (by kernel_rfl)) fun K hK => ?_
                          refine gz Try.func131 #[.agg #[.int .i64 ((rd_T137 y241 x16_1).f0), .int .i64 ((rd_T137 y241 x16_1).f1), .int .i64 ((rd_T137 y241 x16_1).f2)], .agg #[.int .i64 ((rd_T137 y241 x22_2).f0), .int .i64 ((rd_T137 y241 x22_2).f1), .int .i64 ((rd_T137 y241 x22_2).f2)]] ?_
                          with_reducible refine (L_vector_cross.calls ((rd_T137 y241 x16_1).f0) ((rd_T137 y241 x16_1).f1) ((rd_T137 y241 x16_1).f2) ((rd_T137 y241 x22_2).f0) ((rd_T137 y241 x22_2).f1) ((rd_T137 y241 x22_2).f2) t249 t250 t251 _ A14.out).mono ?_
                          rintro e w22 ⟨rfl, hb⟩
                          refine ⟨_, rfl, ?_⟩
                          replace HO_1 := rb HO_1 hb; replace HO_2 := rb HO_2 hb; replace HO_14 := rb HO_14 hb; replace HO_20 := rb HO_20 hb; replace BK245 := bb BK245 hb; replace BK247 := bb BK247 hb; replace HB := sb HB hb
                          (try clear hb)
                          refine hK.out _ _ cz (fun hH => ?_)
                          clear hK K
                          refine norm_ (a' := ?_) ?_ ?_
                          rotate_left
                          · show Act.put _ (some 35) _ = _
                            exact pz
                          refine pZ 6 (some 36) #[true, true, true, true, true, true, true, false, false, false] HT_ ?_
                          refine oneZ 7 (some 37) #[true, true, true, true, true, true, true, true, false, false] (one_of HT_.out (by kernel_rfl)) fun K hK => ?_
                          refine value_ (w1 := ?_) (v := ?_) (by rfl) rfl ?_ ?_
                          rotate_left 2
                          · go_simp
                            constructor
                            · rfl
                            · rfl
                          refine hK.out _ _ ⟨(blk_cell (blk_alloc BK245.out _) 0).trans rfl, (blk_cell (blk_alloc BK245.out _) 1).trans rfl, (blk_cell (blk_alloc BK245.out _) 2).trans rfl, (blk_cell (blk_alloc BK247.out _) 0).trans rfl, (blk_cell (blk_alloc BK247.out _) 1).trans rfl, (blk_cell (blk_alloc BK247.out _) 2).trans rfl⟩ (fun hH => ?_)
                          clear hK K
                          refine norm_ (a' := ?_) ?_ ?_
                          rotate_left
                          · show Act.put _ (some 37) _ = _
                            exact pz
                          refine oneZ 8 (some 38) #[true, true, true, true, true, true, true, true, true, false] (one_of HT_.out (by kernel_rfl)) fun K hK => ?_
                          refine Kd.R_append_step k139 (w0 := w) w.heap.size (by rfl) (.tmp 30) (.tmp 37) 140 139 (.agg #[(.int .i64 0), (.int .i64 0), (.int .i64 0), (.int .i64 0), (.int .i64 0), (.int .i64 0), (.int .i64 0), (.int .i64 0), (.int .i64 0)]) 72 rfl Try.underlying140 info139 rfl (by decide) (by omega) u2 x2_2 (⟨(⟨((rd_T137 y241 x16_1).f0), ((rd_T137 y241 x16_1).f1), ((rd_T137 y241 x16_1).f2)⟩ : S137), (⟨(rd_T137 y241 x22_2).f0, (rd_T137 y241 x22_2).f1, (rd_T137 y241 x22_2).f2⟩ : S137), (⟨t249, t250, t251⟩ : S137)⟩ : S139) [.int .i64 ((rd_T137 y241 x16_1).f0), .int .i64 ((rd_T137 y241 x16_1).f1), .int .i64 ((rd_T137 y241 x16_1).f2), .int .i64 ((rd_T137 y241 x22_2).f0), .int .i64 ((rd_T137 y241 x22_2).f1), .int .i64 ((rd_T137 y241 x22_2).f2), .int .i64 t249, .int .i64 t250, .int .i64 t251] (fun _ => True) (fun _ => False) rfl rfl ?aP (fun _ hk => hk.elim) ?aF ?aO ?aB ?aS ?aL ?_
                          (case aP => exact k139_mkM _ _ _ (⟨(⟨((rd_T137 y241 x16_1).f0), ((rd_T137 y241 x16_1).f1), ((rd_T137 y241 x16_1).f2)⟩ : S137), (⟨(rd_T137 y241 x22_2).f0, (rd_T137 y241 x22_2).f1, (rd_T137 y241 x22_2).f2⟩ : S137), (⟨t249, t250, t251⟩ : S137)⟩ : S139))
                          (case aB => exact bz)
                          (case aF => exact (fun _ _ => trivial))
                          (case aO => exact (br HO_2.out))
                          (case aS => exact (below_size bz))
                          (case aL => have := LMc15.out; omega)
                          intro v253 w23 ho hb hg hat
                          rw [← Ny252.out] at ho
                          have n0_ := m0 (Kd.R_over' (br HO_1.out) (Kd.R_typed (br HO_2.out)) (by decide) hg); have n1_ := m0 (Kd.R_over' (br HO_14.out) (Kd.R_typed (br HO_2.out)) (by decide) hg); have n2_ := m0 (Kd.R_over' (br HO_20.out) (Kd.R_typed (br HO_2.out)) (by decide) hg); have n3_ := m0 (blk_grown (g := gb245) (o := .cells #[.int .i64 ((rd_T137 y241 x16_1).f0), .int .i64 ((rd_T137 y241 x16_1).f1), .int .i64 ((rd_T137 y241 x16_1).f2)] 137 (0, 0)) (bk BK245.out) hg (Kd.R_ne HO_2.out BK245.out (by decide))); have n4_ := m0 (blk_grown (g := gb247) (o := .cells #[.int .i64 ((rd_T137 y241 x22_2).f0), .int .i64 ((rd_T137 y241 x22_2).f1), .int .i64 ((rd_T137 y241 x22_2).f2)] 137 (0, 0)) (bk BK247.out) hg (Kd.R_ne HO_2.out BK247.out (by decide))); have n5_ := m0 (hb); have n6_ := m0 (ho); clear HO_1; clear HO_14; clear HO_20; clear BK245; clear BK247; clear HB; clear HO_2; have HO_1 := n0_; have HO_14 := n1_; have HO_20 := n2_; have BK245 := n3_; have BK247 := n4_; have HB := n5_; have HO254 := n6_; clear n0_ n1_ n2_ n3_ n4_ n5_ n6_
                          clear ho hb hg hat
                          refine hK.out _ _ cz (fun hH => ?_)
                          clear hK K
                          refine norm_ (a' := ?_) ?_ ?_
                          rotate_left
                          · show Act.put _ (some 38) _ = _
                            exact pz
                          refine pZ 9 (some 2) #[true, true, true, true, true, true, true, true, true, true] HT_ ?_
                          refine done_ (done_of HT_.out (by kernel_rfl)) ?_
                          try go_wp2
                          go_roundg k2
                          case measure => have := HK1.out; have := HK2.out; omega
                          case rel => exact ⟨(y252), (wrap64 (x22_2 + 1)), (by first | rfl | (simp; done) | (simp [*]; done)), H', ⟨by have := HK1.out; have := HK2.out; omega⟩, ⟨by (with_reducible repeat (first | apply Kd.R_alloc | apply Kd.R_drewN | apply Kd.R_drew)); exact Kd.R_mono HO_1.out (fun _ hk => hk.1)⟩, ⟨br HO254.out⟩, ⟨by (with_reducible repeat (first | apply Kd.R_alloc | apply Kd.R_drewN | apply Kd.R_drew)); exact Kd.R_mono HO_14.out (fun _ hk => hk.1)⟩, ⟨by (with_reducible repeat (first | apply Kd.R_alloc | apply Kd.R_drewN | apply Kd.R_drew)); exact Kd.R_mono HO_20.out (fun _ hk => hk.1)⟩, ⟨bk BK245.out⟩, ⟨bz⟩⟩
                        · rw [if_neg c15] at H
                          exact absurd H (by simp)
                      · rw [if_neg c13] at H
                        have c13b0 := beq_eq_false_iff_ne.mpr c13
                        have c13b1 := bne_iff_ne.mpr c13
                        have H' := m0 H
                        clear H
                        have p246 : 0 ≤ (x22_2 : Int) := od
                        have q246 : x22_2 < (y241.length : Int) := od
                        obtain ⟨ad246, e246, hx246_0, hx246_1, hx246_2⟩ := at_T137 (Kd.R_reads' HO_20.out).2.2 x22_2 p246 q246
                        obtain rfl : ad244 = ad246 := (by injection e246)
                        replace p246 := eq_true p246
                        replace q246 := eq_true q246
                        go_wp2_with (first | ((with_reducible refine gate_dst (N := 6) rfl ?_); refine be 6 137 #[.int .i64 0, .int .i64 0, .int .i64 0] ?_; intro gb247 hg w24 hbox hb; replace HO_1 := m0 (Kd.R_below (Kd.R_elderB (br HO_1.out) gb247 (Nat.le_of_eq hg.symm)) hb); replace HO_2 := rb HO_2 hb; replace HO_14 := m0 (Kd.R_below (Kd.R_elderB (br HO_14.out) gb247 (Nat.le_of_eq hg.symm)) hb); replace HO_20 := m0 (Kd.R_below (Kd.R_elderB (br HO_20.out) gb247 (Nat.le_of_eq hg.symm)) hb); have BK247 := m0 hbox; have GE247 := gw w hg; replace HB := sb HB hb; have NB245_247 := nl BK245 hg; have NB247_245 := ng (nl BK245 hg); replace BK245 := bb BK245 hb; clear hb hbox hg; have hnb25 := NB247_245.out; have hnc25 := NB245_247.out; obtain ⟨_, _, _, _, _, _⟩ := b3 BK247; obtain ⟨_, _, _, _, _, _⟩ := b3 BK245) | ((with_reducible refine gate_callee (f := 130) rfl ?_); refine gl (some 28) Try.func130 #[.agg #[.int .i64 ((rd_T137 y241 x16_1).f0), .int .i64 ((rd_T137 y241 x16_1).f1), .int .i64 ((rd_T137 y241 x16_1).f2)], .agg #[.int .i64 ((rd_T137 y241 x22_2).f0), .int .i64 ((rd_T137 y241 x22_2).f1), .int .i64 ((rd_T137 y241 x22_2).f2)]] ?_; (with_reducible refine (L_vector_dot.calls ((rd_T137 y241 x16_1).f0) ((rd_T137 y241 x16_1).f1) ((rd_T137 y241 x16_1).f2) ((rd_T137 y241 x22_2).f0) ((rd_T137 y241 x22_2).f1) ((rd_T137 y241 x22_2).f2) t248 _ A12.out).mono ?_); rintro e w28 ⟨rfl, hb⟩; refine ⟨_, rfl, ?_⟩; replace HO_1 := m0 (Kd.R_below (by (with_reducible repeat (first | apply Kd.R_alloc | apply Kd.R_drewN | apply Kd.R_drew)); exact (Kd.R_mono (Kd.R_far (p := ⟨gb247, 2, none⟩) (Kd.R_far (p := ⟨gb247, 1, none⟩) (Kd.R_far (p := ⟨gb247, 0, none⟩) (Kd.R_mono HO_1.out (fun k_ hk => (⟨hk, hk.2⟩ : _ ∧ k_ ≠ gb247))) (fun _ hk => hk.2) (.int .i64 ((rd_T137 y241 x22_2).f0))) (fun _ hk => hk.2) (.int .i64 ((rd_T137 y241 x22_2).f1))) (fun _ hk => hk.2) (.int .i64 ((rd_T137 y241 x22_2).f2))) (fun _ h_ => h_.1))) hb); replace HO_2 := m0 (Kd.R_below (by (with_reducible repeat (first | apply Kd.R_alloc | apply Kd.R_drewN | apply Kd.R_drew)); exact (Kd.R_mono (Kd.R_far (p := ⟨gb247, 2, none⟩) (Kd.R_far (p := ⟨gb247, 1, none⟩) (Kd.R_far (p := ⟨gb247, 0, none⟩) (Kd.R_types HO_2.out BK247.out (by decide)) (fun _ hk => hk.2) (.int .i64 ((rd_T137 y241 x22_2).f0))) (fun _ hk => hk.2) (.int .i64 ((rd_T137 y241 x22_2).f1))) (fun _ hk => hk.2) (.int .i64 ((rd_T137 y241 x22_2).f2))) (fun _ h_ => h_.1))) hb); replace HO_14 := m0 (Kd.R_below (by (with_reducible repeat (first | apply Kd.R_alloc | apply Kd.R_drewN | apply Kd.R_drew)); exact (Kd.R_mono (Kd.R_far (p := ⟨gb247, 2, none⟩) (Kd.R_far (p := ⟨gb247, 1, none⟩) (Kd.R_far (p := ⟨gb247, 0, none⟩) (Kd.R_mono HO_14.out (fun k_ hk => (⟨hk, hk.2⟩ : _ ∧ k_ ≠ gb247))) (fun _ hk => hk.2) (.int .i64 ((rd_T137 y241 x22_2).f0))) (fun _ hk => hk.2) (.int .i64 ((rd_T137 y241 x22_2).f1))) (fun _ hk => hk.2) (.int .i64 ((rd_T137 y241 x22_2).f2))) (fun _ h_ => h_.1))) hb); replace HO_20 := m0 (Kd.R_below (by (with_reducible repeat (first | apply Kd.R_alloc | apply Kd.R_drewN | apply Kd.R_drew)); exact (Kd.R_mono (Kd.R_far (p := ⟨gb247, 2, none⟩) (Kd.R_far (p := ⟨gb247, 1, none⟩) (Kd.R_far (p := ⟨gb247, 0, none⟩) (Kd.R_mono HO_20.out (fun k_ hk => (⟨hk, hk.2⟩ : _ ∧ k_ ≠ gb247))) (fun _ hk => hk.2) (.int .i64 ((rd_T137 y241 x22_2).f0))) (fun _ hk => hk.2) (.int .i64 ((rd_T137 y241 x22_2).f1))) (fun _ hk => hk.2) (.int .i64 ((rd_T137 y241 x22_2).f2))) (fun _ h_ => h_.1))) hb); replace BK245 := m0 (blk_below (g := gb245) (o := .cells #[.int .i64 ((rd_T137 y241 x16_1).f0), .int .i64 ((rd_T137 y241 x16_1).f1), .int .i64 ((rd_T137 y241 x16_1).f2)] 137 (0, 0)) (bq BK245.out) hb); replace BK247 := m0 (blk_below (g := gb247) (o := .cells #[.int .i64 ((rd_T137 y241 x22_2).f0), .int .i64 ((rd_T137 y241 x22_2).f1), .int .i64 ((rd_T137 y241 x22_2).f2)] 137 (0, 0)) (bq BK247.out) hb); replace HB := sb HB hb; (try clear hb)))
                        go_roundg k2
                        case measure => have := HK1.out; have := HK2.out; omega
                        case rel => exact ⟨(x2_2), (wrap64 (x22_2 + 1)), (by first | rfl | (simp; done) | (simp [*]; done)), H', ⟨by have := HK1.out; have := HK2.out; omega⟩, ⟨by (with_reducible repeat (first | apply Kd.R_alloc | apply Kd.R_drewN | apply Kd.R_drew)); exact Kd.R_mono HO_1.out (fun _ hk => hk.1)⟩, ⟨br HO_2.out⟩, ⟨by (with_reducible repeat (first | apply Kd.R_alloc | apply Kd.R_drewN | apply Kd.R_drew)); exact Kd.R_mono HO_14.out (fun _ hk => hk.1)⟩, ⟨by (with_reducible repeat (first | apply Kd.R_alloc | apply Kd.R_drewN | apply Kd.R_drew)); exact Kd.R_mono HO_20.out (fun _ hk => hk.1)⟩, ⟨bk BK245.out⟩, ⟨bz⟩⟩
                    · rw [if_neg c11] at H
                      exact absurd H (by simp)
                  · rw [if_neg c10] at H
                    exact absurd H (by simp)
                · rw [if_neg c9] at H
                  have c9b0 := decide_eq_false c9
                  clear c9
                  have H' := m0 H
                  clear H
                  go_wp2
                  go_roundg k2
                  case measure => have := HK1.out; have := HK2.out; omega
                  case rel => exact ⟨(x2_2), (wrap64 (x16_1 + 1)), (by first | rfl | (simp; done) | (simp [*]; done)), H', ⟨by have := HK1.out; have := HK2.out; omega⟩, ⟨by (with_reducible repeat (first | apply Kd.R_alloc | apply Kd.R_drewN | apply Kd.R_drew)); exact Kd.R_mono HO_1.out (fun _ hk => trivial)⟩, ⟨br HO_2.out⟩, ⟨by (with_reducible repeat (first | apply Kd.R_alloc | apply Kd.R_drewN | apply Kd.R_drew)); exact Kd.R_mono HO_14.out (fun _ hk => trivial)⟩, ⟨bz⟩⟩
          · rw [if_neg c6] at H
            exact absurd H (by simp)
        · rw [if_neg c5] at H
          exact absurd H (by simp)
      · rw [if_neg c4] at H
        have c4b0 := decide_eq_false c4
        clear c4
        obtain rfl := Option.some.inj H
        go_wp2
        go_ret
        exact ⟨_, by first | rfl | (simp [errW_none, errW_some] <;> rfl) | (simp [*, errW_none, errW_some] <;> rfl), by (with_reducible repeat (first | apply Kd.R_alloc | apply Kd.R_drewN | apply Kd.R_drew)); exact HO_2.out, by repeat (first | (with_reducible first | exact HB.out | apply below_alloc | apply pw_below_drewN | apply below_drew1) | exact HB.out)⟩
end
section
def L_rotation_turned.f (a0_0 : Int) (a0_1 : Int) (a0_2 : Int) (a0_3 : Int) (a0_4 : Int) (a0_5 : Int) (a0_6 : Int) (a0_7 : Int) (a0_8 : Int) (a1_0 : Int) (a1_1 : Int) (a1_2 : Int) : Option (Int × Int × Int) := (L_vector_dot.f a0_0 a0_1 a0_2 a1_0 a1_1 a1_2).bind fun t258 => ((L_vector_dot.f a0_3 a0_4 a0_5 a1_0 a1_1 a1_2).bind fun t259 => ((L_vector_dot.f a0_6 a0_7 a0_8 a1_0 a1_1 a1_2).bind fun t260 => (some (t258, t259, t260))))
def L_rotation_turned.T1 : Bool × List (List Nat × List Nat) := (true, [([], []), ([0], [0]), ([], []), ([1, 2], [1, 2]), ([], []), ([4], [4]), ([], []), ([5, 6, 3], [5, 6]), ([], []), ([8], [8]), ([], []), ([9, 10, 7], [9, 10]), ([3, 7, 11], [3, 7, 11]), ([12, 11, 0, 1, 2, 3, 4, 5, 6, 7, 8, 9, 10, 11, 12], [12])])
def L_rotation_turned.B1 : List Nat := [0, 1, 0, 7, 0, 16, 0, 127, 0, 256, 0, 2047, 4095, 8191]
theorem L_rotation_turned.tab1 : rtab .any (opsOf Try.f86 1) = L_rotation_turned.T1 := by kernel_rfl
theorem L_rotation_turned.bits1 : waitsOk L_rotation_turned.T1.2 L_rotation_turned.B1 = true := by kernel_rfl
theorem L_rotation_turned.calls (a0_0 : Int) (a0_1 : Int) (a0_2 : Int) (a0_3 : Int) (a0_4 : Int) (a0_5 : Int) (a0_6 : Int) (a0_7 : Int) (a0_8 : Int) (a1_0 : Int) (a1_1 : Int) (a1_2 : Int) (r1 : Int) (r2 : Int) (r3 : Int) (w : World) (h : L_rotation_turned.f a0_0 a0_1 a0_2 a0_3 a0_4 a0_5 a0_6 a0_7 a0_8 a1_0 a1_1 a1_2 = some (r1, r2, r3)) :
  Calls Try.prog 86 #[.agg #[.int .i64 a0_0, .int .i64 a0_1, .int .i64 a0_2, .int .i64 a0_3, .int .i64 a0_4, .int .i64 a0_5, .int .i64 a0_6, .int .i64 a0_7, .int .i64 a0_8], .agg #[.int .i64 a1_0, .int .i64 a1_1, .int .i64 a1_2]] w fun e w' => e = .returned (.agg #[.int .i64 r1, .int .i64 r2, .int .i64 r3]) ∧ Below w.heap.size w w' := by
 have hu139 := Try.underlying139
 have hu137 := Try.underlying137
 have hix139_0 : ∀ (g_ : Nat) (W_ : World), (Instr.indexAt 139 (.pointer (some ⟨g_, 0, none⟩)) (.int .i64 0)).run Try.prog W_ = .ok (.pointer (some ⟨g_, 0, none⟩)) W_ := fun _ _ => by kernel_rfl
 have hix139_1 : ∀ (g_ : Nat) (W_ : World), (Instr.indexAt 139 (.pointer (some ⟨g_, 0, none⟩)) (.int .i64 1)).run Try.prog W_ = .ok (.pointer (some ⟨g_, 3, none⟩)) W_ := fun _ _ => by kernel_rfl
 have hix139_2 : ∀ (g_ : Nat) (W_ : World), (Instr.indexAt 139 (.pointer (some ⟨g_, 0, none⟩)) (.int .i64 2)).run Try.prog W_ = .ok (.pointer (some ⟨g_, 6, none⟩)) W_ := fun _ _ => by kernel_rfl
 have HB := m0 (Below.refl w.heap.size w)
 have H : ((L_vector_dot.f a0_0 a0_1 a0_2 a1_0 a1_1 a1_2).bind fun t258 => ((L_vector_dot.f a0_3 a0_4 a0_5 a1_0 a1_1 a1_2).bind fun t259 => ((L_vector_dot.f a0_6 a0_7 a0_8 a1_0 a1_1 a1_2).bind fun t260 => (some (t258, t259, t260))))) = some (r1, r2, r3) := h
 clear h
 replace H := ob H
 obtain ⟨t258, A3, H⟩ := H
 (try dsimp only at H)
 replace A3 := m0 A3
 replace H := ob H
 obtain ⟨t259, A4, H⟩ := H
 (try dsimp only at H)
 replace A4 := m0 A4
 replace H := ob H
 obtain ⟨t260, A5, H⟩ := H
 (try dsimp only at H)
 replace A5 := m0 A5
 simp only [Option.some.injEq, Prod.mk.injEq] at H
 obtain ⟨rfl, rfl, rfl⟩ := H
 go_enter Try.func86, Try.ntmps86
 try go_wp2_with (first | ((with_reducible refine gate_dst (N := 2) rfl ?_); refine be 2 139 #[.int .i64 a0_0, .int .i64 a0_1, .int .i64 a0_2, .int .i64 a0_3, .int .i64 a0_4, .int .i64 a0_5, .int .i64 a0_6, .int .i64 a0_7, .int .i64 a0_8] ?_; intro gb255 hg w6 hbox hb; have BK255 := m0 hbox; have GE255 := gw w hg; replace HB := sb HB hb; clear hb hbox hg) | ((with_reducible refine gate_dst (N := 3) rfl ?_); refine be 3 137 #[.int .i64 a1_0, .int .i64 a1_1, .int .i64 a1_2] ?_; intro gb256 hg w7 hbox hb; have BK256 := m0 hbox; have GE256 := gw w hg; replace HB := sb HB hb; have NB255_256 := nl BK255 hg; have NB256_255 := ng (nl BK255 hg); replace BK255 := bb BK255 hb; clear hb hbox hg) | ((with_reducible refine gate_dst (N := 4) rfl ?_); refine be 4 137 #[.int .i64 0, .int .i64 0, .int .i64 0] ?_; intro gb257 hg w8 hbox hb; have BK257 := m0 hbox; have GE257 := gw w hg; replace HB := sb HB hb; have NB255_257 := nl BK255 hg; have NB257_255 := ng (nl BK255 hg); replace BK255 := bb BK255 hb; have NB256_257 := nl BK256 hg; have NB257_256 := ng (nl BK256 hg); replace BK256 := bb BK256 hb; clear hb hbox hg))
 replace BK255 := bd BK255; replace BK256 := bd BK256; replace BK257 := bd BK257; replace HB := sd HB
 refine start_ (n := 14) (S := fun w' => w'.cell? ⟨gb255, 0, none⟩ = some (.int .i64 a0_0) ∧ w'.cell? ⟨gb255, 1, none⟩ = some (.int .i64 a0_1) ∧ w'.cell? ⟨gb255, 2, none⟩ = some (.int .i64 a0_2) ∧ w'.cell? ⟨gb255, 3, none⟩ = some (.int .i64 a0_3) ∧ w'.cell? ⟨gb255, 4, none⟩ = some (.int .i64 a0_4) ∧ w'.cell? ⟨gb255, 5, none⟩ = some (.int .i64 a0_5) ∧ w'.cell? ⟨gb255, 6, none⟩ = some (.int .i64 a0_6) ∧ w'.cell? ⟨gb255, 7, none⟩ = some (.int .i64 a0_7) ∧ w'.cell? ⟨gb255, 8, none⟩ = some (.int .i64 a0_8) ∧ w'.cell? ⟨gb256, 0, none⟩ = some (.int .i64 a1_0) ∧ w'.cell? ⟨gb256, 1, none⟩ = some (.int .i64 a1_1) ∧ w'.cell? ⟨gb256, 2, none⟩ = some (.int .i64 a1_2)) (ds := []) #[false, false, false, false, false, false, false, false, false, false, false, false, false, false] (by kernel_rfl) rfl rfl cz (fun hH => ?_); refine with_tabW L_rotation_turned.tab1 L_rotation_turned.bits1 (fun HT_ HW_ => ?_)
 generalize w8.drew = w9 at BK255 BK256 BK257 HB hH ⊢
 refine pZ 0 (some 5) (bs 14 1) HT_ ?_
 refine pZ 4 (some 9) (bs 14 17) HT_ ?_
 refine pZ 8 (some 13) (bs 14 273) HT_ ?_
 refine takeZ 1 (some 6) (bs 14 275) (take_ofW HT_.out HW_.out (by kernel_rfl)) hH ?_
 refine takeZ 2 (some 7) (bs 14 279) (take_ofW HT_.out HW_.out (by kernel_rfl)) hH ?_
 refine takeZ 5 (some 10) (bs 14 311) (take_ofW HT_.out HW_.out (by kernel_rfl)) hH ?_
 refine takeZ 6 (some 11) (bs 14 375) (take_ofW HT_.out HW_.out (by kernel_rfl)) hH ?_
 refine takeZ 9 (some 14) (bs 14 887) (take_ofW HT_.out HW_.out (by kernel_rfl)) hH ?_
 refine takeZ 10 (some 15) (bs 14 1911) (take_ofW HT_.out HW_.out (by kernel_rfl)) hH ?_
 refine oneZ 3 (some 8) (bs 14 1919) (one_of HT_.out (by kernel_rfl)) fun K hK => ?_
 refine gz Try.func130 #[.agg #[.int .i64 a0_0, .int .i64 a0_1, .int .i64 a0_2], .agg #[.int .i64 a1_0, .int .i64 a1_1, .int .i64 a1_2]] ?_
 with_reducible refine (L_vector_dot.calls a0_0 a0_1 a0_2 a1_0 a1_1 a1_2 t258 _ A3.out).mono ?_
 rintro e w10 ⟨rfl, hb⟩
 refine ⟨_, rfl, ?_⟩
 replace BK255 := bb BK255 hb; replace BK256 := bb BK256 hb; replace BK257 := bb BK257 hb; replace HB := sb HB hb
 (try clear hb)
 refine hK.out _ _ cz (fun hH => ?_)
 clear hK K
 refine norm_ (a' := ?_) ?_ ?_
 rotate_left
 ·show Act.put _ (some 8) _ = _
  exact pz
 refine oneZ 7 (some 12) (bs 14 2047) (one_of HT_.out (by kernel_rfl)) fun K hK => ?_
 refine gz Try.func130 #[.agg #[.int .i64 a0_3, .int .i64 a0_4, .int .i64 a0_5], .agg #[.int .i64 a1_0, .int .i64 a1_1, .int .i64 a1_2]] ?_
 with_reducible refine (L_vector_dot.calls a0_3 a0_4 a0_5 a1_0 a1_1 a1_2 t259 _ A4.out).mono ?_
 rintro e w11 ⟨rfl, hb⟩
 refine ⟨_, rfl, ?_⟩
 replace BK255 := bb BK255 hb; replace BK256 := bb BK256 hb; replace BK257 := bb BK257 hb; replace HB := sb HB hb
 (try clear hb)
 refine hK.out _ _ cz (fun hH => ?_)
 clear hK K
 refine norm_ (a' := ?_) ?_ ?_
 rotate_left
 ·show Act.put _ (some 12) _ = _
  exact pz
 refine oneZ 11 (some 16) (bs 14 4095) (one_of HT_.out (by kernel_rfl)) fun K hK => ?_
 refine gz Try.func130 #[.agg #[.int .i64 a0_6, .int .i64 a0_7, .int .i64 a0_8], .agg #[.int .i64 a1_0, .int .i64 a1_1, .int .i64 a1_2]] ?_
 with_reducible refine (L_vector_dot.calls a0_6 a0_7 a0_8 a1_0 a1_1 a1_2 t260 _ A5.out).mono ?_
 rintro e w12 ⟨rfl, hb⟩
 refine ⟨_, rfl, ?_⟩
 replace BK255 := bb BK255 hb; replace BK256 := bb BK256 hb; replace BK257 := bb BK257 hb; replace HB := sb HB hb
 (try clear hb)
 refine hK.out _ _ cz (fun hH => ?_)
 clear hK K
 refine norm_ (a' := ?_) ?_ ?_
 rotate_left
 ·show Act.put _ (some 16) _ = _
  exact pz
 refine pZ 12 (some 17) (bs 14 8191) HT_ ?_
 refine oneZ 13 (none) (bs 14 16383) (one_of HT_.out (by kernel_rfl)) fun K hK => ?_
 have hs13 : w12.cell? ⟨gb257, 0, none⟩ = some (.int .i64 0) := (blk_cell BK257.out 0).trans rfl
 have hfs13 := blk_frozen BK257.out 0
 have hs14 : w12.cell? ⟨gb257, 1, none⟩ = some (.int .i64 0) := (blk_cell BK257.out 1).trans rfl
 have hfs14 := blk_frozen BK257.out 1
 have hs15 : w12.cell? ⟨gb257, 2, none⟩ = some (.int .i64 0) := (blk_cell BK257.out 2).trans rfl
 have hfs15 := blk_frozen BK257.out 2
 refine skip_ (w1 := ?_) (by rfl) rfl ?_ ?_
 rotate_left
 ·go_simp
  rfl
 refine hK.out _ _ (cf hH) (fun hH => ?_)
 clear hK K
 refine done_ (done_of HT_.out (by kernel_rfl)) ?_
 try go_wp2
 refine bodyPost_ret (results_cell_row rfl _ _ gb257 137 #[.int .i64 t258, .int .i64 t259, .int .i64 t260] (0, 0) _ rfl (bq BK257.out) Try.underlying137 rfl (by kernel_rfl)) rfl ?_
 exact ez
end
end Go.Proofs.Ytibhfahbabgbaaa.A
