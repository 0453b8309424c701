/- Walks of the program's functions (printed, made shorter), each with what it computes. -/
import Derived.Test.YtibhfahbabgbaaaTX12
namespace Go.Proofs.Ytibhfahbabgbaaa.A
set_option maxHeartbeats 8000000
set_option maxRecDepth 100000
open Go.RowKit Go.Proofs.YtibhfahbabgbaaaW.PrintWords Go.Proofs.YtibhfahbabgbaaaW.PrintLast Go.Proofs.YtibhfahbabgbaaaW.PrintMore
attribute [local go_sem] max2_int min2_int max_two min_two max_three min_three max_four min_four
set_option linter.unusedVariables false
set_option linter.unusedSimpArgs false
section
mutual
def L_rotations.l0 : Nat → List (S137) → List (S139) → List (S137) → Int → Int → Option ((List (S139)))
  | 0, _, _, _, _, _ => none
  | k + 1, x1, x2, x14, x15, x16 => if x16 < x15 then (if 0 ≤ x16 then (if x16 < (x14.length : Int) then (L_rotations.l1 k x1 x2 x14 x15 x16 x1 (x1.length : Int) 0 ((rd_T137 x14 x16).f0) ((rd_T137 x14 x16).f1) ((rd_T137 x14 x16).f2)) else (none)) else (none)) else (some x2)
def L_rotations.l1 : Nat → List (S137) → List (S139) → List (S137) → Int → Int → List (S137) → Int → Int → Int → Int → Int → Option ((List (S139)))
  | 0, _, _, _, _, _, _, _, _, _, _, _ => none
  | k + 1, x1, x2, x14, x15, x16, x20, x21, x22, x230000, x230001, x230002 => if x22 < x21 then (if 0 ≤ x22 then (if x22 < (x20.length : Int) then ((L_vector_dot.f x230000 x230001 x230002 ((rd_T137 x20 x22).f0) ((rd_T137 x20 x22).f1) ((rd_T137 x20 x22).f2)).bind fun t232 => (if t232 = 0 then ((L_vector_cross.f x230000 x230001 x230002 ((rd_T137 x20 x22).f0) ((rd_T137 x20 x22).f1) ((rd_T137 x20 x22).f2)).bind fun bt233 => (if x2.length < 1954687338268 then (L_rotations.l1 k x1 (x2 ++ [(⟨(⟨x230000, x230001, x230002⟩ : S137), (⟨(rd_T137 x20 x22).f0, (rd_T137 x20 x22).f1, (rd_T137 x20 x22).f2⟩ : S137), (⟨bt233.1, bt233.2.1, bt233.2.2⟩ : S137)⟩ : S139)]) x14 x15 x16 x20 x21 (wrap64 (x22 + 1)) x230000 x230001 x230002) else (none))) else (L_rotations.l1 k x1 x2 x14 x15 x16 x20 x21 (wrap64 (x22 + 1)) x230000 x230001 x230002))) else (none)) else (none)) else (L_rotations.l0 k x1 x2 x14 x15 (wrap64 (x16 + 1)))
end
def L_rotations.f (k : Nat)  : Option ((List (S139))) := (some (([(⟨(-1), 0, 0⟩ : S137), (⟨0, (-1), 0⟩ : S137), (⟨0, 0, (-1)⟩ : S137), (⟨0, 0, 1⟩ : S137), (⟨0, 1, 0⟩ : S137), (⟨1, 0, 0⟩ : S137)] : List (S137)) : List (S137))).bind fun y225 => (L_rotations.l0 k y225 ([] : List (S139)) y225 (y225.length : Int) 0)
theorem L_rotations.mono_l : ∀ k, (∀ y0 y1 y2 y3 y4, LeO (L_rotations.l0 k y0 y1 y2 y3 y4) (L_rotations.l0 (k + 1) y0 y1 y2 y3 y4)) ∧ (∀ y0 y1 y2 y3 y4 y5 y6 y7 y8 y9 y10, LeO (L_rotations.l1 k y0 y1 y2 y3 y4 y5 y6 y7 y8 y9 y10) (L_rotations.l1 (k + 1) y0 y1 y2 y3 y4 y5 y6 y7 y8 y9 y10))
  | 0 => ⟨fun _ _ _ _ _ r h => by simp [L_rotations.l0] at h, fun _ _ _ _ _ _ _ _ _ _ _ r h => by simp [L_rotations.l1] at h⟩
  | k + 1 => by
    obtain ⟨ih0, ih1⟩ := L_rotations.mono_l k; refine ⟨?_, ?_⟩
    · intro y0 y1 y2 y3 y4; unfold L_rotations.l0
      repeat' with_reducible first
        | exact ih0 ..
        | exact ih1 ..
        | exact LeO.refl ..
        | exact LeO.none ..
        | refine LeO.ite ?_ ?_
        | refine LeO.bind ?_ (fun _ => ?_)
    · intro y0 y1 y2 y3 y4 y5 y6 y7 y8 y9 y10; unfold L_rotations.l1
      repeat' with_reducible first
        | exact ih0 ..
        | exact ih1 ..
        | exact LeO.refl ..
        | exact LeO.none ..
        | refine LeO.ite ?_ ?_
        | refine LeO.bind ?_ (fun _ => ?_)
theorem L_rotations.mono : ∀ k, LeO (L_rotations.f k ) (L_rotations.f (k + 1) ) := by
  intro  k; obtain ⟨ih0, ih1⟩ := L_rotations.mono_l k; unfold L_rotations.f
  repeat' with_reducible first
    | exact ih0 ..
    | exact ih1 ..
    | exact LeO.refl ..
    | exact LeO.none ..
    | refine LeO.ite ?_ ?_
    | refine LeO.bind ?_ (fun _ => ?_)
def L_rotations.T10 : Bool × List (List Nat × List Nat) := (true, [([], []), ([], []), ([], []), ([], []), ([], []), ([3, 4], [3, 4]), ([1, 2, 5], [1, 2, 5]), ([6], [6]), ([0, 7, 5], [0, 7]), ([8, 8, 0, 1, 2, 3, 4, 5, 6, 7, 8], [0, 8])])
def L_rotations.B10 : List Nat := [0, 0, 0, 0, 0, 24, 62, 126, 255, 511]
theorem L_rotations.tab10 : rtab .any (opsOf Try.f84 10) = L_rotations.T10 := by kernel_rfl
theorem L_rotations.bits10 : waitsOk L_rotations.T10.2 L_rotations.B10 = true := by kernel_rfl
theorem L_rotations.calls (k : Nat)  (r : List (S139)) (w : World) (H : L_rotations.f k  = some r) :
    Calls Try.prog 84 #[] w fun e w' => ∃ v0_ : Value, e = .returned (v0_) ∧ Kd.R k139 139 w' w.heap.size (fun _ => True) v0_ r ∧ Below w.heap.size w w' := by
  have hu137 := Try.underlying137; have hu139 := Try.underlying139; have HB := m0 (Below.refl w.heap.size w); unfold L_rotations.f at H; obtain ⟨y225, hy225⟩ : ∃ y_ : List (S137), y_ = (([(⟨(-1), 0, 0⟩ : S137), (⟨0, (-1), 0⟩ : S137), (⟨0, 0, (-1)⟩ : S137), (⟨0, 0, 1⟩ : S137), (⟨0, 1, 0⟩ : S137), (⟨1, 0, 0⟩ : S137)] : List (S137))) := ⟨_, rfl⟩; replace H : (L_rotations.l0 k y225 ([] : List (S139)) y225 (y225.length : Int) 0) = some r := by first | (rw [hy225]; with_reducible exact H) | (have H2_ := (Option.bind_some _ _).symm.trans H; rw [hy225]; with_reducible exact H2_) | (have H2_ := (Option.bind_some _ _).symm.trans H; with_reducible exact H2_) | with_reducible exact H | (rw [hy225]; exact H) | exact H
  have Ny225 := m0 hy225; clear hy225; have H' := m0 H; clear H; go_enter Try.func84, Try.ntmps84
  go_wp2_with (first | ((with_reducible refine ga 13 rfl ?_); refine Kd.R_lit k137 _ 137 ?hg (N := 13) ?hd (xs := ([(⟨(-1), 0, 0⟩ : S137), (⟨0, (-1), 0⟩ : S137), (⟨0, 0, (-1)⟩ : S137), (⟨0, 0, 1⟩ : S137), (⟨0, 1, 0⟩ : S137), (⟨1, 0, 0⟩ : S137)] : List (S137))) (inner := [.int .i64 (-1), .int .i64 0, .int .i64 0, .int .i64 0, .int .i64 (-1), .int .i64 0, .int .i64 0, .int .i64 0, .int .i64 (-1), .int .i64 0, .int .i64 0, .int .i64 1, .int .i64 0, .int .i64 1, .int .i64 0, .int .i64 1, .int .i64 0, .int .i64 0]) (ok := fun _ => True) (okp := fun _ => True) ?hr ?hp (fun _ hk => hk) trivial (Below.refl _ _) (Nat.le_refl _) (by simp) ?_; (case hd => rfl); (case hg => rfl); (case hr => first | (go_simp; done) | (go_simp; rfl)); (case hp => exact (Reps.c3 (show Kd.M k137 _ _ _ (⟨(-1), 0, 0⟩ : S137) [.int .i64 (-1), .int .i64 0, .int .i64 0] from (k137_mkM _ _ _ (⟨(-1), 0, 0⟩ : S137) )) (Reps.c3 (show Kd.M k137 _ _ _ (⟨0, (-1), 0⟩ : S137) [.int .i64 0, .int .i64 (-1), .int .i64 0] from (k137_mkM _ _ _ (⟨0, (-1), 0⟩ : S137) )) (Reps.c3 (show Kd.M k137 _ _ _ (⟨0, 0, (-1)⟩ : S137) [.int .i64 0, .int .i64 0, .int .i64 (-1)] from (k137_mkM _ _ _ (⟨0, 0, (-1)⟩ : S137) )) (Reps.c3 (show Kd.M k137 _ _ _ (⟨0, 0, 1⟩ : S137) [.int .i64 0, .int .i64 0, .int .i64 1] from (k137_mkM _ _ _ (⟨0, 0, 1⟩ : S137) )) (Reps.c3 (show Kd.M k137 _ _ _ (⟨0, 1, 0⟩ : S137) [.int .i64 0, .int .i64 1, .int .i64 0] from (k137_mkM _ _ _ (⟨0, 1, 0⟩ : S137) )) (Reps.c3 (show Kd.M k137 _ _ _ (⟨1, 0, 0⟩ : S137) [.int .i64 1, .int .i64 0, .int .i64 0] from (k137_mkM _ _ _ (⟨1, 0, 0⟩ : S137) )) (Reps.none _ _)))))))); intro v226 w1 ho2 hb hg_ hnew_; clear hg_ hnew_; (first | rw [← Ny225.out] at ho2 | (simp only [Int.reduceToNat] at ho2; rw [← Ny225.out] at ho2)); have HO227 := m0 (Kd.R_lower ho2 (below_size bz)); replace HB := sb HB hb; clear hb ho2; obtain ⟨Ao3, co3, eo3⟩ := Kd.R_slice HO227.out; subst eo3))
  go_loopg [2, 16] k (fun kq v2 v16 w' => ∃ (x2_1 : List (S139)) (x16_1 : Int), v16 = .int .i64 x16_1 ∧ Aside0 (L_rotations.l0 kq y225 x2_1 y225 (y225.length : Int) x16_1 = some r) ∧ Aside0 (kq ≤ k) ∧ Aside0 (Kd.R k137 137 w' w.heap.size (fun _ => True) (.slice Ao3 y225.length co3) y225) ∧ Aside0 (Kd.R k139 139 w' w.heap.size (fun _ => True) v2 x2_1) ∧ Aside0 (Kd.R k137 137 w' w.heap.size (fun _ => True) (.slice Ao3 y225.length co3) y225) ∧ Aside0 (Below w.heap.size w w'))
  case atStart => exact ⟨(([] : List (S139))), (0), rz, H', ⟨Nat.le_refl _⟩, ⟨br HO227.out⟩, ⟨by first | exact Kd.R_nil _ _ _ _ _ | exact Kd.N_nil _ _ _ _ _ | exact Kd.V_nil _ _ _ _ _ | exact Kd.Q_nil _ _ _ _ _ | exact Kd.S_nil _ _ _ _ _⟩, ⟨br HO227.out⟩, ⟨bz⟩⟩
  case round =>
    clear H'; obtain ⟨x2_1, x16_1, rfl, HA, HK1, HO_1, HO_2, HO_14, HB⟩ := hrel
    cases gk with
    | zero => exact absurd HA.out (by simp [L_rotations.l0])
    | succ k1 =>
      have H := HA.out; clear HA; simp only [L_rotations.l0] at H
      by_cases c4 : x16_1 < (y225.length : Int)
      · rw [if_pos c4] at H; have c4b0 := decide_eq_true c4; clear c4
        by_cases c5 : 0 ≤ x16_1
        · rw [if_pos c5] at H; have c5b0 := decide_eq_true c5; clear c5
          by_cases c6 : x16_1 < (y225.length : Int)
          · rw [if_pos c6] at H; have c6b0 := decide_eq_true c6; clear c6; have H' := m0 H; clear H; have p228 : 0 ≤ (x16_1 : Int) := od; have q228 : x16_1 < (y225.length : Int) := od; obtain ⟨ad228, e228, hx228_0, hx228_1, hx228_2⟩ := at_T137 (Kd.R_reads' HO_14.out).2.2 x16_1 p228 q228
            cases e228
            replace p228 := eq_true p228; replace q228 := eq_true q228
            go_wp2_with (first | ((with_reducible refine ga 4 rfl ?_); refine be 4 137 #[.int .i64 0, .int .i64 0, .int .i64 0] ?_; intro gb229 hg w7 hbox hb; replace HO_1 := m0 (Kd.R_below (Kd.R_elderB (br HO_1.out) gb229 (Nat.le_of_eq hg.symm)) hb); replace HO_2 := rb HO_2 hb; replace HO_14 := m0 (Kd.R_below (Kd.R_elderB (br HO_14.out) gb229 (Nat.le_of_eq hg.symm)) hb); have BK229 := m0 hbox; have GE229 := gw w hg; replace HB := sb HB hb; clear hb hbox hg; obtain ⟨hcz8_0, hcz8_1, hcz8_2, hfz8_0, hfz8_1, hfz8_2⟩ := b3 BK229))
            go_loopg [2, 22] k1 (fun kq v2 v22 w' => ∃ (x2_2 : List (S139)) (x22_2 : Int), v22 = .int .i64 x22_2 ∧ Aside0 (L_rotations.l1 kq y225 x2_2 y225 (y225.length : Int) x16_1 y225 (y225.length : Int) x22_2 ((rd_T137 y225 x16_1).f0) ((rd_T137 y225 x16_1).f1) ((rd_T137 y225 x16_1).f2) = some r) ∧ Aside0 (kq ≤ k1) ∧ Aside0 (Kd.R k137 137 w' w.heap.size (fun k_ => k_ ≠ gb229) (.slice (some ad228) y225.length co3) y225) ∧ Aside0 (Kd.R k139 139 w' w.heap.size (fun _ => True) v2 x2_2) ∧ Aside0 (Kd.R k137 137 w' w.heap.size (fun k_ => k_ ≠ gb229) (.slice (some ad228) y225.length co3) y225) ∧ Aside0 (Kd.R k137 137 w' w.heap.size (fun k_ => k_ ≠ gb229) (.slice (some ad228) y225.length co3) y225) ∧ Aside0 (w'.heap[gb229]? = some (.cells #[.int .i64 ((rd_T137 y225 x16_1).f0), .int .i64 ((rd_T137 y225 x16_1).f1), .int .i64 ((rd_T137 y225 x16_1).f2)] 137 (0, 0))) ∧ Aside0 (Below w.heap.size w w'))
            case atStart => exact ⟨(x2_1), (0), rz, H', ⟨Nat.le_refl _⟩, ⟨by (with_reducible repeat (first | apply Kd.R_alloc | apply Kd.R_drewN | apply Kd.R_drew)); exact Kd.R_mono (rf (rf (rf (rn gb229 HO_1.out (·.2)) (·.2)) (·.2)) (·.2)) (fun _ hk => hk.1.2)⟩, ⟨by (with_reducible repeat (first | apply Kd.R_alloc | apply Kd.R_drewN | apply Kd.R_drew)); exact Kd.R_mono (rf (rf (rf (Kd.R_types HO_2.out BK229.out (by decide)) (·.2)) (·.2)) (·.2)) (fun _ hk => trivial)⟩, ⟨by (with_reducible repeat (first | apply Kd.R_alloc | apply Kd.R_drewN | apply Kd.R_drew)); exact Kd.R_mono (rf (rf (rf (rn gb229 HO_14.out (·.2)) (·.2)) (·.2)) (·.2)) (fun _ hk => hk.1.2)⟩, ⟨by (with_reducible repeat (first | apply Kd.R_alloc | apply Kd.R_drewN | apply Kd.R_drew)); exact Kd.R_mono (rf (rf (rf (rn gb229 HO_1.out (·.2)) (·.2)) (·.2)) (·.2)) (fun _ hk => hk.1.2)⟩, ⟨bq BK229.out⟩, ⟨bz⟩⟩
            case round =>
              clear H'
              try clear hx2
              try clear hcz8_0
              try clear hcz8_1
              try clear hcz8_2
              try clear hfz8_0
              try clear hfz8_1
              try clear hfz8_2
              try clear hx228_0
              try clear hx228_1
              try clear hx228_2
              obtain ⟨x2_2, x22_2, rfl, HA, HK2, HO_1, HO_2, HO_14, HO_20, BK229, HB⟩ := hrel
              cases gk with
              | zero => exact absurd HA.out (by simp [L_rotations.l1])
              | succ k2 =>
                have H := HA.out; clear HA; simp only [L_rotations.l1] at H
                by_cases c9 : x22_2 < (y225.length : Int)
                · rw [if_pos c9] at H; have c9b0 := decide_eq_true c9; clear c9
                  by_cases c10 : 0 ≤ x22_2
                  · rw [if_pos c10] at H; have c10b0 := decide_eq_true c10; clear c10
                    by_cases c11 : x22_2 < (y225.length : Int)
                    · rw [if_pos c11] at H; have c11b0 := decide_eq_true c11; clear c11; replace H := oa H; obtain ⟨t232, A12, H⟩ := H; (try dsimp only at H)
                      by_cases c13 : t232 = 0
                      · rw [if_pos c13] at H; have c13b0 := beq_iff_eq.mpr c13; have c13b1 := bne_eq_false_iff_eq.mpr c13; clear c13; replace H := oa H; obtain ⟨⟨t233, t234, t235⟩, A14, H⟩ := H; (try dsimp only at H)
                        by_cases c15 : x2_2.length < 1954687338268
                        · rw [if_pos c15] at H; have LMc15 := m0 c15; clear c15; obtain ⟨y236, hy236⟩ : ∃ y_ : List (S139), y_ = (x2_2 ++ [(⟨(⟨((rd_T137 y225 x16_1).f0), ((rd_T137 y225 x16_1).f1), ((rd_T137 y225 x16_1).f2)⟩ : S137), (⟨(rd_T137 y225 x22_2).f0, (rd_T137 y225 x22_2).f1, (rd_T137 y225 x22_2).f2⟩ : S137), (⟨t233, t234, t235⟩ : S137)⟩ : S139)]) := ⟨_, rfl⟩; replace H : (L_rotations.l1 k2 y225 y236 y225 (y225.length : Int) x16_1 y225 (y225.length : Int) (wrap64 (x22_2 + 1)) ((rd_T137 y225 x16_1).f0) ((rd_T137 y225 x16_1).f1) ((rd_T137 y225 x16_1).f2)) = some r := by first | (rw [hy236]; with_reducible exact H) | (have H2_ := (Option.bind_some _ _).symm.trans H; rw [hy236]; with_reducible exact H2_) | (have H2_ := (Option.bind_some _ _).symm.trans H; with_reducible exact H2_) | with_reducible exact H | (rw [hy236]; exact H) | exact H
                          have Ny236 := m0 hy236; clear hy236; have H' := m0 H; clear H; have p230 : 0 ≤ (x22_2 : Int) := od; have q230 : x22_2 < (y225.length : Int) := od; obtain ⟨ad230, e230, hx230_0, hx230_1, hx230_2⟩ := at_T137 (Kd.R_reads' HO_20.out).2.2 x22_2 p230 q230; obtain rfl : ad228 = ad230 := (by injection e230); replace p230 := eq_true p230; replace q230 := eq_true q230
                          try go_wp2_with (first | ((with_reducible refine ga 6 rfl ?_); refine be 6 137 #[.int .i64 0, .int .i64 0, .int .i64 0] ?_; intro gb231 hg w16 hbox hb; replace HO_1 := m0 (Kd.R_below (Kd.R_elderB (br HO_1.out) gb231 (Nat.le_of_eq hg.symm)) hb); replace HO_2 := rb HO_2 hb; replace HO_14 := m0 (Kd.R_below (Kd.R_elderB (br HO_14.out) gb231 (Nat.le_of_eq hg.symm)) hb); replace HO_20 := m0 (Kd.R_below (Kd.R_elderB (br HO_20.out) gb231 (Nat.le_of_eq hg.symm)) hb); have BK231 := m0 hbox; have GE231 := gw w hg; replace HB := sb HB hb; have NB229_231 := nl BK229 hg; have NB231_229 := ng (nl BK229 hg); replace BK229 := bb BK229 hb; clear hb hbox hg; have hnb17 := NB231_229.out; have hnc17 := NB229_231.out; obtain ⟨_, _, _, _, _, _⟩ := b3 BK231; obtain ⟨_, _, _, _, _, _⟩ := b3 BK229) | ((with_reducible refine gc 130 rfl ?_); refine gl (some 28) Try.func130 #[.agg #[.int .i64 ((rd_T137 y225 x16_1).f0), .int .i64 ((rd_T137 y225 x16_1).f1), .int .i64 ((rd_T137 y225 x16_1).f2)], .agg #[.int .i64 ((rd_T137 y225 x22_2).f0), .int .i64 ((rd_T137 y225 x22_2).f1), .int .i64 ((rd_T137 y225 x22_2).f2)]] ?_; (with_reducible refine (L_vector_dot.calls ((rd_T137 y225 x16_1).f0) ((rd_T137 y225 x16_1).f1) ((rd_T137 y225 x16_1).f2) ((rd_T137 y225 x22_2).f0) ((rd_T137 y225 x22_2).f1) ((rd_T137 y225 x22_2).f2) t232 _ A12.out).mono ?_); rintro e w20 ⟨rfl, hb⟩; refine ⟨_, rfl, ?_⟩; replace HO_1 := m0 (Kd.R_below (by (with_reducible repeat (first | apply Kd.R_alloc | apply Kd.R_drewN | apply Kd.R_drew)); exact (Kd.R_mono (rf (rf (rf (rn gb231 HO_1.out (·.2)) (·.2)) (·.2)) (·.2)) (fun _ h_ => h_.1))) hb); replace HO_2 := m0 (Kd.R_below (by (with_reducible repeat (first | apply Kd.R_alloc | apply Kd.R_drewN | apply Kd.R_drew)); exact (Kd.R_mono (rf (rf (rf (Kd.R_types HO_2.out BK231.out (by decide)) (·.2)) (·.2)) (·.2)) (fun _ h_ => h_.1))) hb); replace HO_14 := m0 (Kd.R_below (by (with_reducible repeat (first | apply Kd.R_alloc | apply Kd.R_drewN | apply Kd.R_drew)); exact (Kd.R_mono (rf (rf (rf (rn gb231 HO_14.out (·.2)) (·.2)) (·.2)) (·.2)) (fun _ h_ => h_.1))) hb); replace HO_20 := m0 (Kd.R_below (by (with_reducible repeat (first | apply Kd.R_alloc | apply Kd.R_drewN | apply Kd.R_drew)); exact (Kd.R_mono (rf (rf (rf (rn gb231 HO_20.out (·.2)) (·.2)) (·.2)) (·.2)) (fun _ h_ => h_.1))) hb); replace BK229 := m0 (blk_below (g := gb229) (o := .cells #[.int .i64 ((rd_T137 y225 x16_1).f0), .int .i64 ((rd_T137 y225 x16_1).f1), .int .i64 ((rd_T137 y225 x16_1).f2)] 137 (0, 0)) (bq BK229.out) hb); replace BK231 := m0 (blk_below (g := gb231) (o := .cells #[.int .i64 ((rd_T137 y225 x22_2).f0), .int .i64 ((rd_T137 y225 x22_2).f1), .int .i64 ((rd_T137 y225 x22_2).f2)] 137 (0, 0)) (bq BK231.out) hb); replace HB := sb HB hb; (try clear hb)))
                          replace HO_1 := m0 (Kd.R_drew HO_1.out); replace HO_2 := m0 (Kd.R_drew HO_2.out); replace HO_14 := m0 (Kd.R_drew HO_14.out); replace HO_20 := m0 (Kd.R_drew HO_20.out); replace BK229 := bd BK229; replace BK231 := bd BK231; replace HB := sd HB; refine start_ (n := 10) (S := fun w' => w'.cell? ⟨gb229, 0, none⟩ = some (.int .i64 ((rd_T137 y225 x16_1).f0)) ∧ w'.cell? ⟨gb229, 1, none⟩ = some (.int .i64 ((rd_T137 y225 x16_1).f1)) ∧ w'.cell? ⟨gb229, 2, none⟩ = some (.int .i64 ((rd_T137 y225 x16_1).f2)) ∧ w'.cell? ⟨gb231, 0, none⟩ = some (.int .i64 ((rd_T137 y225 x22_2).f0)) ∧ w'.cell? ⟨gb231, 1, none⟩ = some (.int .i64 ((rd_T137 y225 x22_2).f1)) ∧ w'.cell? ⟨gb231, 2, none⟩ = some (.int .i64 ((rd_T137 y225 x22_2).f2))) (ds := []) _ (by kernel_rfl) rfl rfl cz (fun hH => ?_); refine with_tabW L_rotations.tab10 L_rotations.bits10 (fun HT_ HW_ => ?_); generalize w20.drew = w21 at HO_1 HO_2 HO_14 HO_20 BK229 BK231 HB hH ⊢; refine pZ 0 (some 30) #[true, false, false, false, false, false, false, false, false, false] HT_ ?_; refine takeZ 1 (some 31) #[true, true, false, false, false, false, false, false, false, false] (tw HT_ HW_) hH ?_; refine takeZ 2 (some 32) #[true, true, true, false, false, false, false, false, false, false] (tw HT_ HW_) hH ?_; refine takeZ 3 (some 33) #[true, true, true, true, false, false, false, false, false, false] (tw HT_ HW_) hH ?_; refine takeZ 4 (some 34) #[true, true, true, true, true, false, false, false, false, false] (tw HT_ HW_) hH ?_; refine oneZ 5 (some 35) #[true, true, true, true, true, true, false, false, false, false] (o1 HT_) fun K hK => ?_; refine gz Try.func131 #[.agg #[.int .i64 ((rd_T137 y225 x16_1).f0), .int .i64 ((rd_T137 y225 x16_1).f1), .int .i64 ((rd_T137 y225 x16_1).f2)], .agg #[.int .i64 ((rd_T137 y225 x22_2).f0), .int .i64 ((rd_T137 y225 x22_2).f1), .int .i64 ((rd_T137 y225 x22_2).f2)]] ?_
                          with_reducible refine (L_vector_cross.calls ((rd_T137 y225 x16_1).f0) ((rd_T137 y225 x16_1).f1) ((rd_T137 y225 x16_1).f2) ((rd_T137 y225 x22_2).f0) ((rd_T137 y225 x22_2).f1) ((rd_T137 y225 x22_2).f2) t233 t234 t235 _ A14.out).mono ?_
                          rintro e w22 ⟨rfl, hb⟩; refine ⟨_, rfl, ?_⟩; replace HO_1 := rb HO_1 hb; replace HO_2 := rb HO_2 hb; replace HO_14 := rb HO_14 hb; replace HO_20 := rb HO_20 hb; replace BK229 := bb BK229 hb; replace BK231 := bb BK231 hb; replace HB := sb HB hb; (try clear hb); refine hK.out _ _ cz (fun hH => ?_); clear hK K; refine nz 35 ?_; refine pZ 6 (some 36) #[true, true, true, true, true, true, true, false, false, false] HT_ ?_; refine oneZ 7 (some 37) #[true, true, true, true, true, true, true, true, false, false] (o1 HT_) fun K hK => ?_; refine value_ (w1 := ?_) (v := ?_) (by rfl) rfl ?_ ?_; rotate_left 2
                          · go_simp
                            constructor
                            · rfl
                            · rfl
                          refine hK.out _ _ ⟨(blk_cell (blk_alloc BK229.out _) 0).trans rfl, (blk_cell (blk_alloc BK229.out _) 1).trans rfl, (blk_cell (blk_alloc BK229.out _) 2).trans rfl, (blk_cell (blk_alloc BK231.out _) 0).trans rfl, (blk_cell (blk_alloc BK231.out _) 1).trans rfl, (blk_cell (blk_alloc BK231.out _) 2).trans rfl⟩ (fun hH => ?_); clear hK K; refine nz 37 ?_; refine oneZ 8 (some 38) #[true, true, true, true, true, true, true, true, true, false] (o1 HT_) fun K hK => ?_; refine Kd.R_append_step k139 (w0 := w) w.heap.size (by rfl) (.tmp 30) (.tmp 37) 140 139 (.agg #[(.int .i64 0), (.int .i64 0), (.int .i64 0), (.int .i64 0), (.int .i64 0), (.int .i64 0), (.int .i64 0), (.int .i64 0), (.int .i64 0)]) 72 rfl Try.underlying140 info139 rfl (by decide) (by omega) u2 x2_2 (⟨(⟨((rd_T137 y225 x16_1).f0), ((rd_T137 y225 x16_1).f1), ((rd_T137 y225 x16_1).f2)⟩ : S137), (⟨(rd_T137 y225 x22_2).f0, (rd_T137 y225 x22_2).f1, (rd_T137 y225 x22_2).f2⟩ : S137), (⟨t233, t234, t235⟩ : S137)⟩ : S139) [.int .i64 ((rd_T137 y225 x16_1).f0), .int .i64 ((rd_T137 y225 x16_1).f1), .int .i64 ((rd_T137 y225 x16_1).f2), .int .i64 ((rd_T137 y225 x22_2).f0), .int .i64 ((rd_T137 y225 x22_2).f1), .int .i64 ((rd_T137 y225 x22_2).f2), .int .i64 t233, .int .i64 t234, .int .i64 t235] (fun _ => True) (fun _ => False) rfl rfl ?aP (fun _ hk => hk.elim) ?aF ?aO ?aB ?aS ?aL ?_
                          (case aP => exact k139_mkM _ _ _ (⟨(⟨((rd_T137 y225 x16_1).f0), ((rd_T137 y225 x16_1).f1), ((rd_T137 y225 x16_1).f2)⟩ : S137), (⟨(rd_T137 y225 x22_2).f0, (rd_T137 y225 x22_2).f1, (rd_T137 y225 x22_2).f2⟩ : S137), (⟨t233, t234, t235⟩ : S137)⟩ : S139))
                          (case aB => exact bz)
                          (case aF => exact (fun _ _ => trivial))
                          (case aO => exact (br HO_2.out))
                          (case aS => exact (below_size bz))
                          (case aL => have := LMc15.out; omega)
                          intro v237 w23 ho hb hg hat; rw [← Ny236.out] at ho; have n0_ := m0 (Kd.R_over' (br HO_1.out) (Kd.R_typed (br HO_2.out)) (by decide) hg); have n1_ := m0 (Kd.R_over' (br HO_14.out) (Kd.R_typed (br HO_2.out)) (by decide) hg); have n2_ := m0 (Kd.R_over' (br HO_20.out) (Kd.R_typed (br HO_2.out)) (by decide) hg); have n3_ := m0 (blk_grown (g := gb229) (o := .cells #[.int .i64 ((rd_T137 y225 x16_1).f0), .int .i64 ((rd_T137 y225 x16_1).f1), .int .i64 ((rd_T137 y225 x16_1).f2)] 137 (0, 0)) (bk BK229.out) hg (Kd.R_ne HO_2.out BK229.out (by decide))); have n4_ := m0 (blk_grown (g := gb231) (o := .cells #[.int .i64 ((rd_T137 y225 x22_2).f0), .int .i64 ((rd_T137 y225 x22_2).f1), .int .i64 ((rd_T137 y225 x22_2).f2)] 137 (0, 0)) (bk BK231.out) hg (Kd.R_ne HO_2.out BK231.out (by decide))); have n5_ := m0 (hb); have n6_ := m0 (ho); clear HO_1; clear HO_14; clear HO_20; clear BK229; clear BK231; clear HB; clear HO_2; have HO_1 := n0_; have HO_14 := n1_; have HO_20 := n2_; have BK229 := n3_; have BK231 := n4_; have HB := n5_; have HO238 := n6_; clear n0_ n1_ n2_ n3_ n4_ n5_ n6_; clear ho hb hg hat; refine hK.out _ _ cz (fun hH => ?_); clear hK K; refine nz 38 ?_; refine pZ 9 (some 2) #[true, true, true, true, true, true, true, true, true, true] HT_ ?_; refine done_ (done_of HT_.out (by kernel_rfl)) ?_
                          try go_wp2
                          go_roundg k2
                          case measure => have := HK1.out; have := HK2.out; omega
                          case rel => exact ⟨(y236), (wrap64 (x22_2 + 1)), rz, H', ⟨by have := HK1.out; have := HK2.out; omega⟩, ⟨by (with_reducible repeat (first | apply Kd.R_alloc | apply Kd.R_drewN | apply Kd.R_drew)); exact Kd.R_mono HO_1.out (fun _ hk => hk.1)⟩, ⟨br HO238.out⟩, ⟨by (with_reducible repeat (first | apply Kd.R_alloc | apply Kd.R_drewN | apply Kd.R_drew)); exact Kd.R_mono HO_14.out (fun _ hk => hk.1)⟩, ⟨by (with_reducible repeat (first | apply Kd.R_alloc | apply Kd.R_drewN | apply Kd.R_drew)); exact Kd.R_mono HO_20.out (fun _ hk => hk.1)⟩, ⟨bk BK229.out⟩, ⟨bz⟩⟩
                        · rw [if_neg c15] at H; exact absurd H (by simp)
                      · rw [if_neg c13] at H; have c13b0 := beq_eq_false_iff_ne.mpr c13; have c13b1 := bne_iff_ne.mpr c13; have H' := m0 H; clear H; have p230 : 0 ≤ (x22_2 : Int) := od; have q230 : x22_2 < (y225.length : Int) := od; obtain ⟨ad230, e230, hx230_0, hx230_1, hx230_2⟩ := at_T137 (Kd.R_reads' HO_20.out).2.2 x22_2 p230 q230; obtain rfl : ad228 = ad230 := (by injection e230); replace p230 := eq_true p230; replace q230 := eq_true q230
                        go_wp2_with (first | ((with_reducible refine ga 6 rfl ?_); refine be 6 137 #[.int .i64 0, .int .i64 0, .int .i64 0] ?_; intro gb231 hg w24 hbox hb; replace HO_1 := m0 (Kd.R_below (Kd.R_elderB (br HO_1.out) gb231 (Nat.le_of_eq hg.symm)) hb); replace HO_2 := rb HO_2 hb; replace HO_14 := m0 (Kd.R_below (Kd.R_elderB (br HO_14.out) gb231 (Nat.le_of_eq hg.symm)) hb); replace HO_20 := m0 (Kd.R_below (Kd.R_elderB (br HO_20.out) gb231 (Nat.le_of_eq hg.symm)) hb); have BK231 := m0 hbox; have GE231 := gw w hg; replace HB := sb HB hb; have NB229_231 := nl BK229 hg; have NB231_229 := ng (nl BK229 hg); replace BK229 := bb BK229 hb; clear hb hbox hg; have hnb25 := NB231_229.out; have hnc25 := NB229_231.out; obtain ⟨_, _, _, _, _, _⟩ := b3 BK231; obtain ⟨_, _, _, _, _, _⟩ := b3 BK229) | ((with_reducible refine gc 130 rfl ?_); refine gl (some 28) Try.func130 #[.agg #[.int .i64 ((rd_T137 y225 x16_1).f0), .int .i64 ((rd_T137 y225 x16_1).f1), .int .i64 ((rd_T137 y225 x16_1).f2)], .agg #[.int .i64 ((rd_T137 y225 x22_2).f0), .int .i64 ((rd_T137 y225 x22_2).f1), .int .i64 ((rd_T137 y225 x22_2).f2)]] ?_; (with_reducible refine (L_vector_dot.calls ((rd_T137 y225 x16_1).f0) ((rd_T137 y225 x16_1).f1) ((rd_T137 y225 x16_1).f2) ((rd_T137 y225 x22_2).f0) ((rd_T137 y225 x22_2).f1) ((rd_T137 y225 x22_2).f2) t232 _ A12.out).mono ?_); rintro e w28 ⟨rfl, hb⟩; refine ⟨_, rfl, ?_⟩; replace HO_1 := m0 (Kd.R_below (by (with_reducible repeat (first | apply Kd.R_alloc | apply Kd.R_drewN | apply Kd.R_drew)); exact (Kd.R_mono (rf (rf (rf (rn gb231 HO_1.out (·.2)) (·.2)) (·.2)) (·.2)) (fun _ h_ => h_.1))) hb); replace HO_2 := m0 (Kd.R_below (by (with_reducible repeat (first | apply Kd.R_alloc | apply Kd.R_drewN | apply Kd.R_drew)); exact (Kd.R_mono (rf (rf (rf (Kd.R_types HO_2.out BK231.out (by decide)) (·.2)) (·.2)) (·.2)) (fun _ h_ => h_.1))) hb); replace HO_14 := m0 (Kd.R_below (by (with_reducible repeat (first | apply Kd.R_alloc | apply Kd.R_drewN | apply Kd.R_drew)); exact (Kd.R_mono (rf (rf (rf (rn gb231 HO_14.out (·.2)) (·.2)) (·.2)) (·.2)) (fun _ h_ => h_.1))) hb); replace HO_20 := m0 (Kd.R_below (by (with_reducible repeat (first | apply Kd.R_alloc | apply Kd.R_drewN | apply Kd.R_drew)); exact (Kd.R_mono (rf (rf (rf (rn gb231 HO_20.out (·.2)) (·.2)) (·.2)) (·.2)) (fun _ h_ => h_.1))) hb); replace BK229 := m0 (blk_below (g := gb229) (o := .cells #[.int .i64 ((rd_T137 y225 x16_1).f0), .int .i64 ((rd_T137 y225 x16_1).f1), .int .i64 ((rd_T137 y225 x16_1).f2)] 137 (0, 0)) (bq BK229.out) hb); replace BK231 := m0 (blk_below (g := gb231) (o := .cells #[.int .i64 ((rd_T137 y225 x22_2).f0), .int .i64 ((rd_T137 y225 x22_2).f1), .int .i64 ((rd_T137 y225 x22_2).f2)] 137 (0, 0)) (bq BK231.out) hb); replace HB := sb HB hb; (try clear hb)))
                        go_roundg k2
                        case measure => have := HK1.out; have := HK2.out; omega
                        case rel => exact ⟨(x2_2), (wrap64 (x22_2 + 1)), rz, H', ⟨by have := HK1.out; have := HK2.out; omega⟩, ⟨by (with_reducible repeat (first | apply Kd.R_alloc | apply Kd.R_drewN | apply Kd.R_drew)); exact Kd.R_mono HO_1.out (fun _ hk => hk.1)⟩, ⟨br HO_2.out⟩, ⟨by (with_reducible repeat (first | apply Kd.R_alloc | apply Kd.R_drewN | apply Kd.R_drew)); exact Kd.R_mono HO_14.out (fun _ hk => hk.1)⟩, ⟨by (with_reducible repeat (first | apply Kd.R_alloc | apply Kd.R_drewN | apply Kd.R_drew)); exact Kd.R_mono HO_20.out (fun _ hk => hk.1)⟩, ⟨bk BK229.out⟩, ⟨bz⟩⟩
                    · rw [if_neg c11] at H; exact absurd H (by simp)
                  · rw [if_neg c10] at H; exact absurd H (by simp)
                · rw [if_neg c9] at H; have c9b0 := decide_eq_false c9; clear c9; have H' := m0 H; clear H
                  go_wp2
                  go_roundg k2
                  case measure => have := HK1.out; have := HK2.out; omega
                  case rel => exact ⟨(x2_2), (wrap64 (x16_1 + 1)), rz, H', ⟨by have := HK1.out; have := HK2.out; omega⟩, ⟨by (with_reducible repeat (first | apply Kd.R_alloc | apply Kd.R_drewN | apply Kd.R_drew)); exact Kd.R_mono HO_1.out (fun _ hk => trivial)⟩, ⟨br HO_2.out⟩, ⟨by (with_reducible repeat (first | apply Kd.R_alloc | apply Kd.R_drewN | apply Kd.R_drew)); exact Kd.R_mono HO_14.out (fun _ hk => trivial)⟩, ⟨bz⟩⟩
          · rw [if_neg c6] at H; exact absurd H (by simp)
        · rw [if_neg c5] at H; exact absurd H (by simp)
      · rw [if_neg c4] at H; have c4b0 := decide_eq_false c4; clear c4; obtain rfl := Option.some.inj H
        go_wp2
        go_ret
        exact ⟨_, by first | rfl | (simp [errW_none, errW_some] <;> rfl) | (simp [*, errW_none, errW_some] <;> rfl), by (with_reducible repeat (first | apply Kd.R_alloc | apply Kd.R_drewN | apply Kd.R_drew)); exact HO_2.out, by repeat (first | (with_reducible first | exact HB.out | apply below_alloc | apply pw_below_drewN | apply below_drew1) | exact HB.out)⟩
end
section
def L_rotation_turned.f (a0_0 : Int) (a0_1 : Int) (a0_2 : Int) (a0_3 : Int) (a0_4 : Int) (a0_5 : Int) (a0_6 : Int) (a0_7 : Int) (a0_8 : Int) (a1_0 : Int) (a1_1 : Int) (a1_2 : Int) : Option (Int × Int × Int) := (L_vector_dot.f a0_0 a0_1 a0_2 a1_0 a1_1 a1_2).bind fun t242 => ((L_vector_dot.f a0_3 a0_4 a0_5 a1_0 a1_1 a1_2).bind fun t243 => ((L_vector_dot.f a0_6 a0_7 a0_8 a1_0 a1_1 a1_2).bind fun t244 => (some (t242, t243, t244))))
def L_rotation_turned.T1 : Bool × List (List Nat × List Nat) := (true, [([], []), ([0], [0]), ([], []), ([1, 2], [1, 2]), ([], []), ([4], [4]), ([], []), ([5, 6, 3], [5, 6]), ([], []), ([8], [8]), ([], []), ([9, 10, 7], [9, 10]), ([3, 7, 11], [3, 7, 11]), ([12, 11, 0, 1, 2, 3, 4, 5, 6, 7, 8, 9, 10, 11, 12], [12])])
def L_rotation_turned.B1 : List Nat := [0, 1, 0, 7, 0, 16, 0, 127, 0, 256, 0, 2047, 4095, 8191]
theorem L_rotation_turned.tab1 : rtab .any (opsOf Try.f86 1) = L_rotation_turned.T1 := by kernel_rfl
theorem L_rotation_turned.bits1 : waitsOk L_rotation_turned.T1.2 L_rotation_turned.B1 = true := by kernel_rfl
theorem L_rotation_turned.calls (a0_0 : Int) (a0_1 : Int) (a0_2 : Int) (a0_3 : Int) (a0_4 : Int) (a0_5 : Int) (a0_6 : Int) (a0_7 : Int) (a0_8 : Int) (a1_0 : Int) (a1_1 : Int) (a1_2 : Int) (r1 : Int) (r2 : Int) (r3 : Int) (w : World) (H : L_rotation_turned.f a0_0 a0_1 a0_2 a0_3 a0_4 a0_5 a0_6 a0_7 a0_8 a1_0 a1_1 a1_2 = some (r1, r2, r3)) :
  Calls Try.prog 86 #[.agg #[.int .i64 a0_0, .int .i64 a0_1, .int .i64 a0_2, .int .i64 a0_3, .int .i64 a0_4, .int .i64 a0_5, .int .i64 a0_6, .int .i64 a0_7, .int .i64 a0_8], .agg #[.int .i64 a1_0, .int .i64 a1_1, .int .i64 a1_2]] w fun e w' => e = .returned (.agg #[.int .i64 r1, .int .i64 r2, .int .i64 r3]) ∧ Below w.heap.size w w' := by
 have hu139 := Try.underlying139; have hu137 := Try.underlying137; have hix139_0 : ∀ (g_ : Nat) (W_ : World), (Instr.indexAt 139 (.pointer (some ⟨g_, 0, none⟩)) (.int .i64 0)).run Try.prog W_ = .ok (.pointer (some ⟨g_, 0, none⟩)) W_ := fun _ _ => by kernel_rfl
 have hix139_1 : ∀ (g_ : Nat) (W_ : World), (Instr.indexAt 139 (.pointer (some ⟨g_, 0, none⟩)) (.int .i64 1)).run Try.prog W_ = .ok (.pointer (some ⟨g_, 3, none⟩)) W_ := fun _ _ => by kernel_rfl
 have hix139_2 : ∀ (g_ : Nat) (W_ : World), (Instr.indexAt 139 (.pointer (some ⟨g_, 0, none⟩)) (.int .i64 2)).run Try.prog W_ = .ok (.pointer (some ⟨g_, 6, none⟩)) W_ := fun _ _ => by kernel_rfl
 have HB := m0 (Below.refl w.heap.size w); unfold L_rotation_turned.f at H; replace H := oa H; obtain ⟨t242, A3, H⟩ := H; (try dsimp only at H); replace H := oa H; obtain ⟨t243, A4, H⟩ := H; (try dsimp only at H); replace H := oa H; obtain ⟨t244, A5, H⟩ := H; (try dsimp only at H); simp only [Option.some.injEq, Prod.mk.injEq] at H; obtain ⟨rfl, rfl, rfl⟩ := H; go_enter Try.func86, Try.ntmps86
 try go_wp2_with (first | ((with_reducible refine ga 2 rfl ?_); refine be 2 139 #[.int .i64 a0_0, .int .i64 a0_1, .int .i64 a0_2, .int .i64 a0_3, .int .i64 a0_4, .int .i64 a0_5, .int .i64 a0_6, .int .i64 a0_7, .int .i64 a0_8] ?_; intro gb239 hg w6 hbox hb; have BK239 := m0 hbox; have GE239 := gw w hg; replace HB := sb HB hb; clear hb hbox hg) | ((with_reducible refine ga 3 rfl ?_); refine be 3 137 #[.int .i64 a1_0, .int .i64 a1_1, .int .i64 a1_2] ?_; intro gb240 hg w7 hbox hb; have BK240 := m0 hbox; have GE240 := gw w hg; replace HB := sb HB hb; have NB239_240 := nl BK239 hg; have NB240_239 := ng (nl BK239 hg); replace BK239 := bb BK239 hb; clear hb hbox hg) | ((with_reducible refine ga 4 rfl ?_); refine be 4 137 #[.int .i64 0, .int .i64 0, .int .i64 0] ?_; intro gb241 hg w8 hbox hb; have BK241 := m0 hbox; have GE241 := gw w hg; replace HB := sb HB hb; have NB239_241 := nl BK239 hg; have NB241_239 := ng (nl BK239 hg); replace BK239 := bb BK239 hb; have NB240_241 := nl BK240 hg; have NB241_240 := ng (nl BK240 hg); replace BK240 := bb BK240 hb; clear hb hbox hg))
 replace BK239 := bd BK239; replace BK240 := bd BK240; replace BK241 := bd BK241; replace HB := sd HB; refine start_ (n := 14) (S := fun w' => w'.cell? ⟨gb239, 0, none⟩ = some (.int .i64 a0_0) ∧ w'.cell? ⟨gb239, 1, none⟩ = some (.int .i64 a0_1) ∧ w'.cell? ⟨gb239, 2, none⟩ = some (.int .i64 a0_2) ∧ w'.cell? ⟨gb239, 3, none⟩ = some (.int .i64 a0_3) ∧ w'.cell? ⟨gb239, 4, none⟩ = some (.int .i64 a0_4) ∧ w'.cell? ⟨gb239, 5, none⟩ = some (.int .i64 a0_5) ∧ w'.cell? ⟨gb239, 6, none⟩ = some (.int .i64 a0_6) ∧ w'.cell? ⟨gb239, 7, none⟩ = some (.int .i64 a0_7) ∧ w'.cell? ⟨gb239, 8, none⟩ = some (.int .i64 a0_8) ∧ w'.cell? ⟨gb240, 0, none⟩ = some (.int .i64 a1_0) ∧ w'.cell? ⟨gb240, 1, none⟩ = some (.int .i64 a1_1) ∧ w'.cell? ⟨gb240, 2, none⟩ = some (.int .i64 a1_2)) (ds := []) _ (by kernel_rfl) rfl rfl cz (fun hH => ?_); refine with_tabW L_rotation_turned.tab1 L_rotation_turned.bits1 (fun HT_ HW_ => ?_); generalize w8.drew = w9 at BK239 BK240 BK241 HB hH ⊢; refine pZ 0 (some 5) (bs 14 1) HT_ ?_; refine pZ 4 (some 9) (bs 14 17) HT_ ?_; refine pZ 8 (some 13) (bs 14 273) HT_ ?_; refine takeZ 1 (some 6) (bs 14 275) (tw HT_ HW_) hH ?_; refine takeZ 2 (some 7) (bs 14 279) (tw HT_ HW_) hH ?_; refine takeZ 5 (some 10) (bs 14 311) (tw HT_ HW_) hH ?_; refine takeZ 6 (some 11) (bs 14 375) (tw HT_ HW_) hH ?_; refine takeZ 9 (some 14) (bs 14 887) (tw HT_ HW_) hH ?_; refine takeZ 10 (some 15) (bs 14 1911) (tw HT_ HW_) hH ?_; refine oneZ 3 (some 8) (bs 14 1919) (o1 HT_) fun K hK => ?_; refine gz Try.func130 #[.agg #[.int .i64 a0_0, .int .i64 a0_1, .int .i64 a0_2], .agg #[.int .i64 a1_0, .int .i64 a1_1, .int .i64 a1_2]] ?_
 with_reducible refine (L_vector_dot.calls a0_0 a0_1 a0_2 a1_0 a1_1 a1_2 t242 _ A3.out).mono ?_
 rintro e w10 ⟨rfl, hb⟩; refine ⟨_, rfl, ?_⟩; replace BK239 := bb BK239 hb; replace BK240 := bb BK240 hb; replace BK241 := bb BK241 hb; replace HB := sb HB hb; (try clear hb); refine hK.out _ _ cz (fun hH => ?_); clear hK K; refine nz 8 ?_; refine oneZ 7 (some 12) (bs 14 2047) (o1 HT_) fun K hK => ?_; refine gz Try.func130 #[.agg #[.int .i64 a0_3, .int .i64 a0_4, .int .i64 a0_5], .agg #[.int .i64 a1_0, .int .i64 a1_1, .int .i64 a1_2]] ?_
 with_reducible refine (L_vector_dot.calls a0_3 a0_4 a0_5 a1_0 a1_1 a1_2 t243 _ A4.out).mono ?_
 rintro e w11 ⟨rfl, hb⟩; refine ⟨_, rfl, ?_⟩; replace BK239 := bb BK239 hb; replace BK240 := bb BK240 hb; replace BK241 := bb BK241 hb; replace HB := sb HB hb; (try clear hb); refine hK.out _ _ cz (fun hH => ?_); clear hK K; refine nz 12 ?_; refine oneZ 11 (some 16) (bs 14 4095) (o1 HT_) fun K hK => ?_; refine gz Try.func130 #[.agg #[.int .i64 a0_6, .int .i64 a0_7, .int .i64 a0_8], .agg #[.int .i64 a1_0, .int .i64 a1_1, .int .i64 a1_2]] ?_
 with_reducible refine (L_vector_dot.calls a0_6 a0_7 a0_8 a1_0 a1_1 a1_2 t244 _ A5.out).mono ?_
 rintro e w12 ⟨rfl, hb⟩; refine ⟨_, rfl, ?_⟩; replace BK239 := bb BK239 hb; replace BK240 := bb BK240 hb; replace BK241 := bb BK241 hb; replace HB := sb HB hb; (try clear hb); refine hK.out _ _ cz (fun hH => ?_); clear hK K; refine nz 16 ?_; refine pZ 12 (some 17) (bs 14 8191) HT_ ?_; refine oneZ 13 (none) (bs 14 16383) (o1 HT_) fun K hK => ?_; obtain ⟨hs13, hfs13⟩ := q0 BK241; obtain ⟨hs14, hfs14⟩ := q1 BK241; obtain ⟨hs15, hfs15⟩ := q2 BK241; refine skip_ (w1 := ?_) (by rfl) rfl ?_ ?_; rotate_left
 ·go_simp
  rfl
 refine hK.out _ _ (cf hH) (fun hH => ?_); clear hK K; refine done_ (done_of HT_.out (by kernel_rfl)) ?_
 try go_wp2
 refine bodyPost_ret (results_cell_row rfl _ _ gb241 137 #[.int .i64 t242, .int .i64 t243, .int .i64 t244] (0, 0) _ rfl (bq BK241.out) Try.underlying137 rfl (by kernel_rfl)) rfl ?_; exact ez
end
section
mutual
def L_scores.l0 : Nat → List (S126) → List Int → List (S139) → Int → Int → Option (List Int)
  | 0, _, _, _, _, _ => none
  | k + 1, x0, x3, x9, x10, x11 => if x11 < x10 then (if 0 ≤ x11 then (if x11 < (x9.length : Int) then (L_scores.l1 k x0 x3 0 x9 x10 x11 x0 (x0.length : Int) 0 ((rd_T139 x9 x11).f0.f0) ((rd_T139 x9 x11).f0.f1) ((rd_T139 x9 x11).f0.f2) ((rd_T139 x9 x11).f1.f0) ((rd_T139 x9 x11).f1.f1) ((rd_T139 x9 x11).f1.f2) ((rd_T139 x9 x11).f2.f0) ((rd_T139 x9 x11).f2.f1) ((rd_T139 x9 x11).f2.f2)) else (none)) else (none)) else (some x3)
def L_scores.l1 : Nat → List (S126) → List Int → Int → List (S139) → Int → Int → List (S126) → Int → Int → Int → Int → Int → Int → Int → Int → Int → Int → Int → Option (List Int)
  | 0, _, _, _, _, _, _, _, _, _, _, _, _, _, _, _, _, _, _ => none
  | k + 1, x0, x3, x6, x9, x10, x11, x15, x16, x17, x250000, x250001, x250002, x250003, x250004, x250005, x250006, x250007, x250008 => if x17 < x16 then (if 0 ≤ x17 then (if x17 < (x15.length : Int) then ((L_rotation_turned.f x250000 x250001 x250002 x250003 x250004 x250005 x250006 x250007 x250008 ((rd_T126 x15 x17).f0.f0) ((rd_T126 x15 x17).f0.f1) ((rd_T126 x15 x17).f0.f2)).bind fun bt252 => ((L_vector_dot.f ((rd_T126 x15 x17).f1.f0) ((rd_T126 x15 x17).f1.f1) ((rd_T126 x15 x17).f1.f2) bt252.1 bt252.2.1 bt252.2.2).bind fun t255 => (L_scores.l1 k x0 x3 (wrap64 (x6 + t255)) x9 x10 x11 x15 x16 (wrap64 (x17 + 1)) x250000 x250001 x250002 x250003 x250004 x250005 x250006 x250007 x250008))) else (none)) else (none)) else (if x3.length < 17592186044416 then (L_scores.l0 k x0 (x3 ++ [x6]) x9 x10 (wrap64 (x11 + 1))) else (none))
end
def L_scores.f (k : Nat) (l0 : List (S126)) : Option (List Int) := (L_rotations.f k).bind fun t245 => (L_scores.l0 k l0 ([] : List Int) t245 (t245.length : Int) 0)
theorem L_scores.mono_l : ∀ k, (∀ y0 y1 y2 y3 y4, LeO (L_scores.l0 k y0 y1 y2 y3 y4) (L_scores.l0 (k + 1) y0 y1 y2 y3 y4)) ∧ (∀ y0 y1 y2 y3 y4 y5 y6 y7 y8 y9 y10 y11 y12 y13 y14 y15 y16 y17, LeO (L_scores.l1 k y0 y1 y2 y3 y4 y5 y6 y7 y8 y9 y10 y11 y12 y13 y14 y15 y16 y17) (L_scores.l1 (k + 1) y0 y1 y2 y3 y4 y5 y6 y7 y8 y9 y10 y11 y12 y13 y14 y15 y16 y17))
  | 0 => ⟨fun _ _ _ _ _ r h => by simp [L_scores.l0] at h, fun _ _ _ _ _ _ _ _ _ _ _ _ _ _ _ _ _ _ r h => by simp [L_scores.l1] at h⟩
  | k + 1 => by
    obtain ⟨ih0, ih1⟩ := L_scores.mono_l k; refine ⟨?_, ?_⟩
    · intro y0 y1 y2 y3 y4; unfold L_scores.l0
      repeat' with_reducible first
        | exact ih0 ..
        | exact ih1 ..
        | exact L_rotations.mono ..
        | exact LeO.refl ..
        | exact LeO.none ..
        | refine LeO.ite ?_ ?_
        | refine LeO.bind ?_ (fun _ => ?_)
    · intro y0 y1 y2 y3 y4 y5 y6 y7 y8 y9 y10 y11 y12 y13 y14 y15 y16 y17; unfold L_scores.l1
      repeat' with_reducible first
        | exact ih0 ..
        | exact ih1 ..
        | exact L_rotations.mono ..
        | exact LeO.refl ..
        | exact LeO.none ..
        | refine LeO.ite ?_ ?_
        | refine LeO.bind ?_ (fun _ => ?_)
theorem L_scores.mono : ∀ a0 k, LeO (L_scores.f k a0) (L_scores.f (k + 1) a0) := by
  intro a0 k; obtain ⟨ih0, ih1⟩ := L_scores.mono_l k; unfold L_scores.f
  repeat' with_reducible first
    | exact ih0 ..
    | exact ih1 ..
    | exact L_rotations.mono ..
    | exact LeO.refl ..
    | exact LeO.none ..
    | refine LeO.ite ?_ ?_
    | refine LeO.bind ?_ (fun _ => ?_)
def L_scores.T9 : Bool × List (List Nat × List Nat) := (true, [([], []), ([], []), ([1], [1]), ([], []), ([], []), ([4], [4]), ([3, 5], [3, 5]), ([2, 6, 6], [2, 6]), ([0, 7], [0, 7]), ([8, 7, 0, 1, 2, 3, 4, 5, 6, 7, 8], [0, 8])])
def L_scores.B9 : List Nat := [0, 0, 2, 0, 0, 16, 56, 126, 255, 511]
theorem L_scores.tab9 : rtab .any (opsOf Try.f124 9) = L_scores.T9 := by kernel_rfl
theorem L_scores.bits9 : waitsOk L_scores.T9.2 L_scores.B9 = true := by kernel_rfl
theorem L_scores.calls (k : Nat) (A0 : Option Addr) (c0 : Nat) (l0 : List (S126)) (r : List Int) (w : World) (hr0 : Kd.C k126 w A0 l0.length l0) (hc0 : l0.length ≤ c0) (H : L_scores.f k l0 = some r) :
    Calls Try.prog 124 #[.slice A0 l0.length c0] w fun e w' => ∃ v0_ : Value, e = .returned (v0_) ∧ Kd.R (Kd.int .i64) 3 w' w.heap.size (fun _ => True) v0_ r ∧ Below w.heap.size w w' := by
  have hu139 := Try.underlying139; have hu126 := Try.underlying126; have hu44 := Try.underlying44; have HR0 := m0 hr0; have HC0 := m0 hc0; clear hr0 hc0; have HB := m0 (Below.refl w.heap.size w); unfold L_scores.f at H; replace H := oa H; obtain ⟨t245, A2, H⟩ := H; (try dsimp only at H); have H' := m0 H; clear H; go_enter Try.func124, Try.ntmps124
  go_wp2_with (first | ((with_reducible refine gc 84 rfl ?_); refine gl (some 9) Try.func84 #[] ?_; (with_reducible refine (L_rotations.calls k  t245 _ A2.out).mono ?_); rintro e w3 ⟨v246, rfl, ho0, hb⟩; refine ⟨_, rfl, ?_⟩; have HO247 := m0 (Kd.R_lower ho0 (below_size bz)); replace HB := sb HB hb; (try clear hb); (try clear ho0); obtain ⟨Ao4, co4, eo4⟩ := Kd.R_slice HO247.out; subst eo4))
  go_loopg [3, 11] k (fun kq v3 v11 w' => ∃ (x3_1 : List Int) (x11_1 : Int), v11 = .int .i64 x11_1 ∧ Aside0 (L_scores.l0 kq l0 x3_1 t245 (t245.length : Int) x11_1 = some r) ∧ Aside0 (kq ≤ k) ∧ Aside0 (Kd.R (Kd.int .i64) 3 w' w.heap.size (fun _ => True) v3 x3_1) ∧ Aside0 (Kd.R k139 139 w' w.heap.size (fun _ => True) (.slice Ao4 t245.length co4) t245) ∧ Aside0 (Below w.heap.size w w'))
  case atStart => exact ⟨(([] : List Int)), (0), rz, H', ⟨Nat.le_refl _⟩, ⟨by first | exact Kd.R_nil _ _ _ _ _ | exact Kd.N_nil _ _ _ _ _ | exact Kd.V_nil _ _ _ _ _ | exact Kd.Q_nil _ _ _ _ _ | exact Kd.S_nil _ _ _ _ _⟩, ⟨br HO247.out⟩, ⟨bz⟩⟩
  case round =>
    clear H'; obtain ⟨x3_1, x11_1, rfl, HA, HK1, HO_3, HO_9, HB⟩ := hrel
    cases gk with
    | zero => exact absurd HA.out (by simp [L_scores.l0])
    | succ k1 =>
      have H := HA.out; clear HA; simp only [L_scores.l0] at H
      by_cases c5 : x11_1 < (t245.length : Int)
      · rw [if_pos c5] at H; have c5b0 := decide_eq_true c5; clear c5
        by_cases c6 : 0 ≤ x11_1
        · rw [if_pos c6] at H; have c6b0 := decide_eq_true c6; clear c6
          by_cases c7 : x11_1 < (t245.length : Int)
          · rw [if_pos c7] at H; have c7b0 := decide_eq_true c7; clear c7; have H' := m0 H; clear H; have p248 : 0 ≤ (x11_1 : Int) := od; have q248 : x11_1 < (t245.length : Int) := od; obtain ⟨ad248, e248, hx248_0, hx248_1, hx248_2, hx248_3, hx248_4, hx248_5, hx248_6, hx248_7, hx248_8⟩ := at_T139 (Kd.R_reads' HO_9.out).2.2 x11_1 p248 q248
            cases e248
            replace p248 := eq_true p248; replace q248 := eq_true q248
            go_wp2_with (first | ((with_reducible refine ga 5 rfl ?_); refine be 5 139 #[.int .i64 0, .int .i64 0, .int .i64 0, .int .i64 0, .int .i64 0, .int .i64 0, .int .i64 0, .int .i64 0, .int .i64 0] ?_; intro gb249 hg w8 hbox hb; replace HO_3 := rb HO_3 hb; replace HO_9 := m0 (Kd.R_below (Kd.R_elderB (br HO_9.out) gb249 (Nat.le_of_eq hg.symm)) hb); have BK249 := m0 hbox; have GE249 := gw w hg; replace HB := sb HB hb; clear hb hbox hg; obtain ⟨hcz9_0, hcz9_1, hcz9_2, hcz9_3, hcz9_4, hcz9_5, hcz9_6, hcz9_7, hcz9_8, hfz9_0, hfz9_1, hfz9_2, hfz9_3, hfz9_4, hfz9_5, hfz9_6, hfz9_7, hfz9_8⟩ := b9 BK249))
            go_loopg [6, 17] k1 (fun kq v6 v17 w' => ∃ (x6_2 : Int) (x17_2 : Int), v6 = .int .i64 x6_2 ∧ v17 = .int .i64 x17_2 ∧ Aside0 (L_scores.l1 kq l0 x3_1 x6_2 t245 (t245.length : Int) x11_1 l0 (l0.length : Int) x17_2 ((rd_T139 t245 x11_1).f0.f0) ((rd_T139 t245 x11_1).f0.f1) ((rd_T139 t245 x11_1).f0.f2) ((rd_T139 t245 x11_1).f1.f0) ((rd_T139 t245 x11_1).f1.f1) ((rd_T139 t245 x11_1).f1.f2) ((rd_T139 t245 x11_1).f2.f0) ((rd_T139 t245 x11_1).f2.f1) ((rd_T139 t245 x11_1).f2.f2) = some r) ∧ Aside0 (kq ≤ k1) ∧ Aside0 (Kd.R (Kd.int .i64) 3 w' w.heap.size (fun _ => True) u3 x3_1) ∧ Aside0 (Kd.R k139 139 w' w.heap.size (fun k_ => k_ ≠ gb249) (.slice (some ad248) t245.length co4) t245) ∧ Aside0 (w'.heap[gb249]? = some (.cells #[.int .i64 ((rd_T139 t245 x11_1).f0.f0), .int .i64 ((rd_T139 t245 x11_1).f0.f1), .int .i64 ((rd_T139 t245 x11_1).f0.f2), .int .i64 ((rd_T139 t245 x11_1).f1.f0), .int .i64 ((rd_T139 t245 x11_1).f1.f1), .int .i64 ((rd_T139 t245 x11_1).f1.f2), .int .i64 ((rd_T139 t245 x11_1).f2.f0), .int .i64 ((rd_T139 t245 x11_1).f2.f1), .int .i64 ((rd_T139 t245 x11_1).f2.f2)] 139 (0, 0))) ∧ Aside0 (Below w.heap.size w w'))
            case atStart => exact ⟨(0), (0), rz, rz, H', ⟨Nat.le_refl _⟩, ⟨by (with_reducible repeat (first | apply Kd.R_alloc | apply Kd.R_drewN | apply Kd.R_drew)); exact Kd.R_mono (rf (rf (rf (rf (rf (rf (rf (rf (rf (Kd.R_types HO_3.out BK249.out (by decide)) (·.2)) (·.2)) (·.2)) (·.2)) (·.2)) (·.2)) (·.2)) (·.2)) (·.2)) (fun _ hk => trivial)⟩, ⟨by (with_reducible repeat (first | apply Kd.R_alloc | apply Kd.R_drewN | apply Kd.R_drew)); exact Kd.R_mono (rf (rf (rf (rf (rf (rf (rf (rf (rf (rn gb249 HO_9.out (·.2)) (·.2)) (·.2)) (·.2)) (·.2)) (·.2)) (·.2)) (·.2)) (·.2)) (·.2)) (fun _ hk => hk.1.2)⟩, ⟨bq BK249.out⟩, ⟨bz⟩⟩
            case round =>
              clear H'
              try clear hx2
              try clear hcz9_0
              try clear hcz9_1
              try clear hcz9_2
              try clear hcz9_3
              try clear hcz9_4
              try clear hcz9_5
              try clear hcz9_6
              try clear hcz9_7
              try clear hcz9_8
              try clear hfz9_0
              try clear hfz9_1
              try clear hfz9_2
              try clear hfz9_3
              try clear hfz9_4
              try clear hfz9_5
              try clear hfz9_6
              try clear hfz9_7
              try clear hfz9_8
              try clear hx248_0
              try clear hx248_1
              try clear hx248_2
              try clear hx248_3
              try clear hx248_4
              try clear hx248_5
              try clear hx248_6
              try clear hx248_7
              try clear hx248_8
              obtain ⟨x6_2, x17_2, rfl, rfl, HA, HK2, HO_3, HO_9, BK249, HB⟩ := hrel
              cases gk with
              | zero => exact absurd HA.out (by simp [L_scores.l1])
              | succ k2 =>
                have H := HA.out; clear HA; simp only [L_scores.l1] at H
                by_cases c10 : x17_2 < (l0.length : Int)
                · rw [if_pos c10] at H; have c10b0 := decide_eq_true c10; clear c10
                  by_cases c11 : 0 ≤ x17_2
                  · rw [if_pos c11] at H; have c11b0 := decide_eq_true c11; clear c11
                    by_cases c12 : x17_2 < (l0.length : Int)
                    · rw [if_pos c12] at H; have c12b0 := decide_eq_true c12; clear c12; replace H := oa H; obtain ⟨⟨t252, t253, t254⟩, A13, H⟩ := H; (try dsimp only at H); replace H := oa H; obtain ⟨t255, A14, H⟩ := H; (try dsimp only at H); have H' := m0 H; clear H; have p250 : 0 ≤ (x17_2 : Int) := od; have q250 : x17_2 < (l0.length : Int) := od; obtain ⟨ad250, e250, hx250_0, hx250_1, hx250_2, hx250_3, hx250_4, hx250_5⟩ := at_T126 HR0.out x17_2 p250 q250
                      cases e250
                      replace hx250_0 := hc HB hx250_0; replace hx250_1 := hc HB hx250_1; replace hx250_2 := hc HB hx250_2; replace hx250_3 := hc HB hx250_3; replace hx250_4 := hc HB hx250_4; replace hx250_5 := hc HB hx250_5; replace p250 := eq_true p250; replace q250 := eq_true q250
                      try go_wp2_with (first | ((with_reducible refine ga 8 rfl ?_); refine be 8 126 #[.int .i64 0, .int .i64 0, .int .i64 0, .int .i64 0, .int .i64 0, .int .i64 0] ?_; intro gb251 hg w15 hbox hb; replace HO_3 := rb HO_3 hb; replace HO_9 := rb HO_9 hb; have BK251 := m0 hbox; have GE251 := gw w hg; replace HB := sb HB hb; have NB249_251 := nl BK249 hg; have NB251_249 := ng (nl BK249 hg); replace BK249 := bb BK249 hb; clear hb hbox hg; have hnb16 := NB251_249.out; have hnc16 := NB249_251.out; obtain ⟨_, _, _, _, _, _, _, _, _, _, _, _⟩ := b6 BK251))
                      replace HO_3 : Aside0 (Kd.R (Kd.int .i64) 3 ((((((w15.setCell ⟨gb251, 0, none⟩ (.int .i64 ((rd_T126 l0 x17_2).f0.f0))).setCell ⟨gb251, 1, none⟩ (.int .i64 ((rd_T126 l0 x17_2).f0.f1))).setCell ⟨gb251, 2, none⟩ (.int .i64 ((rd_T126 l0 x17_2).f0.f2))).setCell ⟨gb251, 3, none⟩ (.int .i64 ((rd_T126 l0 x17_2).f1.f0))).setCell ⟨gb251, 4, none⟩ (.int .i64 ((rd_T126 l0 x17_2).f1.f1))).setCell ⟨gb251, 5, none⟩ (.int .i64 ((rd_T126 l0 x17_2).f1.f2))) w.heap.size (fun _ => True) u3 x3_1) := ⟨by (with_reducible repeat (first | apply Kd.R_alloc | apply Kd.R_drewN | apply Kd.R_drew)); exact Kd.R_mono (rf (rf (rf (rf (rf (rf (Kd.R_types HO_3.out BK251.out (by decide)) (·.2)) (·.2)) (·.2)) (·.2)) (·.2)) (·.2)) (fun _ hk => trivial)⟩; replace HO_9 : Aside0 (Kd.R k139 139 ((((((w15.setCell ⟨gb251, 0, none⟩ (.int .i64 ((rd_T126 l0 x17_2).f0.f0))).setCell ⟨gb251, 1, none⟩ (.int .i64 ((rd_T126 l0 x17_2).f0.f1))).setCell ⟨gb251, 2, none⟩ (.int .i64 ((rd_T126 l0 x17_2).f0.f2))).setCell ⟨gb251, 3, none⟩ (.int .i64 ((rd_T126 l0 x17_2).f1.f0))).setCell ⟨gb251, 4, none⟩ (.int .i64 ((rd_T126 l0 x17_2).f1.f1))).setCell ⟨gb251, 5, none⟩ (.int .i64 ((rd_T126 l0 x17_2).f1.f2))) w.heap.size (fun k_ => k_ ≠ gb249) (.slice (some ad248) t245.length co4) t245) := ⟨by (with_reducible repeat (first | apply Kd.R_alloc | apply Kd.R_drewN | apply Kd.R_drew)); exact Kd.R_mono (rf (rf (rf (rf (rf (rf (Kd.R_types HO_9.out BK251.out (by decide)) (·.2)) (·.2)) (·.2)) (·.2)) (·.2)) (·.2)) (fun _ hk => hk.1)⟩; replace BK249 : Aside0 (((((((w15.setCell ⟨gb251, 0, none⟩ (.int .i64 ((rd_T126 l0 x17_2).f0.f0))).setCell ⟨gb251, 1, none⟩ (.int .i64 ((rd_T126 l0 x17_2).f0.f1))).setCell ⟨gb251, 2, none⟩ (.int .i64 ((rd_T126 l0 x17_2).f0.f2))).setCell ⟨gb251, 3, none⟩ (.int .i64 ((rd_T126 l0 x17_2).f1.f0))).setCell ⟨gb251, 4, none⟩ (.int .i64 ((rd_T126 l0 x17_2).f1.f1))).setCell ⟨gb251, 5, none⟩ (.int .i64 ((rd_T126 l0 x17_2).f1.f2))).heap[gb249]? = some (.cells #[.int .i64 ((rd_T139 t245 x11_1).f0.f0), .int .i64 ((rd_T139 t245 x11_1).f0.f1), .int .i64 ((rd_T139 t245 x11_1).f0.f2), .int .i64 ((rd_T139 t245 x11_1).f1.f0), .int .i64 ((rd_T139 t245 x11_1).f1.f1), .int .i64 ((rd_T139 t245 x11_1).f1.f2), .int .i64 ((rd_T139 t245 x11_1).f2.f0), .int .i64 ((rd_T139 t245 x11_1).f2.f1), .int .i64 ((rd_T139 t245 x11_1).f2.f2)] 139 (0, 0))) := ⟨bq BK249.out⟩; replace BK251 : Aside0 (((((((w15.setCell ⟨gb251, 0, none⟩ (.int .i64 ((rd_T126 l0 x17_2).f0.f0))).setCell ⟨gb251, 1, none⟩ (.int .i64 ((rd_T126 l0 x17_2).f0.f1))).setCell ⟨gb251, 2, none⟩ (.int .i64 ((rd_T126 l0 x17_2).f0.f2))).setCell ⟨gb251, 3, none⟩ (.int .i64 ((rd_T126 l0 x17_2).f1.f0))).setCell ⟨gb251, 4, none⟩ (.int .i64 ((rd_T126 l0 x17_2).f1.f1))).setCell ⟨gb251, 5, none⟩ (.int .i64 ((rd_T126 l0 x17_2).f1.f2))).heap[gb251]? = some (.cells #[.int .i64 ((rd_T126 l0 x17_2).f0.f0), .int .i64 ((rd_T126 l0 x17_2).f0.f1), .int .i64 ((rd_T126 l0 x17_2).f0.f2), .int .i64 ((rd_T126 l0 x17_2).f1.f0), .int .i64 ((rd_T126 l0 x17_2).f1.f1), .int .i64 ((rd_T126 l0 x17_2).f1.f2)] 126 (0, 0))) := ⟨bq BK251.out⟩; replace HB : Aside0 (Below w.heap.size w ((((((w15.setCell ⟨gb251, 0, none⟩ (.int .i64 ((rd_T126 l0 x17_2).f0.f0))).setCell ⟨gb251, 1, none⟩ (.int .i64 ((rd_T126 l0 x17_2).f0.f1))).setCell ⟨gb251, 2, none⟩ (.int .i64 ((rd_T126 l0 x17_2).f0.f2))).setCell ⟨gb251, 3, none⟩ (.int .i64 ((rd_T126 l0 x17_2).f1.f0))).setCell ⟨gb251, 4, none⟩ (.int .i64 ((rd_T126 l0 x17_2).f1.f1))).setCell ⟨gb251, 5, none⟩ (.int .i64 ((rd_T126 l0 x17_2).f1.f2)))) := ⟨bz⟩; generalize ((((((w15.setCell ⟨gb251, 0, none⟩ (.int .i64 ((rd_T126 l0 x17_2).f0.f0))).setCell ⟨gb251, 1, none⟩ (.int .i64 ((rd_T126 l0 x17_2).f0.f1))).setCell ⟨gb251, 2, none⟩ (.int .i64 ((rd_T126 l0 x17_2).f0.f2))).setCell ⟨gb251, 3, none⟩ (.int .i64 ((rd_T126 l0 x17_2).f1.f0))).setCell ⟨gb251, 4, none⟩ (.int .i64 ((rd_T126 l0 x17_2).f1.f1))).setCell ⟨gb251, 5, none⟩ (.int .i64 ((rd_T126 l0 x17_2).f1.f2))) = w18 at HO_3 HO_9 BK249 BK251 HB ⊢; replace HO_3 := m0 (Kd.R_drew HO_3.out); replace HO_9 := m0 (Kd.R_drew HO_9.out); replace BK249 := bd BK249; replace BK251 := bd BK251; replace HB := sd HB; refine start_ (n := 10) (S := fun w' => w'.cell? ⟨gb251, 0, none⟩ = some (.int .i64 ((rd_T126 l0 x17_2).f0.f0)) ∧ w'.cell? ⟨gb251, 1, none⟩ = some (.int .i64 ((rd_T126 l0 x17_2).f0.f1)) ∧ w'.cell? ⟨gb251, 2, none⟩ = some (.int .i64 ((rd_T126 l0 x17_2).f0.f2)) ∧ w'.cell? ⟨gb251, 3, none⟩ = some (.int .i64 ((rd_T126 l0 x17_2).f1.f0)) ∧ w'.cell? ⟨gb251, 4, none⟩ = some (.int .i64 ((rd_T126 l0 x17_2).f1.f1)) ∧ w'.cell? ⟨gb251, 5, none⟩ = some (.int .i64 ((rd_T126 l0 x17_2).f1.f2)) ∧ w'.cell? ⟨gb249, 0, none⟩ = some (.int .i64 ((rd_T139 t245 x11_1).f0.f0)) ∧ w'.cell? ⟨gb249, 1, none⟩ = some (.int .i64 ((rd_T139 t245 x11_1).f0.f1)) ∧ w'.cell? ⟨gb249, 2, none⟩ = some (.int .i64 ((rd_T139 t245 x11_1).f0.f2)) ∧ w'.cell? ⟨gb249, 3, none⟩ = some (.int .i64 ((rd_T139 t245 x11_1).f1.f0)) ∧ w'.cell? ⟨gb249, 4, none⟩ = some (.int .i64 ((rd_T139 t245 x11_1).f1.f1)) ∧ w'.cell? ⟨gb249, 5, none⟩ = some (.int .i64 ((rd_T139 t245 x11_1).f1.f2)) ∧ w'.cell? ⟨gb249, 6, none⟩ = some (.int .i64 ((rd_T139 t245 x11_1).f2.f0)) ∧ w'.cell? ⟨gb249, 7, none⟩ = some (.int .i64 ((rd_T139 t245 x11_1).f2.f1)) ∧ w'.cell? ⟨gb249, 8, none⟩ = some (.int .i64 ((rd_T139 t245 x11_1).f2.f2))) (ds := []) _ (by kernel_rfl) rfl rfl cz (fun hH => ?_); refine with_tabW L_scores.tab9 L_scores.bits9 (fun HT_ HW_ => ?_); generalize w18.drew = w19 at HO_3 HO_9 BK249 BK251 HB hH ⊢; refine pZ 0 (some 21) #[true, false, false, false, false, false, false, false, false, false] HT_ ?_; refine pZ 1 (some 22) #[true, true, false, false, false, false, false, false, false, false] HT_ ?_; refine pZ 4 (some 25) #[true, true, false, false, true, false, false, false, false, false] HT_ ?_; refine takeZ 2 (some 23) #[true, true, true, false, true, false, false, false, false, false] (tw HT_ HW_) hH ?_; refine takeZ 3 (some 24) #[true, true, true, true, true, false, false, false, false, false] (tw HT_ HW_) hH ?_; refine takeZ 5 (some 26) #[true, true, true, true, true, true, false, false, false, false] (tw HT_ HW_) hH ?_; refine oneZ 6 (some 27) #[true, true, true, true, true, true, true, false, false, false] (o1 HT_) fun K hK => ?_; refine gz Try.func86 #[.agg #[.int .i64 ((rd_T139 t245 x11_1).f0.f0), .int .i64 ((rd_T139 t245 x11_1).f0.f1), .int .i64 ((rd_T139 t245 x11_1).f0.f2), .int .i64 ((rd_T139 t245 x11_1).f1.f0), .int .i64 ((rd_T139 t245 x11_1).f1.f1), .int .i64 ((rd_T139 t245 x11_1).f1.f2), .int .i64 ((rd_T139 t245 x11_1).f2.f0), .int .i64 ((rd_T139 t245 x11_1).f2.f1), .int .i64 ((rd_T139 t245 x11_1).f2.f2)], .agg #[.int .i64 ((rd_T126 l0 x17_2).f0.f0), .int .i64 ((rd_T126 l0 x17_2).f0.f1), .int .i64 ((rd_T126 l0 x17_2).f0.f2)]] ?_
                      with_reducible refine (L_rotation_turned.calls ((rd_T139 t245 x11_1).f0.f0) ((rd_T139 t245 x11_1).f0.f1) ((rd_T139 t245 x11_1).f0.f2) ((rd_T139 t245 x11_1).f1.f0) ((rd_T139 t245 x11_1).f1.f1) ((rd_T139 t245 x11_1).f1.f2) ((rd_T139 t245 x11_1).f2.f0) ((rd_T139 t245 x11_1).f2.f1) ((rd_T139 t245 x11_1).f2.f2) ((rd_T126 l0 x17_2).f0.f0) ((rd_T126 l0 x17_2).f0.f1) ((rd_T126 l0 x17_2).f0.f2) t252 t253 t254 _ A13.out).mono ?_
                      rintro e w20 ⟨rfl, hb⟩; refine ⟨_, rfl, ?_⟩; replace HO_3 := rb HO_3 hb; replace HO_9 := rb HO_9 hb; replace BK249 := bb BK249 hb; replace BK251 := bb BK251 hb; replace HB := sb HB hb; (try clear hb); refine hK.out _ _ cz (fun hH => ?_); clear hK K; refine nz 27 ?_; refine oneZ 7 (some 28) #[true, true, true, true, true, true, true, true, false, false] (o1 HT_) fun K hK => ?_; refine gz Try.func130 #[.agg #[.int .i64 ((rd_T126 l0 x17_2).f1.f0), .int .i64 ((rd_T126 l0 x17_2).f1.f1), .int .i64 ((rd_T126 l0 x17_2).f1.f2)], .agg #[.int .i64 t252, .int .i64 t253, .int .i64 t254]] ?_
                      with_reducible refine (L_vector_dot.calls ((rd_T126 l0 x17_2).f1.f0) ((rd_T126 l0 x17_2).f1.f1) ((rd_T126 l0 x17_2).f1.f2) t252 t253 t254 t255 _ A14.out).mono ?_
                      rintro e w21 ⟨rfl, hb⟩; refine ⟨_, rfl, ?_⟩; replace HO_3 := rb HO_3 hb; replace HO_9 := rb HO_9 hb; replace BK249 := bb BK249 hb; replace BK251 := bb BK251 hb; replace HB := sb HB hb; (try clear hb); refine hK.out _ _ cz (fun hH => ?_); clear hK K; refine nz 28 ?_; refine pZ 8 (some 29) #[true, true, true, true, true, true, true, true, true, false] HT_ ?_; refine pZ 9 (some 6) #[true, true, true, true, true, true, true, true, true, true] HT_ ?_; refine done_ (done_of HT_.out (by kernel_rfl)) ?_
                      try go_wp2
                      go_roundg k2
                      case measure => have := HK1.out; have := HK2.out; omega
                      case rel => exact ⟨(wrap64 (x6_2 + t255)), (wrap64 (x17_2 + 1)), rz, rz, H', ⟨by have := HK1.out; have := HK2.out; omega⟩, ⟨br HO_3.out⟩, ⟨br HO_9.out⟩, ⟨bk BK249.out⟩, ⟨bz⟩⟩
                    · rw [if_neg c12] at H; exact absurd H (by simp)
                  · rw [if_neg c11] at H; exact absurd H (by simp)
                · rw [if_neg c10] at H; have c10b0 := decide_eq_false c10; clear c10
                  by_cases c22 : x3_1.length < 17592186044416
                  · rw [if_pos c22] at H; have LMc22 := m0 c22; clear c22; obtain ⟨y256, hy256⟩ : ∃ y_ : List Int, y_ = (x3_1 ++ [x6_2]) := ⟨_, rfl⟩; replace H : (L_scores.l0 k2 l0 y256 t245 (t245.length : Int) (wrap64 (x11_1 + 1))) = some r := by first | (rw [hy256]; with_reducible exact H) | (have H2_ := (Option.bind_some _ _).symm.trans H; rw [hy256]; with_reducible exact H2_) | (have H2_ := (Option.bind_some _ _).symm.trans H; with_reducible exact H2_) | with_reducible exact H | (rw [hy256]; exact H) | exact H
                    have Ny256 := m0 hy256; clear hy256; have H' := m0 H; clear H
                    go_wp2_with (first | ((with_reducible refine gate_builtin (b := .append) (xs := #[.tmp 31, .tmp 33]) rfl ?_); at_builtin; refine Kd.R_append (Kd.int .i64) (w0 := w) w.heap.size rfl (.tmp 31) (.tmp 33) 28 3 (.int .i64 0) 8 rfl Try.underlying28 info3 rfl (by decide) (by omega) u3 x3_1 x6_2 [.int .i64 x6_2] (fun _ => True) (fun _ => False) rfl rfl ?aP (fun _ hk => hk.elim) ?aF ?aO ?aB ?aS ?aL ?_; (case aP => exact rfl); (case aB => exact bz); (case aF => exact (fun _ _ => trivial)); (case aO => exact (br HO_3.out)); (case aS => exact (below_size bz)); (case aL => have := LMc22.out; omega); intro v257 w23 ho hb hg hat; rw [← Ny256.out] at ho; have n0_ := m0 (Kd.R_over' (br HO_9.out) (Kd.R_typed (br HO_3.out)) (by decide) hg); have n1_ := m0 (blk_grown (g := gb249) (o := .cells #[.int .i64 ((rd_T139 t245 x11_1).f0.f0), .int .i64 ((rd_T139 t245 x11_1).f0.f1), .int .i64 ((rd_T139 t245 x11_1).f0.f2), .int .i64 ((rd_T139 t245 x11_1).f1.f0), .int .i64 ((rd_T139 t245 x11_1).f1.f1), .int .i64 ((rd_T139 t245 x11_1).f1.f2), .int .i64 ((rd_T139 t245 x11_1).f2.f0), .int .i64 ((rd_T139 t245 x11_1).f2.f1), .int .i64 ((rd_T139 t245 x11_1).f2.f2)] 139 (0, 0)) (bk BK249.out) hg (Kd.R_ne HO_3.out BK249.out (by decide))); have n2_ := m0 (hb); have n3_ := m0 (ho); clear HO_9; clear BK249; clear HB; clear HO_3; have HO_9 := n0_; have BK249 := n1_; have HB := n2_; have HO258 := n3_; clear n0_ n1_ n2_ n3_; clear ho hb hg hat))
                    go_roundg k2
                    case measure => have := HK1.out; have := HK2.out; omega
                    case rel => exact ⟨(y256), (wrap64 (x11_1 + 1)), rz, H', ⟨by have := HK1.out; have := HK2.out; omega⟩, ⟨br HO258.out⟩, ⟨by (with_reducible repeat (first | apply Kd.R_alloc | apply Kd.R_drewN | apply Kd.R_drew)); exact Kd.R_mono HO_9.out (fun _ hk => trivial)⟩, ⟨bz⟩⟩
                  · rw [if_neg c22] at H; exact absurd H (by simp)
          · rw [if_neg c7] at H; exact absurd H (by simp)
        · rw [if_neg c6] at H; exact absurd H (by simp)
      · rw [if_neg c5] at H; have c5b0 := decide_eq_false c5; clear c5; obtain rfl := Option.some.inj H
        go_wp2
        go_ret
        exact ⟨_, by first | rfl | (simp [errW_none, errW_some] <;> rfl) | (simp [*, errW_none, errW_some] <;> rfl), by (with_reducible repeat (first | apply Kd.R_alloc | apply Kd.R_drewN | apply Kd.R_drew)); exact HO_3.out, by repeat (first | (with_reducible first | exact HB.out | apply below_alloc | apply pw_below_drewN | apply below_drew1) | exact HB.out)⟩
end
section
def slices_Max_int_int.l0 : Nat → List Int → Int → Int → Option (Int)
  | 0, _, _, _ => none
  | k + 1, x0, x3, x4 => if x4 < (x0.length : Int) then (if 0 ≤ x4 then (slices_Max_int_int.l0 k x0 (mx x3 (rd x0 x4)) (wrap64 (x4 + 1))) else (none)) else (some x3)
def slices_Max_int_int.f (k : Nat) (l0 : List Int) : Option (Int) := if (l0.length : Int) < 1 then (none) else (if 0 < (l0.length : Int) then (slices_Max_int_int.l0 k l0 (rd l0 0) 1) else (none))
theorem slices_Max_int_int.mono_l : ∀ k, (∀ y0 y1 y2, LeO (slices_Max_int_int.l0 k y0 y1 y2) (slices_Max_int_int.l0 (k + 1) y0 y1 y2))
  | 0 => fun _ _ _ r h => by simp [slices_Max_int_int.l0] at h
  | k + 1 => by
    have ih0 := slices_Max_int_int.mono_l k
    · intro y0 y1 y2; unfold slices_Max_int_int.l0
      repeat' with_reducible first
        | exact ih0 ..
        | exact LeO.refl ..
        | exact LeO.none ..
        | refine LeO.ite ?_ ?_
        | refine LeO.bind ?_ (fun _ => ?_)
theorem slices_Max_int_int.mono : ∀ a0 k, LeO (slices_Max_int_int.f k a0) (slices_Max_int_int.f (k + 1) a0) := by
  intro a0 k; have ih0 := slices_Max_int_int.mono_l k; unfold slices_Max_int_int.f
  repeat' with_reducible first
    | exact ih0 ..
    | exact LeO.refl ..
    | exact LeO.none ..
    | refine LeO.ite ?_ ?_
    | refine LeO.bind ?_ (fun _ => ?_)
theorem slices_Max_int_int.calls (k : Nat) (A0 : Option Addr) (c0 : Nat) (l0 : List Int) (r : Int) (w : World) (hr0 : Kd.C (Kd.int .i64) w A0 l0.length l0) (hc0 : l0.length ≤ c0) (H : slices_Max_int_int.f k l0 = some r) :
    Calls Try.prog 125 #[.slice A0 l0.length c0] w fun e w' => e = .returned (.int .i64 r) ∧ Below w.heap.size w w' := by
  have HR0 := m0 hr0; have HC0 := m0 hc0; clear hr0 hc0; have HB := m0 (Below.refl w.heap.size w); unfold slices_Max_int_int.f at H
  by_cases c2 : (l0.length : Int) < 1
  · rw [if_pos c2] at H; exact absurd H (by simp)
  · rw [if_neg c2] at H; have c2b0 := decide_eq_false c2; have c2b1 : decide (l0.length < 1) = false := decide_eq_false (by omega); clear c2
    by_cases c3 : 0 < (l0.length : Int)
    · rw [if_pos c3] at H; have c3b0 := decide_eq_true c3; have c3b1 : decide (0 < l0.length) = true := decide_eq_true (by omega); clear c3; have H' := m0 H; clear H; have p259 : 0 ≤ (0 : Int) := (by omega); have q259 : 0 < (l0.length : Int) := od; obtain ⟨ad259, e259, hx259_0⟩ := Kd.at_int HR0.out 0 p259 q259
      cases e259
      have qi259 : (0 < l0.length) = True := eq_true (by omega); (try rw [show ((0 : Int)).toNat = 0 from rfl] at hx259_0); (try rw [Addr.add_zero'] at hx259_0); replace p259 := eq_true p259; replace q259 := eq_true q259; go_enter Try.func125, Try.ntmps125
      go_wp2
      go_loopg [3, 4] k (fun kq v3 v4 w' => ∃ (x3_1 : Int) (x4_1 : Int), v3 = .int .i64 x3_1 ∧ v4 = .int .i64 x4_1 ∧ Aside0 (slices_Max_int_int.l0 kq l0 x3_1 x4_1 = some r) ∧ Aside0 (kq ≤ k) ∧ Aside0 (Below w.heap.size w w'))
      case atStart => exact ⟨(rd l0 0), (1), rz, rz, H', ⟨Nat.le_refl _⟩, ⟨bz⟩⟩
      case round =>
        clear H'
        try clear hx2
        try clear qi2
        try clear hx259_0
        obtain ⟨x3_1, x4_1, rfl, rfl, HA, HK1, HB⟩ := hrel
        cases gk with
        | zero => exact absurd HA.out (by simp [slices_Max_int_int.l0])
        | succ k1 =>
          have H := HA.out; clear HA; simp only [slices_Max_int_int.l0] at H
          by_cases c4 : x4_1 < (l0.length : Int)
          · rw [if_pos c4] at H; have c4b0 := decide_eq_true c4; clear c4
            by_cases c5 : 0 ≤ x4_1
            · rw [if_pos c5] at H; have c5b0 := decide_eq_true c5; clear c5; obtain ⟨ji6, hji6⟩ : ∃ j_ : Int, (mx x3_1 (rd l0 x4_1)) = j_ := ⟨_, rfl⟩; replace H : (slices_Max_int_int.l0 k1 l0 ji6 (wrap64 (x4_1 + 1))) = some r := by first | (rw [hji6] at H; exact H) | (simp only [hji6] at H ⊢; exact H)
              have hji6_ : (if x3_1 < (rd l0 x4_1) then (rd l0 x4_1) else x3_1) = ji6 := hji6; have H' := m0 H; clear H; have p260 : 0 ≤ (x4_1 : Int) := od; have q260 : x4_1 < (l0.length : Int) := od; obtain ⟨ad260, e260, hx260_0⟩ := Kd.at_int HR0.out x4_1 p260 q260; obtain rfl : ad259 = ad260 := (by injection e260); replace hx260_0 := hc HB hx260_0; replace p260 := eq_true p260; replace q260 := eq_true q260
              go_wp2
              go_roundg k1
              case measure => have := HK1.out; omega
              case rel => exact ⟨(ji6), (wrap64 (x4_1 + 1)), (by first | rfl | (simp; done) | (simp only [← hji6] <;> (first | rfl | simp)) | (simp [*]; done)), rz, H', ⟨by have := HK1.out; omega⟩, ⟨bz⟩⟩
            · rw [if_neg c5] at H; exact absurd H (by simp)
          · rw [if_neg c4] at H; have c4b0 := decide_eq_false c4; clear c4; obtain rfl := Option.some.inj H
            go_wp2
            go_ret
            exact ez
    · rw [if_neg c3] at H; exact absurd H (by simp)
end
section
def slices_Index_int_int.l0 : Nat → List Int → Int → Int → Int → Option (Int)
 | 0, _, _, _, _ => none
 | k + 1, x0, x1, x7, x8 => if x8 < x7 then (if 0 ≤ x8 then (if x8 < (x0.length : Int) then (if x1 = (rd x0 x8) then (some x8) else (slices_Index_int_int.l0 k x0 x1 x7 (wrap64 (x8 + 1)))) else (none)) else (none)) else (some (-1))
def slices_Index_int_int.f (k : Nat) (l0 : List Int) (a1 : Int) : Option (Int) := slices_Index_int_int.l0 k l0 a1 (l0.length : Int) 0
theorem slices_Index_int_int.mono_l : ∀ k, (∀ y0 y1 y2 y3, LeO (slices_Index_int_int.l0 k y0 y1 y2 y3) (slices_Index_int_int.l0 (k + 1) y0 y1 y2 y3))
 | 0 => fun _ _ _ _ r h => by simp [slices_Index_int_int.l0] at h
 | k + 1 => by
  have ih0 := slices_Index_int_int.mono_l k
  ·intro y0 y1 y2 y3; unfold slices_Index_int_int.l0
   repeat' with_reducible first
    | exact ih0 ..
    | exact LeO.refl ..
    | exact LeO.none ..
    | refine LeO.ite ?_ ?_
    | refine LeO.bind ?_ (fun _ => ?_)
theorem slices_Index_int_int.mono : ∀ a0 a1 k, LeO (slices_Index_int_int.f k a0 a1) (slices_Index_int_int.f (k + 1) a0 a1) := by
 intro a0 a1 k; have ih0 := slices_Index_int_int.mono_l k; unfold slices_Index_int_int.f
 repeat' with_reducible first
  | exact ih0 ..
  | exact LeO.refl ..
  | exact LeO.none ..
  | refine LeO.ite ?_ ?_
  | refine LeO.bind ?_ (fun _ => ?_)
theorem slices_Index_int_int.calls (k : Nat) (A0 : Option Addr) (c0 : Nat) (l0 : List Int) (a1 : Int) (r : Int) (w : World) (hr0 : Kd.C (Kd.int .i64) w A0 l0.length l0) (hc0 : l0.length ≤ c0) (H : slices_Index_int_int.f k l0 a1 = some r) :
  Calls Try.prog 126 #[.slice A0 l0.length c0, .int .i64 a1] w fun e w' => e = .returned (.int .i64 r) ∧ Drawn0 w w' := by
 have HR0 := m0 hr0; have HC0 := m0 hc0; clear hr0 hc0; unfold slices_Index_int_int.f at H; have H' := m0 H; clear H; go_enter Try.func126, Try.ntmps126
 go_wp2
 go_loopg [8] k (fun kq v8 w' => ∃ (x8_1 : Int), v8 = .int .i64 x8_1 ∧ Aside0 (slices_Index_int_int.l0 kq l0 a1 (l0.length : Int) x8_1 = some r) ∧ Aside0 (kq ≤ k) ∧ Drawn0 w w')
 case atStart => exact ⟨(0), rz, H', ⟨Nat.le_refl _⟩, by repeat (first | exact Drawn0.refl _ | apply Drawn0.step)⟩
 case round =>
  clear H'; obtain ⟨x8_1, rfl, HA, HK1, ⟨m1, rfl⟩⟩ := hrel
  cases gk with
  | zero => exact absurd HA.out (by simp [slices_Index_int_int.l0])
  | succ k1 =>
   have H := HA.out; clear HA; simp only [slices_Index_int_int.l0] at H
   by_cases c3 : x8_1 < (l0.length : Int)
   ·rw [if_pos c3] at H; have c3b0 := decide_eq_true c3; clear c3
    by_cases c4 : 0 ≤ x8_1
    ·rw [if_pos c4] at H; have c4b0 := decide_eq_true c4; clear c4
     by_cases c5 : x8_1 < (l0.length : Int)
     ·rw [if_pos c5] at H; have c5b0 := decide_eq_true c5; clear c5
      by_cases c6 : a1 = (rd l0 x8_1)
      ·rw [if_pos c6] at H; have c6b0 := beq_iff_eq.mpr c6; have c6b1 := bne_eq_false_iff_eq.mpr c6; clear c6; obtain rfl := Option.some.inj H; have p261 : 0 ≤ (x8_1 : Int) := od; have q261 : x8_1 < (l0.length : Int) := od; obtain ⟨ad261, e261, hx261_0⟩ := Kd.at_int HR0.out x8_1 p261 q261
       cases e261
       replace p261 := eq_true p261; replace q261 := eq_true q261
       go_wp2
       go_ret
       exact ⟨rz, by repeat (first | exact Drawn0.refl _ | apply Drawn0.step)⟩
      ·rw [if_neg c6] at H; have c6b0 := beq_eq_false_iff_ne.mpr c6; have c6b1 := bne_iff_ne.mpr c6; have H' := m0 H; clear H; have p261 : 0 ≤ (x8_1 : Int) := od; have q261 : x8_1 < (l0.length : Int) := od; obtain ⟨ad261, e261, hx261_0⟩ := Kd.at_int HR0.out x8_1 p261 q261
       cases e261
       replace p261 := eq_true p261; replace q261 := eq_true q261
       go_wp2
       go_roundg k1
       case measure => have := HK1.out; omega
       case rel => exact ⟨(wrap64 (x8_1 + 1)), rz, H', ⟨by have := HK1.out; omega⟩, by repeat (first | exact Drawn0.refl _ | apply Drawn0.step)⟩
     ·rw [if_neg c5] at H; exact absurd H (by simp)
    ·rw [if_neg c4] at H; exact absurd H (by simp)
   ·rw [if_neg c3] at H; have c3b0 := decide_eq_false c3; clear c3; obtain rfl := Option.some.inj H
    go_wp2
    go_ret
    exact ⟨rz, by repeat (first | exact Drawn0.refl _ | apply Drawn0.step)⟩
end
end Go.Proofs.Ytibhfahbabgbaaa.A
