/- Walks of the program's functions (printed, made shorter), each with what it computes. -/
import Derived.Test.YtjnkphmcndaijaaDoorHar04
import Derived.Test.YtjnkphmcndaijaaDoorHar06
import Derived.Test.YtjnkphmcndaijaaDoorHar09
import Derived.Test.YtjnkphmcndaijaaDoorHar03
import Derived.Test.YtjnkphmcndaijaaDoorHar12
namespace Go.Proofs.YtjnkphmcndaijaaDoor.A
set_option maxHeartbeats 8000000
set_option maxRecDepth 100000
open Go.RowKit Go.Proofs.YtjnkphmcndaijaaDoorW.PrintWords Go.Proofs.YtjnkphmcndaijaaDoorW.PrintLast Go.Proofs.YtjnkphmcndaijaaDoorW.PrintMore
attribute [local go_sem] max2_int min2_int max_two min_two max_three min_three max_four min_four
set_option linter.unusedVariables false
set_option linter.unusedSimpArgs false
section
mutual
def line_HardIn.l0 : Nat → List (List Int) → Int → List (List Int) → Int → Int → Int → Int → Int → Int → Option (List Int × Int)
  | 0, _, _, _, _, _, _, _, _, _ => none
  | k + 1, x0, x6, x25, x26, x27, x1340000, x1340001, x1340002, x1340003 => if x27 < x26 then (if 0 ≤ x27 then (if x27 < (x25.length : Int) then ((line_open.f (rd_L1 x25 x27)).bind fun bt1342 => ((line_first.f k (([x6, bt1342.2] : List Int))).bind fun t1349 => (line_HardIn.l0 k x0 t1349 x25 x26 (wrap64 (x27 + 1)) x1340000 x1340001 x1340002 x1340003))) else (none)) else (none)) else ((line_within.f x1340000 0 15).bind fun t1350 => (if t1350 = true then ((line_within.f x1340001 0 16).bind fun t1351 => (if t1351 = true then ((line_within.f x1340002 0 160000).bind fun t1352 => (if t1352 = true then ((line_within.f x1340003 0 100).bind fun t1353 => (line_HardIn.j1 k x0 x6 t1353 x1340000 x1340001 x1340002 x1340003)) else (line_HardIn.j1 k x0 x6 false x1340000 x1340001 x1340002 x1340003))) else (line_HardIn.j1 k x0 x6 false x1340000 x1340001 x1340002 x1340003))) else (line_HardIn.j1 k x0 x6 false x1340000 x1340001 x1340002 x1340003)))
def line_HardIn.j1 : Nat → List (List Int) → Int → Bool → Int → Int → Int → Int → Option (List Int × Int)
  | 0, _, _, _, _, _, _, _ => none
  | k + 1, x0, x6, x11, x1340000, x1340001, x1340002, x1340003 => (line_unless.f x11 2).bind fun t1354 => ((line_first.f k (([x6, t1354] : List Int))).bind fun t1358 => (if t1358 = 0 then (line_HardIn.l1 k ([] : List Int) x0 (x0.length : Int) 0 x1340000 x1340001 x1340002 x1340003) else (some (([] : List Int), t1358))))
def line_HardIn.l1 : Nat → List Int → List (List Int) → Int → Int → Int → Int → Int → Int → Option (List Int × Int)
  | 0, _, _, _, _, _, _, _, _ => none
  | k + 1, x12, x67, x68, x69, x1340000, x1340001, x1340002, x1340003 => if x69 < x68 then (if 0 ≤ x69 then (if x69 < (x67.length : Int) then (if 0 ≤ (mn (mx 0 (wrap64 (x1340000 - x1340001))) (mn ((rd_L1 x67 x69).length : Int) (wrap64 ((wrap64 (x1340000 + x1340001)) + 1)))) then (if (mn (mx 0 (wrap64 (x1340000 - x1340001))) (mn ((rd_L1 x67 x69).length : Int) (wrap64 ((wrap64 (x1340000 + x1340001)) + 1)))) ≤ (mn ((rd_L1 x67 x69).length : Int) (wrap64 ((wrap64 (x1340000 + x1340001)) + 1))) then (if (mn ((rd_L1 x67 x69).length : Int) (wrap64 ((wrap64 (x1340000 + x1340001)) + 1))) ≤ ((rd_L1 x67 x69).length : Int) then ((line_sum.f k (((rd_L1 x67 x69).take ((mn ((rd_L1 x67 x69).length : Int) (wrap64 ((wrap64 (x1340000 + x1340001)) + 1))) : Int).toNat).drop ((mn (mx 0 (wrap64 (x1340000 - x1340001))) (mn ((rd_L1 x67 x69).length : Int) (wrap64 ((wrap64 (x1340000 + x1340001)) + 1)))) : Int).toNat)).bind fun t1361 => (if t1361 ≥ x1340002 then ((line_sum.f k (rd_L1 x67 x69)).bind fun t1362 => (if (wrap64 (100 * t1361)) ≥ (wrap64 (x1340003 * t1362)) then (if x12.length < 17592186044416 then (line_HardIn.l1 k (x12 ++ [x69]) x67 x68 (wrap64 (x69 + 1)) x1340000 x1340001 x1340002 x1340003) else (none)) else (line_HardIn.l1 k x12 x67 x68 (wrap64 (x69 + 1)) x1340000 x1340001 x1340002 x1340003))) else (line_HardIn.l1 k x12 x67 x68 (wrap64 (x69 + 1)) x1340000 x1340001 x1340002 x1340003))) else (none)) else (none)) else (none)) else (none)) else (none)) else (some (x12, 0))
end
def line_HardIn.f (k : Nat) (l0 : List (List Int)) (a1_0 : Int) (a1_1 : Int) (a1_2 : Int) (a1_3 : Int) : Option (List Int × Int) := (line_unless.f (decide ((l0.length : Int) ≤ 20)) 8).bind fun t1340 => (if t1340 = 0 then (line_HardIn.l0 k l0 t1340 l0 (l0.length : Int) 0 a1_0 a1_1 a1_2 a1_3) else (some (([] : List Int), t1340)))
theorem line_HardIn.mono_l : ∀ k, (∀ y0 y1 y2 y3 y4 y5 y6 y7 y8, LeO (line_HardIn.l0 k y0 y1 y2 y3 y4 y5 y6 y7 y8) (line_HardIn.l0 (k + 1) y0 y1 y2 y3 y4 y5 y6 y7 y8)) ∧ (∀ y0 y1 y2 y3 y4 y5 y6, LeO (line_HardIn.j1 k y0 y1 y2 y3 y4 y5 y6) (line_HardIn.j1 (k + 1) y0 y1 y2 y3 y4 y5 y6)) ∧ (∀ y0 y1 y2 y3 y4 y5 y6 y7, LeO (line_HardIn.l1 k y0 y1 y2 y3 y4 y5 y6 y7) (line_HardIn.l1 (k + 1) y0 y1 y2 y3 y4 y5 y6 y7))
  | 0 => ⟨fun _ _ _ _ _ _ _ _ _ r h => by simp [line_HardIn.l0] at h, fun _ _ _ _ _ _ _ r h => by simp [line_HardIn.j1] at h, fun _ _ _ _ _ _ _ _ r h => by simp [line_HardIn.l1] at h⟩
  | k + 1 => by
    obtain ⟨ih0, ih1, ih2⟩ := line_HardIn.mono_l k
    refine ⟨?_, ?_, ?_⟩
    · intro y0 y1 y2 y3 y4 y5 y6 y7 y8
      unfold line_HardIn.l0
      repeat' first
      | (with_reducible exact ih0 _ _ _ _ _ _ _ _ _)
      | (with_reducible exact ih1 _ _ _ _ _ _ _)
      | (with_reducible exact ih2 _ _ _ _ _ _ _ _)
      | (with_reducible exact line_first.mono _ _)
      | (with_reducible exact line_sum.mono _ _)
      | (with_reducible exact LeO.refl _)
      | (with_reducible exact LeO.none _)
      | (with_reducible refine LeO.ite ?_ ?_)
      | (with_reducible refine LeO.bind ?_ (fun _ => ?_))
      | exact ih0 _ _ _ _ _ _ _ _ _
      | exact ih1 _ _ _ _ _ _ _
      | exact ih2 _ _ _ _ _ _ _ _
      | exact line_first.mono _ _
      | exact line_sum.mono _ _
      | exact LeO.none _
      | refine LeO.ite ?_ ?_
      | refine LeO.bind ?_ (fun _ => ?_)
    · intro y0 y1 y2 y3 y4 y5 y6
      unfold line_HardIn.j1
      repeat' first
      | (with_reducible exact ih0 _ _ _ _ _ _ _ _ _)
      | (with_reducible exact ih1 _ _ _ _ _ _ _)
      | (with_reducible exact ih2 _ _ _ _ _ _ _ _)
      | (with_reducible exact line_first.mono _ _)
      | (with_reducible exact line_sum.mono _ _)
      | (with_reducible exact LeO.refl _)
      | (with_reducible exact LeO.none _)
      | (with_reducible refine LeO.ite ?_ ?_)
      | (with_reducible refine LeO.bind ?_ (fun _ => ?_))
      | exact ih0 _ _ _ _ _ _ _ _ _
      | exact ih1 _ _ _ _ _ _ _
      | exact ih2 _ _ _ _ _ _ _ _
      | exact line_first.mono _ _
      | exact line_sum.mono _ _
      | exact LeO.none _
      | refine LeO.ite ?_ ?_
      | refine LeO.bind ?_ (fun _ => ?_)
    · intro y0 y1 y2 y3 y4 y5 y6 y7
      unfold line_HardIn.l1
      repeat' first
      | (with_reducible exact ih0 _ _ _ _ _ _ _ _ _)
      | (with_reducible exact ih1 _ _ _ _ _ _ _)
      | (with_reducible exact ih2 _ _ _ _ _ _ _ _)
      | (with_reducible exact line_first.mono _ _)
      | (with_reducible exact line_sum.mono _ _)
      | (with_reducible exact LeO.refl _)
      | (with_reducible exact LeO.none _)
      | (with_reducible refine LeO.ite ?_ ?_)
      | (with_reducible refine LeO.bind ?_ (fun _ => ?_))
      | exact ih0 _ _ _ _ _ _ _ _ _
      | exact ih1 _ _ _ _ _ _ _
      | exact ih2 _ _ _ _ _ _ _ _
      | exact line_first.mono _ _
      | exact line_sum.mono _ _
      | exact LeO.none _
      | refine LeO.ite ?_ ?_
      | refine LeO.bind ?_ (fun _ => ?_)
theorem line_HardIn.mono : ∀ a0 a1 a2 a3 a4 k, LeO (line_HardIn.f k a0 a1 a2 a3 a4) (line_HardIn.f (k + 1) a0 a1 a2 a3 a4) := by
  intro a0 a1 a2 a3 a4 k
  obtain ⟨ih0, ih1, ih2⟩ := line_HardIn.mono_l k
  unfold line_HardIn.f
  repeat' first
      | (with_reducible exact ih0 _ _ _ _ _ _ _ _ _)
      | (with_reducible exact ih1 _ _ _ _ _ _ _)
      | (with_reducible exact ih2 _ _ _ _ _ _ _ _)
      | (with_reducible exact line_first.mono _ _)
      | (with_reducible exact line_sum.mono _ _)
      | (with_reducible exact LeO.refl _)
      | (with_reducible exact LeO.none _)
      | (with_reducible refine LeO.ite ?_ ?_)
      | (with_reducible refine LeO.bind ?_ (fun _ => ?_))
      | exact ih0 _ _ _ _ _ _ _ _ _
      | exact ih1 _ _ _ _ _ _ _
      | exact ih2 _ _ _ _ _ _ _ _
      | exact line_first.mono _ _
      | exact line_sum.mono _ _
      | exact LeO.none _
      | refine LeO.ite ?_ ?_
      | refine LeO.bind ?_ (fun _ => ?_)
theorem line_HardIn.calls (k : Nat) (A0 : Option Addr) (c0 : Nat) (l0 : List (List Int)) (a1_0 : Int) (a1_1 : Int) (a1_2 : Int) (a1_3 : Int) (r1 : List Int) (r2 : Int) (w : World) (hr0 : Kd.C (Kd.slice 3 (Kd.int .i64)) w A0 l0.length l0) (hc0 : l0.length ≤ c0) (h : line_HardIn.f k l0 a1_0 a1_1 a1_2 a1_3 = some (r1, r2)) :
    Calls Tryd.prog 71 #[.slice A0 l0.length c0, .agg #[.int .i64 a1_0, .int .i64 a1_1, .int .i64 a1_2, .int .i64 a1_3]] w fun e w' => ∃ v0_ : Value, e = .returned (.tuple #[v0_, .int .i64 r2]) ∧ Kd.R (Kd.int .i64) 3 w' w.heap.size (fun _ => True) v0_ r1 ∧ Below w.heap.size w w' := by
  have hu94 := Tryd.underlying94
  have HR0 := m0 hr0
  have HC0 := m0 hc0
  clear hr0 hc0
  have HB := m0 (Below.refl w.heap.size w)
  have H : ((line_unless.f (decide ((l0.length : Int) ≤ 20)) 8).bind fun t1340 => (if t1340 = 0 then (line_HardIn.l0 k l0 t1340 l0 (l0.length : Int) 0 a1_0 a1_1 a1_2 a1_3) else (some (([] : List Int), t1340)))) = some (r1, r2) := h
  clear h
  replace H := ob H
  obtain ⟨t1340, A30, H⟩ := H
  (try dsimp only at H)
  have A3 := m0 A30
  clear A30
  by_cases c4 : t1340 = 0
  · rw [if_pos c4] at H
    have c4b0 := beq_iff_eq.mpr c4
    have c4b1 := bne_eq_false_iff_eq.mpr c4
    clear c4
    have H' := m0 H
    clear H
    go_enter Tryd.func71, Tryd.ntmps71
    go_wp2_with (first | ((with_reducible refine gate_dst (N := 3) rfl ?_); refine be 3 94 #[.int .i64 a1_0, .int .i64 a1_1, .int .i64 a1_2, .int .i64 a1_3] ?_; intro gb1339 hg w5 hbox hb; have BK1339 := m0 hbox; have GW1339 := m0 (bg (n := w.heap.size) hg); have GE1339 := m0 (bg (n := w.heap.size) hg); replace HB := sb HB hb; clear hb hbox hg) | (go_at_call 93; (with_reducible refine (line_unless.calls (decide ((l0.length : Int) ≤ 20)) 8 t1340 _ A3.out).mono ?_); rintro e w' ⟨rfl, ⟨nd, rfl⟩⟩; (try first | exact ⟨rfl, _, World.drewN_drewN _ _ _⟩ | exact ⟨rfl, _, Eq.trans (World.drewN_drewN _ _ _) (congrArg (World.drewN _) (Nat.add_assoc _ _ _))⟩)))
    repeat (go_quiet (first | ((with_reducible refine gate_dst (N := 3) rfl ?_); refine be 3 94 #[.int .i64 a1_0, .int .i64 a1_1, .int .i64 a1_2, .int .i64 a1_3] ?_; intro gb1339 hg w5 hbox hb; have BK1339 := m0 hbox; have GW1339 := m0 (bg (n := w.heap.size) hg); have GE1339 := m0 (bg (n := w.heap.size) hg); replace HB := sb HB hb; clear hb hbox hg) | (go_at_call 93; (with_reducible refine (line_unless.calls (decide ((l0.length : Int) ≤ 20)) 8 t1340 _ A3.out).mono ?_); rintro e w' ⟨rfl, ⟨nd, rfl⟩⟩; (try first | exact ⟨rfl, _, World.drewN_drewN _ _ _⟩ | exact ⟨rfl, _, Eq.trans (World.drewN_drewN _ _ _) (congrArg (World.drewN _) (Nat.add_assoc _ _ _))⟩))); try go_wp2_with (first | ((with_reducible refine gate_dst (N := 3) rfl ?_); refine be 3 94 #[.int .i64 a1_0, .int .i64 a1_1, .int .i64 a1_2, .int .i64 a1_3] ?_; intro gb1339 hg w5 hbox hb; have BK1339 := m0 hbox; have GW1339 := m0 (bg (n := w.heap.size) hg); have GE1339 := m0 (bg (n := w.heap.size) hg); replace HB := sb HB hb; clear hb hbox hg) | (go_at_call 93; (with_reducible refine (line_unless.calls (decide ((l0.length : Int) ≤ 20)) 8 t1340 _ A3.out).mono ?_); rintro e w' ⟨rfl, ⟨nd, rfl⟩⟩; (try first | exact ⟨rfl, _, World.drewN_drewN _ _ _⟩ | exact ⟨rfl, _, Eq.trans (World.drewN_drewN _ _ _) (congrArg (World.drewN _) (Nat.add_assoc _ _ _))⟩))))
    go_loopg [6, 27] k (fun kq v6 v27 w' => ∃ (x6_1 : Int) (x27_1 : Int), v6 = .int .i64 x6_1 ∧ v27 = .int .i64 x27_1 ∧ Aside0 (line_HardIn.l0 kq l0 x6_1 l0 (l0.length : Int) x27_1 a1_0 a1_1 a1_2 a1_3 = some (r1, r2)) ∧ Aside0 (kq ≤ k) ∧ Aside0 (w'.heap[gb1339]? = some (.cells #[.int .i64 a1_0, .int .i64 a1_1, .int .i64 a1_2, .int .i64 a1_3] 94 (0, 0))) ∧ Aside0 (Below w.heap.size w w'))
    case atStart => exact ⟨(t1340), (0), (by first | rfl | (simp; done) | (simp [*]; done)), (by first | rfl | (simp; done) | (simp [*]; done)), H', ⟨Nat.le_refl _⟩, ⟨bk BK1339.out⟩, ⟨bz⟩⟩
    case round =>
      clear H'
      try clear p2
      try clear c4
      try clear c4b0
      try clear c4b1
      obtain ⟨x6_1, x27_1, rfl, rfl, HA, HK1, BK1339, HB⟩ := hrel
      cases gk with
      | zero => exact absurd HA.out (by simp [line_HardIn.l0])
      | succ k1 =>
        have H := HA.out
        clear HA
        simp only [line_HardIn.l0] at H
        by_cases c6 : x27_1 < (l0.length : Int)
        · rw [if_pos c6] at H
          have c6b0 := decide_eq_true c6
          clear c6
          by_cases c7 : 0 ≤ x27_1
          · rw [if_pos c7] at H
            have c7b0 := decide_eq_true c7
            clear c7
            by_cases c8 : x27_1 < (l0.length : Int)
            · rw [if_pos c8] at H
              have c8b0 := decide_eq_true c8
              clear c8
              replace H := ob H
              obtain ⟨⟨t1342, t1345⟩, A90, H⟩ := H
              (try dsimp only at H)
              have A9 := m0 A90
              clear A90
              obtain ⟨y1346, hy1346⟩ : ∃ y_ : List Int, y_ = (([x6_1, t1345] : List Int)) := ⟨_, rfl⟩
              replace H : ((line_first.f k1 y1346).bind fun t1349 => (line_HardIn.l0 k1 l0 t1349 l0 (l0.length : Int) (wrap64 (x27_1 + 1)) a1_0 a1_1 a1_2 a1_3)) = some (r1, r2) := by first | (rw [hy1346]; with_reducible exact H) | (have H2_ := (Option.bind_some _ _).symm.trans H; rw [hy1346]; with_reducible exact H2_) | (have H2_ := (Option.bind_some _ _).symm.trans H; with_reducible exact H2_) | with_reducible exact H | (rw [hy1346]; exact H) | exact H
              have Ny1346 := m0 hy1346
              clear hy1346
              replace H := ob H
              obtain ⟨t1349, A100, H⟩ := H
              (try dsimp only at H)
              have A10 := m0 A100
              clear A100
              have H' := m0 H
              clear H
              have p1341 : 0 ≤ (x27_1 : Int) := of_decide_eq_true (by first | (with_reducible assumption) | assumption)
              have q1341 : x27_1 < (l0.length : Int) := of_decide_eq_true (by first | (with_reducible assumption) | assumption)
              obtain ⟨ad1341, A1341_0, c1341_0, e1341, hx1341_0, hl1341_0, hi1341_0⟩ := at_L1 HR0.out x27_1 p1341 q1341
              cases e1341
              replace hx1341_0 := (HB.out.cell (World.block_lt_of_cell? w _ hx1341_0)).trans hx1341_0
              have HR1341_0 := m0 hi1341_0
              have HC1341_0 := m0 hl1341_0
              clear hi1341_0 hl1341_0
              replace p1341 := eq_true p1341
              replace q1341 := eq_true q1341
              go_wp2_with (first | (go_at_call 102; (with_reducible refine (line_open.calls (fun k_ => k_ < w.heap.size) _ _ (rd_L1 l0 x27_1) t1342 t1345 _ ?side1 A9.out).mono ?_); (case side1 => exact Kd.V_mk HC1341_0.out (Kd.F_below (Kd.C_F (Kd.heap_int .i64) HR1341_0.out) bz)); rintro e w11 ⟨v1343, rfl, ho0, hb⟩; have HO1344 := m0 (Kd.V_lower (Kd.V_mono (ok' := fun k_ => k_ ≠ gb1339) ho0 (fun k_ hk_ => Or.elim hk_ (fun hs_ => fun e_ => Nat.not_le.2 hs_ (by rw [e_]; exact GW1339.out)) (fun hn_ => (Kd.freshB (g := gb1339) (o := .cells #[.int .i64 a1_0, .int .i64 a1_1, .int .i64 a1_2, .int .i64 a1_3] 94 (0, 0)) (bk BK1339.out) k_ hn_)))) (below_size bz)); replace BK1339 := bb BK1339 hb; replace HB := sb HB hb; (try clear hb); (try clear ho0)) | ((with_reducible refine gate_dst (N := 38) rfl ?_); refine Kd.R_lit (Kd.int .i64) _ 31 ?hg (N := 38) ?hd (xs := ([x6_1, t1345] : List Int)) (inner := [.int .i64 x6_1, .int .i64 t1345]) (ok := fun _ => True) (okp := fun _ => True) ?hr ?hp (fun _ hk => hk) trivial (Below.refl _ _) (Nat.le_refl _) (by simp) ?_; (case hd => rfl); (case hg => rfl); (case hr => first | (go_simp; done) | (go_simp; rfl)); (case hp => exact (Reps.one (show Kd.M (Kd.int .i64) _ _ _ x6_1 [.int .i64 x6_1] from rfl) (Reps.one (show Kd.M (Kd.int .i64) _ _ _ t1345 [.int .i64 t1345] from rfl) (Reps.none _ _)))); intro v1347 w12 ho13 hb hg_ hnew_; clear hg_ hnew_; (first | rw [← Ny1346.out] at ho13 | (simp only [Int.reduceToNat] at ho13; rw [← Ny1346.out] at ho13)); replace HO1344 := m0 (Kd.V_elder' (by (with_reducible repeat (first | apply Kd.V_alloc | apply Kd.V_drewN | apply Kd.V_drew)); exact HO1344.out) (Kd.R_base ho13) hb); have HO1348 := m0 (Kd.R_lower ho13 (below_size bz)); replace BK1339 := bb BK1339 hb; replace HB := sb HB hb; clear hb ho13; obtain ⟨Ao14, co14, eo14⟩ := Kd.R_slice HO1348.out; subst eo14) | (go_at_call 91; (with_reducible refine (line_first.calls k1 _ _ y1346 t1349 _ ?side1 ?side2 A10.out).mono ?_); (case side1 => exact bc (Kd.R_reads' HO1348.out).2.2); (case side2 => exact (Kd.R_reads' HO1348.out).2.1); rintro e w' ⟨rfl, ⟨nd, rfl⟩⟩; (try first | exact ⟨rfl, _, World.drewN_drewN _ _ _⟩ | exact ⟨rfl, _, Eq.trans (World.drewN_drewN _ _ _) (congrArg (World.drewN _) (Nat.add_assoc _ _ _))⟩)))
              repeat (go_quiet (first | (go_at_call 102; (with_reducible refine (line_open.calls (fun k_ => k_ < w.heap.size) _ _ (rd_L1 l0 x27_1) t1342 t1345 _ ?side1 A9.out).mono ?_); (case side1 => exact Kd.V_mk HC1341_0.out (Kd.F_below (Kd.C_F (Kd.heap_int .i64) HR1341_0.out) bz)); rintro e w11 ⟨v1343, rfl, ho0, hb⟩; have HO1344 := m0 (Kd.V_lower (Kd.V_mono (ok' := fun k_ => k_ ≠ gb1339) ho0 (fun k_ hk_ => Or.elim hk_ (fun hs_ => fun e_ => Nat.not_le.2 hs_ (by rw [e_]; exact GW1339.out)) (fun hn_ => (Kd.freshB (g := gb1339) (o := .cells #[.int .i64 a1_0, .int .i64 a1_1, .int .i64 a1_2, .int .i64 a1_3] 94 (0, 0)) (bk BK1339.out) k_ hn_)))) (below_size bz)); replace BK1339 := bb BK1339 hb; replace HB := sb HB hb; (try clear hb); (try clear ho0)) | ((with_reducible refine gate_dst (N := 38) rfl ?_); refine Kd.R_lit (Kd.int .i64) _ 31 ?hg (N := 38) ?hd (xs := ([x6_1, t1345] : List Int)) (inner := [.int .i64 x6_1, .int .i64 t1345]) (ok := fun _ => True) (okp := fun _ => True) ?hr ?hp (fun _ hk => hk) trivial (Below.refl _ _) (Nat.le_refl _) (by simp) ?_; (case hd => rfl); (case hg => rfl); (case hr => first | (go_simp; done) | (go_simp; rfl)); (case hp => exact (Reps.one (show Kd.M (Kd.int .i64) _ _ _ x6_1 [.int .i64 x6_1] from rfl) (Reps.one (show Kd.M (Kd.int .i64) _ _ _ t1345 [.int .i64 t1345] from rfl) (Reps.none _ _)))); intro v1347 w12 ho13 hb hg_ hnew_; clear hg_ hnew_; (first | rw [← Ny1346.out] at ho13 | (simp only [Int.reduceToNat] at ho13; rw [← Ny1346.out] at ho13)); replace HO1344 := m0 (Kd.V_elder' (by (with_reducible repeat (first | apply Kd.V_alloc | apply Kd.V_drewN | apply Kd.V_drew)); exact HO1344.out) (Kd.R_base ho13) hb); have HO1348 := m0 (Kd.R_lower ho13 (below_size bz)); replace BK1339 := bb BK1339 hb; replace HB := sb HB hb; clear hb ho13; obtain ⟨Ao14, co14, eo14⟩ := Kd.R_slice HO1348.out; subst eo14) | (go_at_call 91; (with_reducible refine (line_first.calls k1 _ _ y1346 t1349 _ ?side1 ?side2 A10.out).mono ?_); (case side1 => exact bc (Kd.R_reads' HO1348.out).2.2); (case side2 => exact (Kd.R_reads' HO1348.out).2.1); rintro e w' ⟨rfl, ⟨nd, rfl⟩⟩; (try first | exact ⟨rfl, _, World.drewN_drewN _ _ _⟩ | exact ⟨rfl, _, Eq.trans (World.drewN_drewN _ _ _) (congrArg (World.drewN _) (Nat.add_assoc _ _ _))⟩))); try go_wp2_with (first | (go_at_call 102; (with_reducible refine (line_open.calls (fun k_ => k_ < w.heap.size) _ _ (rd_L1 l0 x27_1) t1342 t1345 _ ?side1 A9.out).mono ?_); (case side1 => exact Kd.V_mk HC1341_0.out (Kd.F_below (Kd.C_F (Kd.heap_int .i64) HR1341_0.out) bz)); rintro e w11 ⟨v1343, rfl, ho0, hb⟩; have HO1344 := m0 (Kd.V_lower (Kd.V_mono (ok' := fun k_ => k_ ≠ gb1339) ho0 (fun k_ hk_ => Or.elim hk_ (fun hs_ => fun e_ => Nat.not_le.2 hs_ (by rw [e_]; exact GW1339.out)) (fun hn_ => (Kd.freshB (g := gb1339) (o := .cells #[.int .i64 a1_0, .int .i64 a1_1, .int .i64 a1_2, .int .i64 a1_3] 94 (0, 0)) (bk BK1339.out) k_ hn_)))) (below_size bz)); replace BK1339 := bb BK1339 hb; replace HB := sb HB hb; (try clear hb); (try clear ho0)) | ((with_reducible refine gate_dst (N := 38) rfl ?_); refine Kd.R_lit (Kd.int .i64) _ 31 ?hg (N := 38) ?hd (xs := ([x6_1, t1345] : List Int)) (inner := [.int .i64 x6_1, .int .i64 t1345]) (ok := fun _ => True) (okp := fun _ => True) ?hr ?hp (fun _ hk => hk) trivial (Below.refl _ _) (Nat.le_refl _) (by simp) ?_; (case hd => rfl); (case hg => rfl); (case hr => first | (go_simp; done) | (go_simp; rfl)); (case hp => exact (Reps.one (show Kd.M (Kd.int .i64) _ _ _ x6_1 [.int .i64 x6_1] from rfl) (Reps.one (show Kd.M (Kd.int .i64) _ _ _ t1345 [.int .i64 t1345] from rfl) (Reps.none _ _)))); intro v1347 w12 ho13 hb hg_ hnew_; clear hg_ hnew_; (first | rw [← Ny1346.out] at ho13 | (simp only [Int.reduceToNat] at ho13; rw [← Ny1346.out] at ho13)); replace HO1344 := m0 (Kd.V_elder' (by (with_reducible repeat (first | apply Kd.V_alloc | apply Kd.V_drewN | apply Kd.V_drew)); exact HO1344.out) (Kd.R_base ho13) hb); have HO1348 := m0 (Kd.R_lower ho13 (below_size bz)); replace BK1339 := bb BK1339 hb; replace HB := sb HB hb; clear hb ho13; obtain ⟨Ao14, co14, eo14⟩ := Kd.R_slice HO1348.out; subst eo14) | (go_at_call 91; (with_reducible refine (line_first.calls k1 _ _ y1346 t1349 _ ?side1 ?side2 A10.out).mono ?_); (case side1 => exact bc (Kd.R_reads' HO1348.out).2.2); (case side2 => exact (Kd.R_reads' HO1348.out).2.1); rintro e w' ⟨rfl, ⟨nd, rfl⟩⟩; (try first | exact ⟨rfl, _, World.drewN_drewN _ _ _⟩ | exact ⟨rfl, _, Eq.trans (World.drewN_drewN _ _ _) (congrArg (World.drewN _) (Nat.add_assoc _ _ _))⟩))))
              go_roundg k1
              case measure => have := HK1.out; omega
              case rel => exact ⟨(t1349), (wrap64 (x27_1 + 1)), (by first | rfl | (simp; done) | (simp [*]; done)), (by first | rfl | (simp; done) | (simp [*]; done)), H', ⟨by have := HK1.out; omega⟩, ⟨bk BK1339.out⟩, ⟨bz⟩⟩
            · rw [if_neg c8] at H
              exact absurd H (by simp)
          · rw [if_neg c7] at H
            exact absurd H (by simp)
        · rw [if_neg c6] at H
          have c6b0 := decide_eq_false c6
          clear c6
          have HC15 := m0 H
          clear H
          go_upto_region 10 with (fail)
          repeat (go_quiet (fail); go_upto_region 10 with (fail))
          go_cut [11] (fun v11 wc => ∃ (kq : Nat) (x11_14 : Bool), v11 = .bool x11_14 ∧ Aside0 (line_HardIn.j1 kq l0 x6_1 x11_14 a1_0 a1_1 a1_2 a1_3 = some (r1, r2)) ∧ Aside0 (kq ≤ k1) ∧ Aside0 (wc.heap[gb1339]? = some (.cells #[.int .i64 a1_0, .int .i64 a1_1, .int .i64 a1_2, .int .i64 a1_3] 94 (0, 0))) ∧ Aside0 (Below w.heap.size w wc))
          case first =>
            have H := HC15.out
            clear HC15
            replace H := ob H
            obtain ⟨t1350, A160, H⟩ := H
            (try dsimp only at H)
            have A16 := m0 A160
            clear A160
            by_cases c17 : t1350 = true
            · subst c17
              rw [if_pos rfl] at H
              replace H := ob H
              obtain ⟨t1351, A180, H⟩ := H
              (try dsimp only at H)
              have A18 := m0 A180
              clear A180
              by_cases c19 : t1351 = true
              · subst c19
                rw [if_pos rfl] at H
                replace H := ob H
                obtain ⟨t1352, A200, H⟩ := H
                (try dsimp only at H)
                have A20 := m0 A200
                clear A200
                by_cases c21 : t1352 = true
                · subst c21
                  rw [if_pos rfl] at H
                  replace H := ob H
                  obtain ⟨t1353, A220, H⟩ := H
                  (try dsimp only at H)
                  have A22 := m0 A220
                  clear A220
                  have H' := m0 H
                  clear H
                  obtain ⟨hcz23_0, hcz23_1, hcz23_2, hcz23_3, hfz23_0, hfz23_1, hfz23_2, hfz23_3⟩ := b4 BK1339
                  go_wp2_with (first | (go_at_call 105; (with_reducible refine (line_within.calls a1_0 0 15 true _ A16.out).mono ?_); rintro e w' ⟨rfl, ⟨nd, rfl⟩⟩; (try first | exact ⟨rfl, _, World.drewN_drewN _ _ _⟩ | exact ⟨rfl, _, Eq.trans (World.drewN_drewN _ _ _) (congrArg (World.drewN _) (Nat.add_assoc _ _ _))⟩)) | (go_at_call 105; (with_reducible refine (line_within.calls a1_1 0 16 true _ A18.out).mono ?_); rintro e w' ⟨rfl, ⟨nd, rfl⟩⟩; (try first | exact ⟨rfl, _, World.drewN_drewN _ _ _⟩ | exact ⟨rfl, _, Eq.trans (World.drewN_drewN _ _ _) (congrArg (World.drewN _) (Nat.add_assoc _ _ _))⟩)) | (go_at_call 105; (with_reducible refine (line_within.calls a1_2 0 160000 true _ A20.out).mono ?_); rintro e w' ⟨rfl, ⟨nd, rfl⟩⟩; (try first | exact ⟨rfl, _, World.drewN_drewN _ _ _⟩ | exact ⟨rfl, _, Eq.trans (World.drewN_drewN _ _ _) (congrArg (World.drewN _) (Nat.add_assoc _ _ _))⟩)) | (go_at_call 105; (with_reducible refine (line_within.calls a1_3 0 100 t1353 _ A22.out).mono ?_); rintro e w' ⟨rfl, ⟨nd, rfl⟩⟩; (try first | exact ⟨rfl, _, World.drewN_drewN _ _ _⟩ | exact ⟨rfl, _, Eq.trans (World.drewN_drewN _ _ _) (congrArg (World.drewN _) (Nat.add_assoc _ _ _))⟩)))
                  repeat (go_quiet (first | (go_at_call 105; (with_reducible refine (line_within.calls a1_0 0 15 true _ A16.out).mono ?_); rintro e w' ⟨rfl, ⟨nd, rfl⟩⟩; (try first | exact ⟨rfl, _, World.drewN_drewN _ _ _⟩ | exact ⟨rfl, _, Eq.trans (World.drewN_drewN _ _ _) (congrArg (World.drewN _) (Nat.add_assoc _ _ _))⟩)) | (go_at_call 105; (with_reducible refine (line_within.calls a1_1 0 16 true _ A18.out).mono ?_); rintro e w' ⟨rfl, ⟨nd, rfl⟩⟩; (try first | exact ⟨rfl, _, World.drewN_drewN _ _ _⟩ | exact ⟨rfl, _, Eq.trans (World.drewN_drewN _ _ _) (congrArg (World.drewN _) (Nat.add_assoc _ _ _))⟩)) | (go_at_call 105; (with_reducible refine (line_within.calls a1_2 0 160000 true _ A20.out).mono ?_); rintro e w' ⟨rfl, ⟨nd, rfl⟩⟩; (try first | exact ⟨rfl, _, World.drewN_drewN _ _ _⟩ | exact ⟨rfl, _, Eq.trans (World.drewN_drewN _ _ _) (congrArg (World.drewN _) (Nat.add_assoc _ _ _))⟩)) | (go_at_call 105; (with_reducible refine (line_within.calls a1_3 0 100 t1353 _ A22.out).mono ?_); rintro e w' ⟨rfl, ⟨nd, rfl⟩⟩; (try first | exact ⟨rfl, _, World.drewN_drewN _ _ _⟩ | exact ⟨rfl, _, Eq.trans (World.drewN_drewN _ _ _) (congrArg (World.drewN _) (Nat.add_assoc _ _ _))⟩))); try go_wp2_with (first | (go_at_call 105; (with_reducible refine (line_within.calls a1_0 0 15 true _ A16.out).mono ?_); rintro e w' ⟨rfl, ⟨nd, rfl⟩⟩; (try first | exact ⟨rfl, _, World.drewN_drewN _ _ _⟩ | exact ⟨rfl, _, Eq.trans (World.drewN_drewN _ _ _) (congrArg (World.drewN _) (Nat.add_assoc _ _ _))⟩)) | (go_at_call 105; (with_reducible refine (line_within.calls a1_1 0 16 true _ A18.out).mono ?_); rintro e w' ⟨rfl, ⟨nd, rfl⟩⟩; (try first | exact ⟨rfl, _, World.drewN_drewN _ _ _⟩ | exact ⟨rfl, _, Eq.trans (World.drewN_drewN _ _ _) (congrArg (World.drewN _) (Nat.add_assoc _ _ _))⟩)) | (go_at_call 105; (with_reducible refine (line_within.calls a1_2 0 160000 true _ A20.out).mono ?_); rintro e w' ⟨rfl, ⟨nd, rfl⟩⟩; (try first | exact ⟨rfl, _, World.drewN_drewN _ _ _⟩ | exact ⟨rfl, _, Eq.trans (World.drewN_drewN _ _ _) (congrArg (World.drewN _) (Nat.add_assoc _ _ _))⟩)) | (go_at_call 105; (with_reducible refine (line_within.calls a1_3 0 100 t1353 _ A22.out).mono ?_); rintro e w' ⟨rfl, ⟨nd, rfl⟩⟩; (try first | exact ⟨rfl, _, World.drewN_drewN _ _ _⟩ | exact ⟨rfl, _, Eq.trans (World.drewN_drewN _ _ _) (congrArg (World.drewN _) (Nat.add_assoc _ _ _))⟩))))
                  go_meet
                  case rel => exact ⟨_, (t1353), (by first | rfl | (simp; done) | (simp [*]; done)), H', ⟨by have := HK1.out; first | omega | exact Nat.le_refl _⟩, ⟨bk BK1339.out⟩, ⟨bz⟩⟩
                · replace c21 := Bool.eq_false_iff.mpr c21
                  subst c21
                  rw [if_neg (show ¬ (false = true) by decide)] at H
                  have H' := m0 H
                  clear H
                  obtain ⟨hcz24_0, hcz24_1, hcz24_2, hcz24_3, hfz24_0, hfz24_1, hfz24_2, hfz24_3⟩ := b4 BK1339
                  go_wp2_with (first | (go_at_call 105; (with_reducible refine (line_within.calls a1_0 0 15 true _ A16.out).mono ?_); rintro e w' ⟨rfl, ⟨nd, rfl⟩⟩; (try first | exact ⟨rfl, _, World.drewN_drewN _ _ _⟩ | exact ⟨rfl, _, Eq.trans (World.drewN_drewN _ _ _) (congrArg (World.drewN _) (Nat.add_assoc _ _ _))⟩)) | (go_at_call 105; (with_reducible refine (line_within.calls a1_1 0 16 true _ A18.out).mono ?_); rintro e w' ⟨rfl, ⟨nd, rfl⟩⟩; (try first | exact ⟨rfl, _, World.drewN_drewN _ _ _⟩ | exact ⟨rfl, _, Eq.trans (World.drewN_drewN _ _ _) (congrArg (World.drewN _) (Nat.add_assoc _ _ _))⟩)) | (go_at_call 105; (with_reducible refine (line_within.calls a1_2 0 160000 false _ A20.out).mono ?_); rintro e w' ⟨rfl, ⟨nd, rfl⟩⟩; (try first | exact ⟨rfl, _, World.drewN_drewN _ _ _⟩ | exact ⟨rfl, _, Eq.trans (World.drewN_drewN _ _ _) (congrArg (World.drewN _) (Nat.add_assoc _ _ _))⟩)))
                  repeat (go_quiet (first | (go_at_call 105; (with_reducible refine (line_within.calls a1_0 0 15 true _ A16.out).mono ?_); rintro e w' ⟨rfl, ⟨nd, rfl⟩⟩; (try first | exact ⟨rfl, _, World.drewN_drewN _ _ _⟩ | exact ⟨rfl, _, Eq.trans (World.drewN_drewN _ _ _) (congrArg (World.drewN _) (Nat.add_assoc _ _ _))⟩)) | (go_at_call 105; (with_reducible refine (line_within.calls a1_1 0 16 true _ A18.out).mono ?_); rintro e w' ⟨rfl, ⟨nd, rfl⟩⟩; (try first | exact ⟨rfl, _, World.drewN_drewN _ _ _⟩ | exact ⟨rfl, _, Eq.trans (World.drewN_drewN _ _ _) (congrArg (World.drewN _) (Nat.add_assoc _ _ _))⟩)) | (go_at_call 105; (with_reducible refine (line_within.calls a1_2 0 160000 false _ A20.out).mono ?_); rintro e w' ⟨rfl, ⟨nd, rfl⟩⟩; (try first | exact ⟨rfl, _, World.drewN_drewN _ _ _⟩ | exact ⟨rfl, _, Eq.trans (World.drewN_drewN _ _ _) (congrArg (World.drewN _) (Nat.add_assoc _ _ _))⟩))); try go_wp2_with (first | (go_at_call 105; (with_reducible refine (line_within.calls a1_0 0 15 true _ A16.out).mono ?_); rintro e w' ⟨rfl, ⟨nd, rfl⟩⟩; (try first | exact ⟨rfl, _, World.drewN_drewN _ _ _⟩ | exact ⟨rfl, _, Eq.trans (World.drewN_drewN _ _ _) (congrArg (World.drewN _) (Nat.add_assoc _ _ _))⟩)) | (go_at_call 105; (with_reducible refine (line_within.calls a1_1 0 16 true _ A18.out).mono ?_); rintro e w' ⟨rfl, ⟨nd, rfl⟩⟩; (try first | exact ⟨rfl, _, World.drewN_drewN _ _ _⟩ | exact ⟨rfl, _, Eq.trans (World.drewN_drewN _ _ _) (congrArg (World.drewN _) (Nat.add_assoc _ _ _))⟩)) | (go_at_call 105; (with_reducible refine (line_within.calls a1_2 0 160000 false _ A20.out).mono ?_); rintro e w' ⟨rfl, ⟨nd, rfl⟩⟩; (try first | exact ⟨rfl, _, World.drewN_drewN _ _ _⟩ | exact ⟨rfl, _, Eq.trans (World.drewN_drewN _ _ _) (congrArg (World.drewN _) (Nat.add_assoc _ _ _))⟩))))
                  go_meet
                  case rel => exact ⟨_, (false), (by first | rfl | (simp; done) | (simp [*]; done)), H', ⟨by have := HK1.out; first | omega | exact Nat.le_refl _⟩, ⟨bk BK1339.out⟩, ⟨bz⟩⟩
              · replace c19 := Bool.eq_false_iff.mpr c19
                subst c19
                rw [if_neg (show ¬ (false = true) by decide)] at H
                have H' := m0 H
                clear H
                obtain ⟨hcz25_0, hcz25_1, hcz25_2, hcz25_3, hfz25_0, hfz25_1, hfz25_2, hfz25_3⟩ := b4 BK1339
                go_wp2_with (first | (go_at_call 105; (with_reducible refine (line_within.calls a1_0 0 15 true _ A16.out).mono ?_); rintro e w' ⟨rfl, ⟨nd, rfl⟩⟩; (try first | exact ⟨rfl, _, World.drewN_drewN _ _ _⟩ | exact ⟨rfl, _, Eq.trans (World.drewN_drewN _ _ _) (congrArg (World.drewN _) (Nat.add_assoc _ _ _))⟩)) | (go_at_call 105; (with_reducible refine (line_within.calls a1_1 0 16 false _ A18.out).mono ?_); rintro e w' ⟨rfl, ⟨nd, rfl⟩⟩; (try first | exact ⟨rfl, _, World.drewN_drewN _ _ _⟩ | exact ⟨rfl, _, Eq.trans (World.drewN_drewN _ _ _) (congrArg (World.drewN _) (Nat.add_assoc _ _ _))⟩)))
                repeat (go_quiet (first | (go_at_call 105; (with_reducible refine (line_within.calls a1_0 0 15 true _ A16.out).mono ?_); rintro e w' ⟨rfl, ⟨nd, rfl⟩⟩; (try first | exact ⟨rfl, _, World.drewN_drewN _ _ _⟩ | exact ⟨rfl, _, Eq.trans (World.drewN_drewN _ _ _) (congrArg (World.drewN _) (Nat.add_assoc _ _ _))⟩)) | (go_at_call 105; (with_reducible refine (line_within.calls a1_1 0 16 false _ A18.out).mono ?_); rintro e w' ⟨rfl, ⟨nd, rfl⟩⟩; (try first | exact ⟨rfl, _, World.drewN_drewN _ _ _⟩ | exact ⟨rfl, _, Eq.trans (World.drewN_drewN _ _ _) (congrArg (World.drewN _) (Nat.add_assoc _ _ _))⟩))); try go_wp2_with (first | (go_at_call 105; (with_reducible refine (line_within.calls a1_0 0 15 true _ A16.out).mono ?_); rintro e w' ⟨rfl, ⟨nd, rfl⟩⟩; (try first | exact ⟨rfl, _, World.drewN_drewN _ _ _⟩ | exact ⟨rfl, _, Eq.trans (World.drewN_drewN _ _ _) (congrArg (World.drewN _) (Nat.add_assoc _ _ _))⟩)) | (go_at_call 105; (with_reducible refine (line_within.calls a1_1 0 16 false _ A18.out).mono ?_); rintro e w' ⟨rfl, ⟨nd, rfl⟩⟩; (try first | exact ⟨rfl, _, World.drewN_drewN _ _ _⟩ | exact ⟨rfl, _, Eq.trans (World.drewN_drewN _ _ _) (congrArg (World.drewN _) (Nat.add_assoc _ _ _))⟩))))
                go_meet
                case rel => exact ⟨_, (false), (by first | rfl | (simp; done) | (simp [*]; done)), H', ⟨by have := HK1.out; first | omega | exact Nat.le_refl _⟩, ⟨bk BK1339.out⟩, ⟨bz⟩⟩
            · replace c17 := Bool.eq_false_iff.mpr c17
              subst c17
              rw [if_neg (show ¬ (false = true) by decide)] at H
              have H' := m0 H
              clear H
              obtain ⟨hcz26_0, hcz26_1, hcz26_2, hcz26_3, hfz26_0, hfz26_1, hfz26_2, hfz26_3⟩ := b4 BK1339
              go_wp2_with (first | (go_at_call 105; (with_reducible refine (line_within.calls a1_0 0 15 false _ A16.out).mono ?_); rintro e w' ⟨rfl, ⟨nd, rfl⟩⟩; (try first | exact ⟨rfl, _, World.drewN_drewN _ _ _⟩ | exact ⟨rfl, _, Eq.trans (World.drewN_drewN _ _ _) (congrArg (World.drewN _) (Nat.add_assoc _ _ _))⟩)))
              repeat (go_quiet (first | (go_at_call 105; (with_reducible refine (line_within.calls a1_0 0 15 false _ A16.out).mono ?_); rintro e w' ⟨rfl, ⟨nd, rfl⟩⟩; (try first | exact ⟨rfl, _, World.drewN_drewN _ _ _⟩ | exact ⟨rfl, _, Eq.trans (World.drewN_drewN _ _ _) (congrArg (World.drewN _) (Nat.add_assoc _ _ _))⟩))); try go_wp2_with (first | (go_at_call 105; (with_reducible refine (line_within.calls a1_0 0 15 false _ A16.out).mono ?_); rintro e w' ⟨rfl, ⟨nd, rfl⟩⟩; (try first | exact ⟨rfl, _, World.drewN_drewN _ _ _⟩ | exact ⟨rfl, _, Eq.trans (World.drewN_drewN _ _ _) (congrArg (World.drewN _) (Nat.add_assoc _ _ _))⟩))))
              go_meet
              case rel => exact ⟨_, (false), (by first | rfl | (simp; done) | (simp [*]; done)), H', ⟨by have := HK1.out; first | omega | exact Nat.le_refl _⟩, ⟨bk BK1339.out⟩, ⟨bz⟩⟩
          case rest =>
            clear HC15
            try clear c1
            try clear p1
            try clear q1
            try clear hx1
            try clear c2
            try clear p2
            try clear c4
            try clear c4b0
            try clear c4b1
            try clear c6
            try clear c6b0
            try clear p6
            try clear c7
            try clear c7b0
            try clear c8
            try clear c8b0
            try clear c13
            try clear p13
            try clear q13
            try clear hx13
            try clear c17
            try clear c19
            try clear c21
            try clear hcz23_0
            try clear hcz23_1
            try clear hcz23_2
            try clear hcz23_3
            try clear hcz24_0
            try clear hcz24_1
            try clear hcz24_2
            try clear hcz24_3
            try clear hcz25_0
            try clear hcz25_1
            try clear hcz25_2
            try clear hcz25_3
            try clear hcz26_0
            try clear hcz26_1
            try clear hcz26_2
            try clear hcz26_3
            try clear hfz23_0
            try clear hfz23_1
            try clear hfz23_2
            try clear hfz23_3
            try clear hfz24_0
            try clear hfz24_1
            try clear hfz24_2
            try clear hfz24_3
            try clear hfz25_0
            try clear hfz25_1
            try clear hfz25_2
            try clear hfz25_3
            try clear hfz26_0
            try clear hfz26_1
            try clear hfz26_2
            try clear hfz26_3
            try clear hx1341_0
            try clear p1341
            try clear p2
            try clear q1341
            obtain ⟨kq, x11_14, rfl, HA, HJ14, BK1339, HB⟩ := hcut
            cases kq with
            | zero => exact absurd HA.out (by simp [line_HardIn.j1])
            | succ kj14 =>
              have H := HA.out
              clear HA
              simp only [line_HardIn.j1] at H
              replace H := ob H
              obtain ⟨t1354, A270, H⟩ := H
              (try dsimp only at H)
              have A27 := m0 A270
              clear A270
              obtain ⟨y1355, hy1355⟩ : ∃ y_ : List Int, y_ = (([x6_1, t1354] : List Int)) := ⟨_, rfl⟩
              replace H : ((line_first.f kj14 y1355).bind fun t1358 => (if t1358 = 0 then (line_HardIn.l1 kj14 ([] : List Int) l0 (l0.length : Int) 0 a1_0 a1_1 a1_2 a1_3) else (some (([] : List Int), t1358)))) = some (r1, r2) := by first | (rw [hy1355]; with_reducible exact H) | (have H2_ := (Option.bind_some _ _).symm.trans H; rw [hy1355]; with_reducible exact H2_) | (have H2_ := (Option.bind_some _ _).symm.trans H; with_reducible exact H2_) | with_reducible exact H | (rw [hy1355]; exact H) | exact H
              have Ny1355 := m0 hy1355
              clear hy1355
              replace H := ob H
              obtain ⟨t1358, A280, H⟩ := H
              (try dsimp only at H)
              have A28 := m0 A280
              clear A280
              by_cases c29 : t1358 = 0
              · rw [if_pos c29] at H
                have c29b0 := beq_iff_eq.mpr c29
                have c29b1 := bne_eq_false_iff_eq.mpr c29
                clear c29
                have H' := m0 H
                clear H
                go_wp2_with (first | (go_at_call 93; (with_reducible refine (line_unless.calls x11_14 2 t1354 _ A27.out).mono ?_); rintro e w' ⟨rfl, ⟨nd, rfl⟩⟩; (try first | exact ⟨rfl, _, World.drewN_drewN _ _ _⟩ | exact ⟨rfl, _, Eq.trans (World.drewN_drewN _ _ _) (congrArg (World.drewN _) (Nat.add_assoc _ _ _))⟩)) | ((with_reducible refine gate_dst (N := 62) rfl ?_); refine Kd.R_lit (Kd.int .i64) _ 31 ?hg (N := 62) ?hd (xs := ([x6_1, t1354] : List Int)) (inner := [.int .i64 x6_1, .int .i64 t1354]) (ok := fun _ => True) (okp := fun _ => True) ?hr ?hp (fun _ hk => hk) trivial (Below.refl _ _) (Nat.le_refl _) (by simp) ?_; (case hd => rfl); (case hg => rfl); (case hr => first | (go_simp; done) | (go_simp; rfl)); (case hp => exact (Reps.one (show Kd.M (Kd.int .i64) _ _ _ x6_1 [.int .i64 x6_1] from rfl) (Reps.one (show Kd.M (Kd.int .i64) _ _ _ t1354 [.int .i64 t1354] from rfl) (Reps.none _ _)))); intro v1356 w30 ho31 hb hg_ hnew_; clear hg_ hnew_; (first | rw [← Ny1355.out] at ho31 | (simp only [Int.reduceToNat] at ho31; rw [← Ny1355.out] at ho31)); have HO1357 := m0 (Kd.R_lower ho31 (below_size bz)); replace BK1339 := bb BK1339 hb; replace HB := sb HB hb; clear hb ho31; obtain ⟨Ao32, co32, eo32⟩ := Kd.R_slice HO1357.out; subst eo32) | (go_at_call 91; (with_reducible refine (line_first.calls kj14 _ _ y1355 t1358 _ ?side1 ?side2 A28.out).mono ?_); (case side1 => exact bc (Kd.R_reads' HO1357.out).2.2); (case side2 => exact (Kd.R_reads' HO1357.out).2.1); rintro e w' ⟨rfl, ⟨nd, rfl⟩⟩; (try first | exact ⟨rfl, _, World.drewN_drewN _ _ _⟩ | exact ⟨rfl, _, Eq.trans (World.drewN_drewN _ _ _) (congrArg (World.drewN _) (Nat.add_assoc _ _ _))⟩)))
                repeat (go_quiet (first | (go_at_call 93; (with_reducible refine (line_unless.calls x11_14 2 t1354 _ A27.out).mono ?_); rintro e w' ⟨rfl, ⟨nd, rfl⟩⟩; (try first | exact ⟨rfl, _, World.drewN_drewN _ _ _⟩ | exact ⟨rfl, _, Eq.trans (World.drewN_drewN _ _ _) (congrArg (World.drewN _) (Nat.add_assoc _ _ _))⟩)) | ((with_reducible refine gate_dst (N := 62) rfl ?_); refine Kd.R_lit (Kd.int .i64) _ 31 ?hg (N := 62) ?hd (xs := ([x6_1, t1354] : List Int)) (inner := [.int .i64 x6_1, .int .i64 t1354]) (ok := fun _ => True) (okp := fun _ => True) ?hr ?hp (fun _ hk => hk) trivial (Below.refl _ _) (Nat.le_refl _) (by simp) ?_; (case hd => rfl); (case hg => rfl); (case hr => first | (go_simp; done) | (go_simp; rfl)); (case hp => exact (Reps.one (show Kd.M (Kd.int .i64) _ _ _ x6_1 [.int .i64 x6_1] from rfl) (Reps.one (show Kd.M (Kd.int .i64) _ _ _ t1354 [.int .i64 t1354] from rfl) (Reps.none _ _)))); intro v1356 w30 ho31 hb hg_ hnew_; clear hg_ hnew_; (first | rw [← Ny1355.out] at ho31 | (simp only [Int.reduceToNat] at ho31; rw [← Ny1355.out] at ho31)); have HO1357 := m0 (Kd.R_lower ho31 (below_size bz)); replace BK1339 := bb BK1339 hb; replace HB := sb HB hb; clear hb ho31; obtain ⟨Ao32, co32, eo32⟩ := Kd.R_slice HO1357.out; subst eo32) | (go_at_call 91; (with_reducible refine (line_first.calls kj14 _ _ y1355 t1358 _ ?side1 ?side2 A28.out).mono ?_); (case side1 => exact bc (Kd.R_reads' HO1357.out).2.2); (case side2 => exact (Kd.R_reads' HO1357.out).2.1); rintro e w' ⟨rfl, ⟨nd, rfl⟩⟩; (try first | exact ⟨rfl, _, World.drewN_drewN _ _ _⟩ | exact ⟨rfl, _, Eq.trans (World.drewN_drewN _ _ _) (congrArg (World.drewN _) (Nat.add_assoc _ _ _))⟩))); try go_wp2_with (first | (go_at_call 93; (with_reducible refine (line_unless.calls x11_14 2 t1354 _ A27.out).mono ?_); rintro e w' ⟨rfl, ⟨nd, rfl⟩⟩; (try first | exact ⟨rfl, _, World.drewN_drewN _ _ _⟩ | exact ⟨rfl, _, Eq.trans (World.drewN_drewN _ _ _) (congrArg (World.drewN _) (Nat.add_assoc _ _ _))⟩)) | ((with_reducible refine gate_dst (N := 62) rfl ?_); refine Kd.R_lit (Kd.int .i64) _ 31 ?hg (N := 62) ?hd (xs := ([x6_1, t1354] : List Int)) (inner := [.int .i64 x6_1, .int .i64 t1354]) (ok := fun _ => True) (okp := fun _ => True) ?hr ?hp (fun _ hk => hk) trivial (Below.refl _ _) (Nat.le_refl _) (by simp) ?_; (case hd => rfl); (case hg => rfl); (case hr => first | (go_simp; done) | (go_simp; rfl)); (case hp => exact (Reps.one (show Kd.M (Kd.int .i64) _ _ _ x6_1 [.int .i64 x6_1] from rfl) (Reps.one (show Kd.M (Kd.int .i64) _ _ _ t1354 [.int .i64 t1354] from rfl) (Reps.none _ _)))); intro v1356 w30 ho31 hb hg_ hnew_; clear hg_ hnew_; (first | rw [← Ny1355.out] at ho31 | (simp only [Int.reduceToNat] at ho31; rw [← Ny1355.out] at ho31)); have HO1357 := m0 (Kd.R_lower ho31 (below_size bz)); replace BK1339 := bb BK1339 hb; replace HB := sb HB hb; clear hb ho31; obtain ⟨Ao32, co32, eo32⟩ := Kd.R_slice HO1357.out; subst eo32) | (go_at_call 91; (with_reducible refine (line_first.calls kj14 _ _ y1355 t1358 _ ?side1 ?side2 A28.out).mono ?_); (case side1 => exact bc (Kd.R_reads' HO1357.out).2.2); (case side2 => exact (Kd.R_reads' HO1357.out).2.1); rintro e w' ⟨rfl, ⟨nd, rfl⟩⟩; (try first | exact ⟨rfl, _, World.drewN_drewN _ _ _⟩ | exact ⟨rfl, _, Eq.trans (World.drewN_drewN _ _ _) (congrArg (World.drewN _) (Nat.add_assoc _ _ _))⟩))))
                go_loopg [12, 69] kj14 (fun kq v12 v69 w' => ∃ (x12_3 : List Int) (x69_3 : Int), v69 = .int .i64 x69_3 ∧ Aside0 (line_HardIn.l1 kq x12_3 l0 (l0.length : Int) x69_3 a1_0 a1_1 a1_2 a1_3 = some (r1, r2)) ∧ Aside0 (kq ≤ kj14) ∧ Aside0 (Kd.R (Kd.int .i64) 3 w' w.heap.size (fun _ => True) v12 x12_3) ∧ Aside0 (w'.heap[gb1339]? = some (.cells #[.int .i64 a1_0, .int .i64 a1_1, .int .i64 a1_2, .int .i64 a1_3] 94 (0, 0))) ∧ Aside0 (Below w.heap.size w w'))
                case atStart => exact ⟨(([] : List Int)), (0), (by first | rfl | (simp; done) | (simp [*]; done)), H', ⟨Nat.le_refl _⟩, ⟨by first | exact Kd.R_nil _ _ _ _ _ | exact Kd.N_nil _ _ _ _ _ | exact Kd.V_nil _ _ _ _ _ | exact Kd.Q_nil _ _ _ _ _ | exact Kd.S_nil _ _ _ _ _⟩, ⟨bk BK1339.out⟩, ⟨bz⟩⟩
                case round =>
                  clear H'
                  try clear c1
                  try clear p1
                  try clear q1
                  try clear hx1
                  try clear c2
                  try clear p2
                  try clear c4
                  try clear c4b0
                  try clear c4b1
                  try clear c6
                  try clear c6b0
                  try clear p6
                  try clear c7
                  try clear c7b0
                  try clear c8
                  try clear c8b0
                  try clear c13
                  try clear p13
                  try clear q13
                  try clear hx13
                  try clear c17
                  try clear c19
                  try clear c21
                  try clear c29
                  try clear c29b0
                  try clear c29b1
                  try clear hcz23_0
                  try clear hcz23_1
                  try clear hcz23_2
                  try clear hcz23_3
                  try clear hcz24_0
                  try clear hcz24_1
                  try clear hcz24_2
                  try clear hcz24_3
                  try clear hcz25_0
                  try clear hcz25_1
                  try clear hcz25_2
                  try clear hcz25_3
                  try clear hcz26_0
                  try clear hcz26_1
                  try clear hcz26_2
                  try clear hcz26_3
                  try clear hfz23_0
                  try clear hfz23_1
                  try clear hfz23_2
                  try clear hfz23_3
                  try clear hfz24_0
                  try clear hfz24_1
                  try clear hfz24_2
                  try clear hfz24_3
                  try clear hfz25_0
                  try clear hfz25_1
                  try clear hfz25_2
                  try clear hfz25_3
                  try clear hfz26_0
                  try clear hfz26_1
                  try clear hfz26_2
                  try clear hfz26_3
                  try clear hx1341_0
                  try clear p1
                  try clear p13
                  try clear p1341
                  try clear p2
                  try clear p6
                  try clear q1
                  try clear q13
                  try clear q1341
                  obtain ⟨x12_3, x69_3, rfl, HA, HK3, HO_12, BK1339, HB⟩ := hrel
                  cases gk with
                  | zero => exact absurd HA.out (by simp [line_HardIn.l1])
                  | succ k3 =>
                    have H := HA.out
                    clear HA
                    simp only [line_HardIn.l1] at H
                    by_cases c33 : x69_3 < (l0.length : Int)
                    · rw [if_pos c33] at H
                      have c33b0 := decide_eq_true c33
                      clear c33
                      by_cases c34 : 0 ≤ x69_3
                      · rw [if_pos c34] at H
                        have c34b0 := decide_eq_true c34
                        clear c34
                        by_cases c35 : x69_3 < (l0.length : Int)
                        · rw [if_pos c35] at H
                          have c35b0 := decide_eq_true c35
                          clear c35
                          obtain ⟨ji36, hji36⟩ : ∃ j_ : Int, (mx 0 (wrap64 (a1_0 - a1_1))) = j_ := ⟨_, rfl⟩
                          replace H : (if 0 ≤ (mn (ji36) (mn ((rd_L1 l0 x69_3).length : Int) (wrap64 ((wrap64 (a1_0 + a1_1)) + 1)))) then (if (mn (ji36) (mn ((rd_L1 l0 x69_3).length : Int) (wrap64 ((wrap64 (a1_0 + a1_1)) + 1)))) ≤ (mn ((rd_L1 l0 x69_3).length : Int) (wrap64 ((wrap64 (a1_0 + a1_1)) + 1))) then (if (mn ((rd_L1 l0 x69_3).length : Int) (wrap64 ((wrap64 (a1_0 + a1_1)) + 1))) ≤ ((rd_L1 l0 x69_3).length : Int) then ((line_sum.f k3 (((rd_L1 l0 x69_3).take ((mn ((rd_L1 l0 x69_3).length : Int) (wrap64 ((wrap64 (a1_0 + a1_1)) + 1))) : Int).toNat).drop ((mn (ji36) (mn ((rd_L1 l0 x69_3).length : Int) (wrap64 ((wrap64 (a1_0 + a1_1)) + 1)))) : Int).toNat)).bind fun t1361 => (if t1361 ≥ a1_2 then ((line_sum.f k3 (rd_L1 l0 x69_3)).bind fun t1362 => (if (wrap64 (100 * t1361)) ≥ (wrap64 (a1_3 * t1362)) then (if x12_3.length < 17592186044416 then (line_HardIn.l1 k3 (x12_3 ++ [x69_3]) l0 (l0.length : Int) (wrap64 (x69_3 + 1)) a1_0 a1_1 a1_2 a1_3) else (none)) else (line_HardIn.l1 k3 x12_3 l0 (l0.length : Int) (wrap64 (x69_3 + 1)) a1_0 a1_1 a1_2 a1_3))) else (line_HardIn.l1 k3 x12_3 l0 (l0.length : Int) (wrap64 (x69_3 + 1)) a1_0 a1_1 a1_2 a1_3))) else (none)) else (none)) else (none)) = some (r1, r2) := by first | (rw [hji36] at H; exact H) | (simp only [hji36] at H ⊢; exact H)
                          have hji36_ : (if 0 < (wrap64 (a1_0 - a1_1)) then (wrap64 (a1_0 - a1_1)) else 0) = ji36 := hji36
                          obtain ⟨ji37, hji37⟩ : ∃ j_ : Int, (mn ((rd_L1 l0 x69_3).length : Int) (wrap64 ((wrap64 (a1_0 + a1_1)) + 1))) = j_ := ⟨_, rfl⟩
                          replace H : (if 0 ≤ (mn (ji36) (ji37)) then (if (mn (ji36) (ji37)) ≤ (ji37) then (if (ji37) ≤ ((rd_L1 l0 x69_3).length : Int) then ((line_sum.f k3 (((rd_L1 l0 x69_3).take ((ji37) : Int).toNat).drop ((mn (ji36) (ji37)) : Int).toNat)).bind fun t1361 => (if t1361 ≥ a1_2 then ((line_sum.f k3 (rd_L1 l0 x69_3)).bind fun t1362 => (if (wrap64 (100 * t1361)) ≥ (wrap64 (a1_3 * t1362)) then (if x12_3.length < 17592186044416 then (line_HardIn.l1 k3 (x12_3 ++ [x69_3]) l0 (l0.length : Int) (wrap64 (x69_3 + 1)) a1_0 a1_1 a1_2 a1_3) else (none)) else (line_HardIn.l1 k3 x12_3 l0 (l0.length : Int) (wrap64 (x69_3 + 1)) a1_0 a1_1 a1_2 a1_3))) else (line_HardIn.l1 k3 x12_3 l0 (l0.length : Int) (wrap64 (x69_3 + 1)) a1_0 a1_1 a1_2 a1_3))) else (none)) else (none)) else (none)) = some (r1, r2) := by first | (rw [hji37] at H; exact H) | (simp only [hji37] at H ⊢; exact H)
                          have hji37_ : (if (wrap64 ((wrap64 (a1_0 + a1_1)) + 1)) < ((rd_L1 l0 x69_3).length : Int) then (wrap64 ((wrap64 (a1_0 + a1_1)) + 1)) else ((rd_L1 l0 x69_3).length : Int)) = ji37 := hji37
                          obtain ⟨ji38, hji38⟩ : ∃ j_ : Int, (mn (ji36) (ji37)) = j_ := ⟨_, rfl⟩
                          replace H : (if 0 ≤ (ji38) then (if (ji38) ≤ (ji37) then (if (ji37) ≤ ((rd_L1 l0 x69_3).length : Int) then ((line_sum.f k3 (((rd_L1 l0 x69_3).take ((ji37) : Int).toNat).drop ((ji38) : Int).toNat)).bind fun t1361 => (if t1361 ≥ a1_2 then ((line_sum.f k3 (rd_L1 l0 x69_3)).bind fun t1362 => (if (wrap64 (100 * t1361)) ≥ (wrap64 (a1_3 * t1362)) then (if x12_3.length < 17592186044416 then (line_HardIn.l1 k3 (x12_3 ++ [x69_3]) l0 (l0.length : Int) (wrap64 (x69_3 + 1)) a1_0 a1_1 a1_2 a1_3) else (none)) else (line_HardIn.l1 k3 x12_3 l0 (l0.length : Int) (wrap64 (x69_3 + 1)) a1_0 a1_1 a1_2 a1_3))) else (line_HardIn.l1 k3 x12_3 l0 (l0.length : Int) (wrap64 (x69_3 + 1)) a1_0 a1_1 a1_2 a1_3))) else (none)) else (none)) else (none)) = some (r1, r2) := by first | (rw [hji38] at H; exact H) | (simp only [hji38] at H ⊢; exact H)
                          have hji38_ : (if (ji37) < (ji36) then (ji37) else (ji36)) = ji38 := hji38
                          by_cases c39 : 0 ≤ (ji38)
                          · rw [if_pos c39] at H
                            have c39b0 := eq_true c39
                            have c39b1 := decide_eq_true c39
                            clear c39
                            by_cases c40 : (ji38) ≤ (ji37)
                            · rw [if_pos c40] at H
                              have c40b0 := eq_true c40
                              have c40b1 := decide_eq_true c40
                              clear c40
                              by_cases c41 : (ji37) ≤ ((rd_L1 l0 x69_3).length : Int)
                              · rw [if_pos c41] at H
                                have c41b0 := eq_true c41
                                have c41b1 := decide_eq_true c41
                                clear c41
                                replace H := ob H
                                obtain ⟨t1361, A420, H⟩ := H
                                (try dsimp only at H)
                                have A42 := m0 A420
                                clear A420
                                by_cases c43 : t1361 ≥ a1_2
                                · rw [if_pos c43] at H
                                  have c43b0 := decide_eq_true c43
                                  clear c43
                                  replace H := ob H
                                  obtain ⟨t1362, A440, H⟩ := H
                                  (try dsimp only at H)
                                  have A44 := m0 A440
                                  clear A440
                                  by_cases c45 : (wrap64 (100 * t1361)) ≥ (wrap64 (a1_3 * t1362))
                                  · rw [if_pos c45] at H
                                    have c45b0 := decide_eq_true c45
                                    clear c45
                                    by_cases c46 : x12_3.length < 17592186044416
                                    · rw [if_pos c46] at H
                                      have LMc46 := m0 c46
                                      clear c46
                                      obtain ⟨y1363, hy1363⟩ : ∃ y_ : List Int, y_ = (x12_3 ++ [x69_3]) := ⟨_, rfl⟩
                                      replace H : (line_HardIn.l1 k3 y1363 l0 (l0.length : Int) (wrap64 (x69_3 + 1)) a1_0 a1_1 a1_2 a1_3) = some (r1, r2) := by first | (rw [hy1363]; with_reducible exact H) | (have H2_ := (Option.bind_some _ _).symm.trans H; rw [hy1363]; with_reducible exact H2_) | (have H2_ := (Option.bind_some _ _).symm.trans H; with_reducible exact H2_) | with_reducible exact H | (rw [hy1363]; exact H) | exact H
                                      have Ny1363 := m0 hy1363
                                      clear hy1363
                                      have H' := m0 H
                                      clear H
                                      have p1359 : 0 ≤ (x69_3 : Int) := of_decide_eq_true (by first | (with_reducible assumption) | assumption)
                                      have q1359 : x69_3 < (l0.length : Int) := of_decide_eq_true (by first | (with_reducible assumption) | assumption)
                                      obtain ⟨ad1359, A1359_0, c1359_0, e1359, hx1359_0, hl1359_0, hi1359_0⟩ := at_L1 HR0.out x69_3 p1359 q1359
                                      cases e1359
                                      replace hx1359_0 := (HB.out.cell (World.block_lt_of_cell? w _ hx1359_0)).trans hx1359_0
                                      have HR1359_0 := m0 hi1359_0
                                      have HC1359_0 := m0 hl1359_0
                                      clear hi1359_0 hl1359_0
                                      replace p1359 := eq_true p1359
                                      replace q1359 := eq_true q1359
                                      obtain ⟨_, _, _, _, _, _, _, _⟩ := b4 BK1339
                                      obtain ⟨i048, hi048, _, hsz48, _⟩ := info_parts info3
                                      obtain ⟨A48, hcut48, hA48, hC48⟩ := print_mid_of (P := Tryd.prog) (Value.int .i64) 0 22 3 .i64 .i64 Tryd.underlying22 hi048 hsz48 A1359_0 c1359_0 (rd_L1 l0 x69_3) (ji38) (ji37) (of_decide_eq_true (by first | (with_reducible assumption) | assumption)) (by first | omega | exact of_decide_eq_true (by first | (with_reducible assumption) | assumption)) (of_decide_eq_true (by first | (with_reducible assumption) | assumption)) HC1359_0.out
                                      have HR1360 := m0 (Kd.C_of_reads (h1 := fun _ => rfl) (hA48 _ (Kd.reads_of_C HR1359_0.out)))
                                      have HC1360 := m0 hC48
                                      clear hA48 hC48 hi048 hsz48
                                      go_wp2_with (first | (go_at_call 125; refine calls_of_args (args' := #[.slice A48 (((rd_L1 l0 x69_3).take ((ji37) : Int).toNat).drop ((ji38) : Int).toNat).length (c1359_0 - (ji38).toNat)]) (by first | (rw [show (((rd_L1 l0 x69_3).take ((ji37) : Int).toNat).drop ((ji38) : Int).toNat).length = ((ji37).toNat - (ji38).toNat) from (by rw [List.length_drop, List.length_take]; have h_ : ((ji37) : Int) ≤ ((rd_L1 l0 x69_3).length : Int) := of_decide_eq_true (by first | (with_reducible assumption) | assumption); omega)] <;> rfl) | rfl) ?_; (with_reducible refine (line_sum.calls k3 _ _ (((rd_L1 l0 x69_3).take ((ji37) : Int).toNat).drop ((ji38) : Int).toNat) t1361 _ ?side1 ?side2 A42.out).mono ?_); (case side1 => exact cb HR1360 HB); (case side2 => exact HC1360.out); rintro e w' ⟨rfl, ⟨nd, rfl⟩⟩; (try first | exact ⟨rfl, _, World.drewN_drewN _ _ _⟩ | exact ⟨rfl, _, Eq.trans (World.drewN_drewN _ _ _) (congrArg (World.drewN _) (Nat.add_assoc _ _ _))⟩)) | (go_at_call 125; (with_reducible refine (line_sum.calls k3 _ _ (rd_L1 l0 x69_3) t1362 _ ?side1 ?side2 A44.out).mono ?_); (case side1 => repeat (first | exact (Kd.C_below HR1359_0.out bz) | (with_reducible refine Kd.C_alloc ?_ _) | (with_reducible refine Kd.C_drewN ?_ _) | (with_reducible refine Kd.C_drew ?_))); (case side2 => exact HC1359_0.out); rintro e w' ⟨rfl, ⟨nd, rfl⟩⟩; (try first | exact ⟨rfl, _, World.drewN_drewN _ _ _⟩ | exact ⟨rfl, _, Eq.trans (World.drewN_drewN _ _ _) (congrArg (World.drewN _) (Nat.add_assoc _ _ _))⟩)) | ((with_reducible refine gate_builtin (b := .append) (xs := #[.tmp 110, .tmp 112]) rfl ?_); at_builtin; refine Kd.R_append (Kd.int .i64) (w0 := w) w.heap.size rfl (.tmp 110) (.tmp 112) 22 3 (.int .i64 0) 8 rfl Tryd.underlying22 info3 rfl (by decide) (by omega) u12 x12_3 x69_3 [.int .i64 x69_3] (fun _ => True) (fun _ => False) rfl rfl ?aP (fun _ hk => hk.elim) ?aF ?aO ?aB ?aS ?aL ?_; (case aP => exact rfl); (case aB => exact bz); (case aF => exact (fun _ _ => trivial)); (case aO => exact (br HO_12.out)); (case aS => exact (below_size bz)); (case aL => have := LMc46.out; omega); intro v1364 w49 ho hb hg hat; rw [← Ny1363.out] at ho; have n0_ := m0 (blk_grown (g := gb1339) (o := .cells #[.int .i64 a1_0, .int .i64 a1_1, .int .i64 a1_2, .int .i64 a1_3] 94 (0, 0)) (bk BK1339.out) hg (Kd.R_ne HO_12.out BK1339.out (by decide))); have n1_ := m0 (hb); have n2_ := m0 (ho); clear BK1339; clear HB; clear HO_12; have BK1339 := n0_; have HB := n1_; have HO1365 := n2_; clear n0_ n1_ n2_; clear ho hb hg hat))
                                      repeat (go_quiet (first | (go_at_call 125; refine calls_of_args (args' := #[.slice A48 (((rd_L1 l0 x69_3).take ((ji37) : Int).toNat).drop ((ji38) : Int).toNat).length (c1359_0 - (ji38).toNat)]) (by first | (rw [show (((rd_L1 l0 x69_3).take ((ji37) : Int).toNat).drop ((ji38) : Int).toNat).length = ((ji37).toNat - (ji38).toNat) from (by rw [List.length_drop, List.length_take]; have h_ : ((ji37) : Int) ≤ ((rd_L1 l0 x69_3).length : Int) := of_decide_eq_true (by first | (with_reducible assumption) | assumption); omega)] <;> rfl) | rfl) ?_; (with_reducible refine (line_sum.calls k3 _ _ (((rd_L1 l0 x69_3).take ((ji37) : Int).toNat).drop ((ji38) : Int).toNat) t1361 _ ?side1 ?side2 A42.out).mono ?_); (case side1 => exact cb HR1360 HB); (case side2 => exact HC1360.out); rintro e w' ⟨rfl, ⟨nd, rfl⟩⟩; (try first | exact ⟨rfl, _, World.drewN_drewN _ _ _⟩ | exact ⟨rfl, _, Eq.trans (World.drewN_drewN _ _ _) (congrArg (World.drewN _) (Nat.add_assoc _ _ _))⟩)) | (go_at_call 125; (with_reducible refine (line_sum.calls k3 _ _ (rd_L1 l0 x69_3) t1362 _ ?side1 ?side2 A44.out).mono ?_); (case side1 => repeat (first | exact (Kd.C_below HR1359_0.out bz) | (with_reducible refine Kd.C_alloc ?_ _) | (with_reducible refine Kd.C_drewN ?_ _) | (with_reducible refine Kd.C_drew ?_))); (case side2 => exact HC1359_0.out); rintro e w' ⟨rfl, ⟨nd, rfl⟩⟩; (try first | exact ⟨rfl, _, World.drewN_drewN _ _ _⟩ | exact ⟨rfl, _, Eq.trans (World.drewN_drewN _ _ _) (congrArg (World.drewN _) (Nat.add_assoc _ _ _))⟩)) | ((with_reducible refine gate_builtin (b := .append) (xs := #[.tmp 110, .tmp 112]) rfl ?_); at_builtin; refine Kd.R_append (Kd.int .i64) (w0 := w) w.heap.size rfl (.tmp 110) (.tmp 112) 22 3 (.int .i64 0) 8 rfl Tryd.underlying22 info3 rfl (by decide) (by omega) u12 x12_3 x69_3 [.int .i64 x69_3] (fun _ => True) (fun _ => False) rfl rfl ?aP (fun _ hk => hk.elim) ?aF ?aO ?aB ?aS ?aL ?_; (case aP => exact rfl); (case aB => exact bz); (case aF => exact (fun _ _ => trivial)); (case aO => exact (br HO_12.out)); (case aS => exact (below_size bz)); (case aL => have := LMc46.out; omega); intro v1364 w49 ho hb hg hat; rw [← Ny1363.out] at ho; have n0_ := m0 (blk_grown (g := gb1339) (o := .cells #[.int .i64 a1_0, .int .i64 a1_1, .int .i64 a1_2, .int .i64 a1_3] 94 (0, 0)) (bk BK1339.out) hg (Kd.R_ne HO_12.out BK1339.out (by decide))); have n1_ := m0 (hb); have n2_ := m0 (ho); clear BK1339; clear HB; clear HO_12; have BK1339 := n0_; have HB := n1_; have HO1365 := n2_; clear n0_ n1_ n2_; clear ho hb hg hat)); try go_wp2_with (first | (go_at_call 125; refine calls_of_args (args' := #[.slice A48 (((rd_L1 l0 x69_3).take ((ji37) : Int).toNat).drop ((ji38) : Int).toNat).length (c1359_0 - (ji38).toNat)]) (by first | (rw [show (((rd_L1 l0 x69_3).take ((ji37) : Int).toNat).drop ((ji38) : Int).toNat).length = ((ji37).toNat - (ji38).toNat) from (by rw [List.length_drop, List.length_take]; have h_ : ((ji37) : Int) ≤ ((rd_L1 l0 x69_3).length : Int) := of_decide_eq_true (by first | (with_reducible assumption) | assumption); omega)] <;> rfl) | rfl) ?_; (with_reducible refine (line_sum.calls k3 _ _ (((rd_L1 l0 x69_3).take ((ji37) : Int).toNat).drop ((ji38) : Int).toNat) t1361 _ ?side1 ?side2 A42.out).mono ?_); (case side1 => exact cb HR1360 HB); (case side2 => exact HC1360.out); rintro e w' ⟨rfl, ⟨nd, rfl⟩⟩; (try first | exact ⟨rfl, _, World.drewN_drewN _ _ _⟩ | exact ⟨rfl, _, Eq.trans (World.drewN_drewN _ _ _) (congrArg (World.drewN _) (Nat.add_assoc _ _ _))⟩)) | (go_at_call 125; (with_reducible refine (line_sum.calls k3 _ _ (rd_L1 l0 x69_3) t1362 _ ?side1 ?side2 A44.out).mono ?_); (case side1 => repeat (first | exact (Kd.C_below HR1359_0.out bz) | (with_reducible refine Kd.C_alloc ?_ _) | (with_reducible refine Kd.C_drewN ?_ _) | (with_reducible refine Kd.C_drew ?_))); (case side2 => exact HC1359_0.out); rintro e w' ⟨rfl, ⟨nd, rfl⟩⟩; (try first | exact ⟨rfl, _, World.drewN_drewN _ _ _⟩ | exact ⟨rfl, _, Eq.trans (World.drewN_drewN _ _ _) (congrArg (World.drewN _) (Nat.add_assoc _ _ _))⟩)) | ((with_reducible refine gate_builtin (b := .append) (xs := #[.tmp 110, .tmp 112]) rfl ?_); at_builtin; refine Kd.R_append (Kd.int .i64) (w0 := w) w.heap.size rfl (.tmp 110) (.tmp 112) 22 3 (.int .i64 0) 8 rfl Tryd.underlying22 info3 rfl (by decide) (by omega) u12 x12_3 x69_3 [.int .i64 x69_3] (fun _ => True) (fun _ => False) rfl rfl ?aP (fun _ hk => hk.elim) ?aF ?aO ?aB ?aS ?aL ?_; (case aP => exact rfl); (case aB => exact bz); (case aF => exact (fun _ _ => trivial)); (case aO => exact (br HO_12.out)); (case aS => exact (below_size bz)); (case aL => have := LMc46.out; omega); intro v1364 w49 ho hb hg hat; rw [← Ny1363.out] at ho; have n0_ := m0 (blk_grown (g := gb1339) (o := .cells #[.int .i64 a1_0, .int .i64 a1_1, .int .i64 a1_2, .int .i64 a1_3] 94 (0, 0)) (bk BK1339.out) hg (Kd.R_ne HO_12.out BK1339.out (by decide))); have n1_ := m0 (hb); have n2_ := m0 (ho); clear BK1339; clear HB; clear HO_12; have BK1339 := n0_; have HB := n1_; have HO1365 := n2_; clear n0_ n1_ n2_; clear ho hb hg hat)))
                                      go_roundg k3
                                      case measure => have := HK1.out; have := HJ14.out; have := HK3.out; omega
                                      case rel => exact ⟨(y1363), (wrap64 (x69_3 + 1)), (by first | rfl | (simp; done) | (simp [*]; done)), H', ⟨by have := HK1.out; have := HJ14.out; have := HK3.out; omega⟩, ⟨br HO1365.out⟩, ⟨bk BK1339.out⟩, ⟨bz⟩⟩
                                    · rw [if_neg c46] at H
                                      exact absurd H (by simp)
                                  · rw [if_neg c45] at H
                                    have c45b0 := decide_eq_false c45
                                    clear c45
                                    have H' := m0 H
                                    clear H
                                    have p1359 : 0 ≤ (x69_3 : Int) := of_decide_eq_true (by first | (with_reducible assumption) | assumption)
                                    have q1359 : x69_3 < (l0.length : Int) := of_decide_eq_true (by first | (with_reducible assumption) | assumption)
                                    obtain ⟨ad1359, A1359_0, c1359_0, e1359, hx1359_0, hl1359_0, hi1359_0⟩ := at_L1 HR0.out x69_3 p1359 q1359
                                    cases e1359
                                    replace hx1359_0 := (HB.out.cell (World.block_lt_of_cell? w _ hx1359_0)).trans hx1359_0
                                    have HR1359_0 := m0 hi1359_0
                                    have HC1359_0 := m0 hl1359_0
                                    clear hi1359_0 hl1359_0
                                    replace p1359 := eq_true p1359
                                    replace q1359 := eq_true q1359
                                    obtain ⟨_, _, _, _, _, _, _, _⟩ := b4 BK1339
                                    obtain ⟨i051, hi051, _, hsz51, _⟩ := info_parts info3
                                    obtain ⟨A51, hcut51, hA51, hC51⟩ := print_mid_of (P := Tryd.prog) (Value.int .i64) 0 22 3 .i64 .i64 Tryd.underlying22 hi051 hsz51 A1359_0 c1359_0 (rd_L1 l0 x69_3) (ji38) (ji37) (of_decide_eq_true (by first | (with_reducible assumption) | assumption)) (by first | omega | exact of_decide_eq_true (by first | (with_reducible assumption) | assumption)) (of_decide_eq_true (by first | (with_reducible assumption) | assumption)) HC1359_0.out
                                    have HR1360 := m0 (Kd.C_of_reads (h1 := fun _ => rfl) (hA51 _ (Kd.reads_of_C HR1359_0.out)))
                                    have HC1360 := m0 hC51
                                    clear hA51 hC51 hi051 hsz51
                                    go_wp2_with (first | (go_at_call 125; refine calls_of_args (args' := #[.slice A51 (((rd_L1 l0 x69_3).take ((ji37) : Int).toNat).drop ((ji38) : Int).toNat).length (c1359_0 - (ji38).toNat)]) (by first | (rw [show (((rd_L1 l0 x69_3).take ((ji37) : Int).toNat).drop ((ji38) : Int).toNat).length = ((ji37).toNat - (ji38).toNat) from (by rw [List.length_drop, List.length_take]; have h_ : ((ji37) : Int) ≤ ((rd_L1 l0 x69_3).length : Int) := of_decide_eq_true (by first | (with_reducible assumption) | assumption); omega)] <;> rfl) | rfl) ?_; (with_reducible refine (line_sum.calls k3 _ _ (((rd_L1 l0 x69_3).take ((ji37) : Int).toNat).drop ((ji38) : Int).toNat) t1361 _ ?side1 ?side2 A42.out).mono ?_); (case side1 => exact cb HR1360 HB); (case side2 => exact HC1360.out); rintro e w' ⟨rfl, ⟨nd, rfl⟩⟩; (try first | exact ⟨rfl, _, World.drewN_drewN _ _ _⟩ | exact ⟨rfl, _, Eq.trans (World.drewN_drewN _ _ _) (congrArg (World.drewN _) (Nat.add_assoc _ _ _))⟩)) | (go_at_call 125; (with_reducible refine (line_sum.calls k3 _ _ (rd_L1 l0 x69_3) t1362 _ ?side1 ?side2 A44.out).mono ?_); (case side1 => repeat (first | exact (Kd.C_below HR1359_0.out bz) | (with_reducible refine Kd.C_alloc ?_ _) | (with_reducible refine Kd.C_drewN ?_ _) | (with_reducible refine Kd.C_drew ?_))); (case side2 => exact HC1359_0.out); rintro e w' ⟨rfl, ⟨nd, rfl⟩⟩; (try first | exact ⟨rfl, _, World.drewN_drewN _ _ _⟩ | exact ⟨rfl, _, Eq.trans (World.drewN_drewN _ _ _) (congrArg (World.drewN _) (Nat.add_assoc _ _ _))⟩)))
                                    repeat (go_quiet (first | (go_at_call 125; refine calls_of_args (args' := #[.slice A51 (((rd_L1 l0 x69_3).take ((ji37) : Int).toNat).drop ((ji38) : Int).toNat).length (c1359_0 - (ji38).toNat)]) (by first | (rw [show (((rd_L1 l0 x69_3).take ((ji37) : Int).toNat).drop ((ji38) : Int).toNat).length = ((ji37).toNat - (ji38).toNat) from (by rw [List.length_drop, List.length_take]; have h_ : ((ji37) : Int) ≤ ((rd_L1 l0 x69_3).length : Int) := of_decide_eq_true (by first | (with_reducible assumption) | assumption); omega)] <;> rfl) | rfl) ?_; (with_reducible refine (line_sum.calls k3 _ _ (((rd_L1 l0 x69_3).take ((ji37) : Int).toNat).drop ((ji38) : Int).toNat) t1361 _ ?side1 ?side2 A42.out).mono ?_); (case side1 => exact cb HR1360 HB); (case side2 => exact HC1360.out); rintro e w' ⟨rfl, ⟨nd, rfl⟩⟩; (try first | exact ⟨rfl, _, World.drewN_drewN _ _ _⟩ | exact ⟨rfl, _, Eq.trans (World.drewN_drewN _ _ _) (congrArg (World.drewN _) (Nat.add_assoc _ _ _))⟩)) | (go_at_call 125; (with_reducible refine (line_sum.calls k3 _ _ (rd_L1 l0 x69_3) t1362 _ ?side1 ?side2 A44.out).mono ?_); (case side1 => repeat (first | exact (Kd.C_below HR1359_0.out bz) | (with_reducible refine Kd.C_alloc ?_ _) | (with_reducible refine Kd.C_drewN ?_ _) | (with_reducible refine Kd.C_drew ?_))); (case side2 => exact HC1359_0.out); rintro e w' ⟨rfl, ⟨nd, rfl⟩⟩; (try first | exact ⟨rfl, _, World.drewN_drewN _ _ _⟩ | exact ⟨rfl, _, Eq.trans (World.drewN_drewN _ _ _) (congrArg (World.drewN _) (Nat.add_assoc _ _ _))⟩))); try go_wp2_with (first | (go_at_call 125; refine calls_of_args (args' := #[.slice A51 (((rd_L1 l0 x69_3).take ((ji37) : Int).toNat).drop ((ji38) : Int).toNat).length (c1359_0 - (ji38).toNat)]) (by first | (rw [show (((rd_L1 l0 x69_3).take ((ji37) : Int).toNat).drop ((ji38) : Int).toNat).length = ((ji37).toNat - (ji38).toNat) from (by rw [List.length_drop, List.length_take]; have h_ : ((ji37) : Int) ≤ ((rd_L1 l0 x69_3).length : Int) := of_decide_eq_true (by first | (with_reducible assumption) | assumption); omega)] <;> rfl) | rfl) ?_; (with_reducible refine (line_sum.calls k3 _ _ (((rd_L1 l0 x69_3).take ((ji37) : Int).toNat).drop ((ji38) : Int).toNat) t1361 _ ?side1 ?side2 A42.out).mono ?_); (case side1 => exact cb HR1360 HB); (case side2 => exact HC1360.out); rintro e w' ⟨rfl, ⟨nd, rfl⟩⟩; (try first | exact ⟨rfl, _, World.drewN_drewN _ _ _⟩ | exact ⟨rfl, _, Eq.trans (World.drewN_drewN _ _ _) (congrArg (World.drewN _) (Nat.add_assoc _ _ _))⟩)) | (go_at_call 125; (with_reducible refine (line_sum.calls k3 _ _ (rd_L1 l0 x69_3) t1362 _ ?side1 ?side2 A44.out).mono ?_); (case side1 => repeat (first | exact (Kd.C_below HR1359_0.out bz) | (with_reducible refine Kd.C_alloc ?_ _) | (with_reducible refine Kd.C_drewN ?_ _) | (with_reducible refine Kd.C_drew ?_))); (case side2 => exact HC1359_0.out); rintro e w' ⟨rfl, ⟨nd, rfl⟩⟩; (try first | exact ⟨rfl, _, World.drewN_drewN _ _ _⟩ | exact ⟨rfl, _, Eq.trans (World.drewN_drewN _ _ _) (congrArg (World.drewN _) (Nat.add_assoc _ _ _))⟩))))
                                    go_roundg k3
                                    case measure => have := HK1.out; have := HJ14.out; have := HK3.out; omega
                                    case rel => exact ⟨(x12_3), (wrap64 (x69_3 + 1)), (by first | rfl | (simp; done) | (simp [*]; done)), H', ⟨by have := HK1.out; have := HJ14.out; have := HK3.out; omega⟩, ⟨br HO_12.out⟩, ⟨bk BK1339.out⟩, ⟨bz⟩⟩
                                · rw [if_neg c43] at H
                                  have c43b0 := decide_eq_false c43
                                  clear c43
                                  have H' := m0 H
                                  clear H
                                  have p1359 : 0 ≤ (x69_3 : Int) := of_decide_eq_true (by first | (with_reducible assumption) | assumption)
                                  have q1359 : x69_3 < (l0.length : Int) := of_decide_eq_true (by first | (with_reducible assumption) | assumption)
                                  obtain ⟨ad1359, A1359_0, c1359_0, e1359, hx1359_0, hl1359_0, hi1359_0⟩ := at_L1 HR0.out x69_3 p1359 q1359
                                  cases e1359
                                  replace hx1359_0 := (HB.out.cell (World.block_lt_of_cell? w _ hx1359_0)).trans hx1359_0
                                  have HR1359_0 := m0 hi1359_0
                                  have HC1359_0 := m0 hl1359_0
                                  clear hi1359_0 hl1359_0
                                  replace p1359 := eq_true p1359
                                  replace q1359 := eq_true q1359
                                  obtain ⟨_, _, _, _, _, _, _, _⟩ := b4 BK1339
                                  obtain ⟨i053, hi053, _, hsz53, _⟩ := info_parts info3
                                  obtain ⟨A53, hcut53, hA53, hC53⟩ := print_mid_of (P := Tryd.prog) (Value.int .i64) 0 22 3 .i64 .i64 Tryd.underlying22 hi053 hsz53 A1359_0 c1359_0 (rd_L1 l0 x69_3) (ji38) (ji37) (of_decide_eq_true (by first | (with_reducible assumption) | assumption)) (by first | omega | exact of_decide_eq_true (by first | (with_reducible assumption) | assumption)) (of_decide_eq_true (by first | (with_reducible assumption) | assumption)) HC1359_0.out
                                  have HR1360 := m0 (Kd.C_of_reads (h1 := fun _ => rfl) (hA53 _ (Kd.reads_of_C HR1359_0.out)))
                                  have HC1360 := m0 hC53
                                  clear hA53 hC53 hi053 hsz53
                                  go_wp2_with (first | (go_at_call 125; refine calls_of_args (args' := #[.slice A53 (((rd_L1 l0 x69_3).take ((ji37) : Int).toNat).drop ((ji38) : Int).toNat).length (c1359_0 - (ji38).toNat)]) (by first | (rw [show (((rd_L1 l0 x69_3).take ((ji37) : Int).toNat).drop ((ji38) : Int).toNat).length = ((ji37).toNat - (ji38).toNat) from (by rw [List.length_drop, List.length_take]; have h_ : ((ji37) : Int) ≤ ((rd_L1 l0 x69_3).length : Int) := of_decide_eq_true (by first | (with_reducible assumption) | assumption); omega)] <;> rfl) | rfl) ?_; (with_reducible refine (line_sum.calls k3 _ _ (((rd_L1 l0 x69_3).take ((ji37) : Int).toNat).drop ((ji38) : Int).toNat) t1361 _ ?side1 ?side2 A42.out).mono ?_); (case side1 => exact cb HR1360 HB); (case side2 => exact HC1360.out); rintro e w' ⟨rfl, ⟨nd, rfl⟩⟩; (try first | exact ⟨rfl, _, World.drewN_drewN _ _ _⟩ | exact ⟨rfl, _, Eq.trans (World.drewN_drewN _ _ _) (congrArg (World.drewN _) (Nat.add_assoc _ _ _))⟩)))
                                  repeat (go_quiet (first | (go_at_call 125; refine calls_of_args (args' := #[.slice A53 (((rd_L1 l0 x69_3).take ((ji37) : Int).toNat).drop ((ji38) : Int).toNat).length (c1359_0 - (ji38).toNat)]) (by first | (rw [show (((rd_L1 l0 x69_3).take ((ji37) : Int).toNat).drop ((ji38) : Int).toNat).length = ((ji37).toNat - (ji38).toNat) from (by rw [List.length_drop, List.length_take]; have h_ : ((ji37) : Int) ≤ ((rd_L1 l0 x69_3).length : Int) := of_decide_eq_true (by first | (with_reducible assumption) | assumption); omega)] <;> rfl) | rfl) ?_; (with_reducible refine (line_sum.calls k3 _ _ (((rd_L1 l0 x69_3).take ((ji37) : Int).toNat).drop ((ji38) : Int).toNat) t1361 _ ?side1 ?side2 A42.out).mono ?_); (case side1 => exact cb HR1360 HB); (case side2 => exact HC1360.out); rintro e w' ⟨rfl, ⟨nd, rfl⟩⟩; (try first | exact ⟨rfl, _, World.drewN_drewN _ _ _⟩ | exact ⟨rfl, _, Eq.trans (World.drewN_drewN _ _ _) (congrArg (World.drewN _) (Nat.add_assoc _ _ _))⟩))); try go_wp2_with (first | (go_at_call 125; refine calls_of_args (args' := #[.slice A53 (((rd_L1 l0 x69_3).take ((ji37) : Int).toNat).drop ((ji38) : Int).toNat).length (c1359_0 - (ji38).toNat)]) (by first | (rw [show (((rd_L1 l0 x69_3).take ((ji37) : Int).toNat).drop ((ji38) : Int).toNat).length = ((ji37).toNat - (ji38).toNat) from (by rw [List.length_drop, List.length_take]; have h_ : ((ji37) : Int) ≤ ((rd_L1 l0 x69_3).length : Int) := of_decide_eq_true (by first | (with_reducible assumption) | assumption); omega)] <;> rfl) | rfl) ?_; (with_reducible refine (line_sum.calls k3 _ _ (((rd_L1 l0 x69_3).take ((ji37) : Int).toNat).drop ((ji38) : Int).toNat) t1361 _ ?side1 ?side2 A42.out).mono ?_); (case side1 => exact cb HR1360 HB); (case side2 => exact HC1360.out); rintro e w' ⟨rfl, ⟨nd, rfl⟩⟩; (try first | exact ⟨rfl, _, World.drewN_drewN _ _ _⟩ | exact ⟨rfl, _, Eq.trans (World.drewN_drewN _ _ _) (congrArg (World.drewN _) (Nat.add_assoc _ _ _))⟩))))
                                  go_roundg k3
                                  case measure => have := HK1.out; have := HJ14.out; have := HK3.out; omega
                                  case rel => exact ⟨(x12_3), (wrap64 (x69_3 + 1)), (by first | rfl | (simp; done) | (simp [*]; done)), H', ⟨by have := HK1.out; have := HJ14.out; have := HK3.out; omega⟩, ⟨br HO_12.out⟩, ⟨bk BK1339.out⟩, ⟨bz⟩⟩
                              · rw [if_neg c41] at H
                                exact absurd H (by simp)
                            · rw [if_neg c40] at H
                              exact absurd H (by simp)
                          · rw [if_neg c39] at H
                            exact absurd H (by simp)
                        · rw [if_neg c35] at H
                          exact absurd H (by simp)
                      · rw [if_neg c34] at H
                        exact absurd H (by simp)
                    · rw [if_neg c33] at H
                      have c33b0 := decide_eq_false c33
                      clear c33
                      simp only [Option.some.injEq, Prod.mk.injEq] at H
                      obtain ⟨rfl, rfl⟩ := H
                      go_wp2
                      repeat (go_quiet (fail); try go_wp2)
                      go_ret2
                      exact ⟨_, by first | rfl | (simp [errW_none, errW_some] <;> rfl) | (simp [*, errW_none, errW_some] <;> rfl), by (with_reducible repeat (first | apply Kd.R_alloc | apply Kd.R_drewN | apply Kd.R_drew)); exact HO_12.out, by repeat (first | (with_reducible first | exact HB.out | apply below_alloc | apply pw_below_drewN | apply below_drew1 | refine below_set ?_ GE1339.out) | exact HB.out)⟩
              · rw [if_neg c29] at H
                have c29b0 := beq_eq_false_iff_ne.mpr c29
                have c29b1 := bne_iff_ne.mpr c29
                simp only [Option.some.injEq, Prod.mk.injEq] at H
                obtain ⟨rfl, rfl⟩ := H
                go_wp2_with (first | (go_at_call 93; (with_reducible refine (line_unless.calls x11_14 2 t1354 _ A27.out).mono ?_); rintro e w' ⟨rfl, ⟨nd, rfl⟩⟩; (try first | exact ⟨rfl, _, World.drewN_drewN _ _ _⟩ | exact ⟨rfl, _, Eq.trans (World.drewN_drewN _ _ _) (congrArg (World.drewN _) (Nat.add_assoc _ _ _))⟩)) | ((with_reducible refine gate_dst (N := 62) rfl ?_); refine Kd.R_lit (Kd.int .i64) _ 31 ?hg (N := 62) ?hd (xs := ([x6_1, t1354] : List Int)) (inner := [.int .i64 x6_1, .int .i64 t1354]) (ok := fun _ => True) (okp := fun _ => True) ?hr ?hp (fun _ hk => hk) trivial (Below.refl _ _) (Nat.le_refl _) (by simp) ?_; (case hd => rfl); (case hg => rfl); (case hr => first | (go_simp; done) | (go_simp; rfl)); (case hp => exact (Reps.one (show Kd.M (Kd.int .i64) _ _ _ x6_1 [.int .i64 x6_1] from rfl) (Reps.one (show Kd.M (Kd.int .i64) _ _ _ t1354 [.int .i64 t1354] from rfl) (Reps.none _ _)))); intro v1356 w54 ho55 hb hg_ hnew_; clear hg_ hnew_; (first | rw [← Ny1355.out] at ho55 | (simp only [Int.reduceToNat] at ho55; rw [← Ny1355.out] at ho55)); have HO1357 := m0 (Kd.R_lower ho55 (below_size bz)); replace BK1339 := bb BK1339 hb; replace HB := sb HB hb; clear hb ho55; obtain ⟨Ao56, co56, eo56⟩ := Kd.R_slice HO1357.out; subst eo56) | (go_at_call 91; (with_reducible refine (line_first.calls kj14 _ _ y1355 t1358 _ ?side1 ?side2 A28.out).mono ?_); (case side1 => exact bc (Kd.R_reads' HO1357.out).2.2); (case side2 => exact (Kd.R_reads' HO1357.out).2.1); rintro e w' ⟨rfl, ⟨nd, rfl⟩⟩; (try first | exact ⟨rfl, _, World.drewN_drewN _ _ _⟩ | exact ⟨rfl, _, Eq.trans (World.drewN_drewN _ _ _) (congrArg (World.drewN _) (Nat.add_assoc _ _ _))⟩)))
                repeat (go_quiet (first | (go_at_call 93; (with_reducible refine (line_unless.calls x11_14 2 t1354 _ A27.out).mono ?_); rintro e w' ⟨rfl, ⟨nd, rfl⟩⟩; (try first | exact ⟨rfl, _, World.drewN_drewN _ _ _⟩ | exact ⟨rfl, _, Eq.trans (World.drewN_drewN _ _ _) (congrArg (World.drewN _) (Nat.add_assoc _ _ _))⟩)) | ((with_reducible refine gate_dst (N := 62) rfl ?_); refine Kd.R_lit (Kd.int .i64) _ 31 ?hg (N := 62) ?hd (xs := ([x6_1, t1354] : List Int)) (inner := [.int .i64 x6_1, .int .i64 t1354]) (ok := fun _ => True) (okp := fun _ => True) ?hr ?hp (fun _ hk => hk) trivial (Below.refl _ _) (Nat.le_refl _) (by simp) ?_; (case hd => rfl); (case hg => rfl); (case hr => first | (go_simp; done) | (go_simp; rfl)); (case hp => exact (Reps.one (show Kd.M (Kd.int .i64) _ _ _ x6_1 [.int .i64 x6_1] from rfl) (Reps.one (show Kd.M (Kd.int .i64) _ _ _ t1354 [.int .i64 t1354] from rfl) (Reps.none _ _)))); intro v1356 w54 ho55 hb hg_ hnew_; clear hg_ hnew_; (first | rw [← Ny1355.out] at ho55 | (simp only [Int.reduceToNat] at ho55; rw [← Ny1355.out] at ho55)); have HO1357 := m0 (Kd.R_lower ho55 (below_size bz)); replace BK1339 := bb BK1339 hb; replace HB := sb HB hb; clear hb ho55; obtain ⟨Ao56, co56, eo56⟩ := Kd.R_slice HO1357.out; subst eo56) | (go_at_call 91; (with_reducible refine (line_first.calls kj14 _ _ y1355 t1358 _ ?side1 ?side2 A28.out).mono ?_); (case side1 => exact bc (Kd.R_reads' HO1357.out).2.2); (case side2 => exact (Kd.R_reads' HO1357.out).2.1); rintro e w' ⟨rfl, ⟨nd, rfl⟩⟩; (try first | exact ⟨rfl, _, World.drewN_drewN _ _ _⟩ | exact ⟨rfl, _, Eq.trans (World.drewN_drewN _ _ _) (congrArg (World.drewN _) (Nat.add_assoc _ _ _))⟩))); try go_wp2_with (first | (go_at_call 93; (with_reducible refine (line_unless.calls x11_14 2 t1354 _ A27.out).mono ?_); rintro e w' ⟨rfl, ⟨nd, rfl⟩⟩; (try first | exact ⟨rfl, _, World.drewN_drewN _ _ _⟩ | exact ⟨rfl, _, Eq.trans (World.drewN_drewN _ _ _) (congrArg (World.drewN _) (Nat.add_assoc _ _ _))⟩)) | ((with_reducible refine gate_dst (N := 62) rfl ?_); refine Kd.R_lit (Kd.int .i64) _ 31 ?hg (N := 62) ?hd (xs := ([x6_1, t1354] : List Int)) (inner := [.int .i64 x6_1, .int .i64 t1354]) (ok := fun _ => True) (okp := fun _ => True) ?hr ?hp (fun _ hk => hk) trivial (Below.refl _ _) (Nat.le_refl _) (by simp) ?_; (case hd => rfl); (case hg => rfl); (case hr => first | (go_simp; done) | (go_simp; rfl)); (case hp => exact (Reps.one (show Kd.M (Kd.int .i64) _ _ _ x6_1 [.int .i64 x6_1] from rfl) (Reps.one (show Kd.M (Kd.int .i64) _ _ _ t1354 [.int .i64 t1354] from rfl) (Reps.none _ _)))); intro v1356 w54 ho55 hb hg_ hnew_; clear hg_ hnew_; (first | rw [← Ny1355.out] at ho55 | (simp only [Int.reduceToNat] at ho55; rw [← Ny1355.out] at ho55)); have HO1357 := m0 (Kd.R_lower ho55 (below_size bz)); replace BK1339 := bb BK1339 hb; replace HB := sb HB hb; clear hb ho55; obtain ⟨Ao56, co56, eo56⟩ := Kd.R_slice HO1357.out; subst eo56) | (go_at_call 91; (with_reducible refine (line_first.calls kj14 _ _ y1355 t1358 _ ?side1 ?side2 A28.out).mono ?_); (case side1 => exact bc (Kd.R_reads' HO1357.out).2.2); (case side2 => exact (Kd.R_reads' HO1357.out).2.1); rintro e w' ⟨rfl, ⟨nd, rfl⟩⟩; (try first | exact ⟨rfl, _, World.drewN_drewN _ _ _⟩ | exact ⟨rfl, _, Eq.trans (World.drewN_drewN _ _ _) (congrArg (World.drewN _) (Nat.add_assoc _ _ _))⟩))))
                go_ret2
                exact ⟨_, by first | rfl | (simp [errW_none, errW_some] <;> rfl) | (simp [*, errW_none, errW_some] <;> rfl), by first | exact Kd.R_nil _ _ _ _ _ | exact Kd.N_nil _ _ _ _ _ | exact Kd.V_nil _ _ _ _ _ | exact Kd.Q_nil _ _ _ _ _ | exact Kd.S_nil _ _ _ _ _, by repeat (first | (with_reducible first | exact HB.out | apply below_alloc | apply pw_below_drewN | apply below_drew1 | refine below_set ?_ GE1339.out) | exact HB.out)⟩
  · rw [if_neg c4] at H
    have c4b0 := beq_eq_false_iff_ne.mpr c4
    have c4b1 := bne_iff_ne.mpr c4
    simp only [Option.some.injEq, Prod.mk.injEq] at H
    obtain ⟨rfl, rfl⟩ := H
    go_enter Tryd.func71, Tryd.ntmps71
    go_wp2_with (first | ((with_reducible refine gate_dst (N := 3) rfl ?_); refine be 3 94 #[.int .i64 a1_0, .int .i64 a1_1, .int .i64 a1_2, .int .i64 a1_3] ?_; intro gb1339 hg w57 hbox hb; have BK1339 := m0 hbox; have GW1339 := m0 (bg (n := w.heap.size) hg); have GE1339 := m0 (bg (n := w.heap.size) hg); replace HB := sb HB hb; clear hb hbox hg) | (go_at_call 93; (with_reducible refine (line_unless.calls (decide ((l0.length : Int) ≤ 20)) 8 t1340 _ A3.out).mono ?_); rintro e w' ⟨rfl, ⟨nd, rfl⟩⟩; (try first | exact ⟨rfl, _, World.drewN_drewN _ _ _⟩ | exact ⟨rfl, _, Eq.trans (World.drewN_drewN _ _ _) (congrArg (World.drewN _) (Nat.add_assoc _ _ _))⟩)))
    repeat (go_quiet (first | ((with_reducible refine gate_dst (N := 3) rfl ?_); refine be 3 94 #[.int .i64 a1_0, .int .i64 a1_1, .int .i64 a1_2, .int .i64 a1_3] ?_; intro gb1339 hg w57 hbox hb; have BK1339 := m0 hbox; have GW1339 := m0 (bg (n := w.heap.size) hg); have GE1339 := m0 (bg (n := w.heap.size) hg); replace HB := sb HB hb; clear hb hbox hg) | (go_at_call 93; (with_reducible refine (line_unless.calls (decide ((l0.length : Int) ≤ 20)) 8 t1340 _ A3.out).mono ?_); rintro e w' ⟨rfl, ⟨nd, rfl⟩⟩; (try first | exact ⟨rfl, _, World.drewN_drewN _ _ _⟩ | exact ⟨rfl, _, Eq.trans (World.drewN_drewN _ _ _) (congrArg (World.drewN _) (Nat.add_assoc _ _ _))⟩))); try go_wp2_with (first | ((with_reducible refine gate_dst (N := 3) rfl ?_); refine be 3 94 #[.int .i64 a1_0, .int .i64 a1_1, .int .i64 a1_2, .int .i64 a1_3] ?_; intro gb1339 hg w57 hbox hb; have BK1339 := m0 hbox; have GW1339 := m0 (bg (n := w.heap.size) hg); have GE1339 := m0 (bg (n := w.heap.size) hg); replace HB := sb HB hb; clear hb hbox hg) | (go_at_call 93; (with_reducible refine (line_unless.calls (decide ((l0.length : Int) ≤ 20)) 8 t1340 _ A3.out).mono ?_); rintro e w' ⟨rfl, ⟨nd, rfl⟩⟩; (try first | exact ⟨rfl, _, World.drewN_drewN _ _ _⟩ | exact ⟨rfl, _, Eq.trans (World.drewN_drewN _ _ _) (congrArg (World.drewN _) (Nat.add_assoc _ _ _))⟩))))
    go_ret2
    exact ⟨_, by first | rfl | (simp [errW_none, errW_some] <;> rfl) | (simp [*, errW_none, errW_some] <;> rfl), by first | exact Kd.R_nil _ _ _ _ _ | exact Kd.N_nil _ _ _ _ _ | exact Kd.V_nil _ _ _ _ _ | exact Kd.Q_nil _ _ _ _ _ | exact Kd.S_nil _ _ _ _ _, by repeat (first | (with_reducible first | exact HB.out | apply below_alloc | apply pw_below_drewN | apply below_drew1 | refine below_set ?_ GE1339.out) | exact HB.out)⟩
end
section
def Bs_CopyInts.f (l0 : List Int) : Option (List Int) := (some (([] : List Int) : List Int)).bind fun y440 => (if y440.length + l0.length < 17592186044416 then (some (y440 ++ l0)) else (none))
theorem Bs_CopyInts.calls (A0 : Option Addr) (c0 : Nat) (l0 : List Int) (r : List Int) (w : World) (hr0 : Kd.C (Kd.int .i64) w A0 l0.length l0) (hc0 : l0.length ≤ c0) (h : Bs_CopyInts.f l0 = some r) :
  Calls Tryd.prog 33 #[.slice A0 l0.length c0] w fun e w' => ∃ v0_ : Value, e = .returned (v0_) ∧ Kd.R (Kd.int .i64) 3 w' w.heap.size (fun _ => True) v0_ r ∧ Below w.heap.size w w' := by
 have HR0 := m0 hr0
 have HC0 := m0 hc0
 clear hr0 hc0
 have HB := m0 (Below.refl w.heap.size w)
 have H : ((some (([] : List Int) : List Int)).bind fun y440 => (if y440.length + l0.length < 17592186044416 then (some (y440 ++ l0)) else (none))) = some r := h
 clear h
 obtain ⟨y440, hy440⟩ : ∃ y_ : List Int, y_ = (([] : List Int)) := ⟨_, rfl⟩
 replace H : (if y440.length + l0.length < 17592186044416 then (some (y440 ++ l0)) else (none)) = some r := by first | (rw [hy440]; with_reducible exact H) | (have H2_ := (Option.bind_some _ _).symm.trans H; rw [hy440]; with_reducible exact H2_) | (have H2_ := (Option.bind_some _ _).symm.trans H; with_reducible exact H2_) | with_reducible exact H | (rw [hy440]; exact H) | exact H
 have Ny440 := m0 hy440
 clear hy440
 by_cases c2 : y440.length + l0.length < 17592186044416
 ·rw [if_pos c2] at H
  have LMc2 := m0 c2
  clear c2
  obtain ⟨y443, hy443⟩ : ∃ y_ : List Int, y_ = (y440 ++ l0) := ⟨_, rfl⟩
  replace H : (some y443) = some r := by first | (rw [hy443]; with_reducible exact H) | (have H2_ := (Option.bind_some _ _).symm.trans H; rw [hy443]; with_reducible exact H2_) | (have H2_ := (Option.bind_some _ _).symm.trans H; with_reducible exact H2_) | with_reducible exact H | (rw [hy443]; exact H) | exact H
  have Ny443 := m0 hy443
  clear hy443
  obtain rfl := Option.some.inj H
  go_enter Tryd.func33, Tryd.ntmps33
  go_wp2_with (first | ((with_reducible refine gate_dst (N := 3) rfl ?_); refine Kd.R_lit (Kd.int .i64) _ 3 ?hg (N := 3) ?hd (xs := ([] : List Int)) (inner := []) (ok := fun _ => True) (okp := fun _ => True) ?hr ?hp (fun _ hk => hk) trivial (Below.refl _ _) (Nat.le_refl _) (by simp) ?_; (case hd => rfl); (case hg => rfl); (case hr => first | (go_simp; done) | (go_simp; rfl)); (case hp => exact (Reps.none _ _)); intro v441 w3 ho4 hb hg_ hnew_; clear hg_ hnew_; (first | rw [← Ny440.out] at ho4 | (simp only [Int.reduceToNat] at ho4; rw [← Ny440.out] at ho4)); have HO442 := m0 (Kd.R_lower ho4 (below_size bz)); replace HB := sb HB hb; clear hb ho4) | ((with_reducible refine gate_builtin (b := .append) (xs := #[.tmp 3, .tmp 4]) rfl ?_); at_builtin; refine Kd.R_append_rows (Kd.int .i64) (w0 := w) w.heap.size rfl (.tmp 3) (.tmp 4) 22 3 (.int .i64 0) 8 rfl Tryd.underlying22 info3 rfl (by decide) (by omega) v441 y440 l0 _ _ _ (fun _ => True) (fun _ => False) rfl rfl ?aO ?aR (fun _ _ h => h) (fun _ h => h.elim) ?aF ?aB ?aS ?aL ?_; (case aR => exact cb HR0 HB); (case aB => exact bz); (case aF => exact (fun _ _ => trivial)); (case aO => exact (br HO442.out)); (case aS => exact (below_size bz)); (case aL => have := LMc2.out; omega); intro v444 w5 ho hb hg hat; rw [← Ny443.out] at ho; have n0_ := m0 (hb); have n1_ := m0 (ho); clear HB; clear HO442; have HB := n0_; have HO445 := n1_; clear n0_ n1_; clear ho hb hg hat))
  go_ret
  exact ⟨_, by first | rfl | (simp [errW_none, errW_some] <;> rfl) | (simp [*, errW_none, errW_some] <;> rfl), by (with_reducible repeat (first | apply Kd.R_alloc | apply Kd.R_drewN | apply Kd.R_drew)); exact HO445.out, by repeat (first | (with_reducible first | exact HB.out | apply below_alloc | apply pw_below_drewN | apply below_drew1) | exact HB.out)⟩
 ·rw [if_neg c2] at H
  exact absurd H (by simp)
end
section
def Rf_CopyGates.l0 : Nat → List (List Int) → List (List Int) → Int → Option ((List (List Int)))
 | 0, _, _, _ => none
 | k + 1, x0, x3, x4 => if x4 < (x0.length : Int) then (if 0 ≤ x4 then ((Bs_CopyInts.f (rd_L1 x0 x4)).bind fun t1367 => (if x3.length < 5864062014805 then (Rf_CopyGates.l0 k x0 (x3 ++ [t1367]) (wrap64 (x4 + 1))) else (none))) else (none)) else (some x3)
def Rf_CopyGates.f (k : Nat) (l0 : List (List Int)) : Option ((List (List Int))) := Rf_CopyGates.l0 k l0 ([] : List (List Int)) 0
theorem Rf_CopyGates.mono_l : ∀ k, (∀ y0 y1 y2, LeO (Rf_CopyGates.l0 k y0 y1 y2) (Rf_CopyGates.l0 (k + 1) y0 y1 y2))
 | 0 => fun _ _ _ r h => by simp [Rf_CopyGates.l0] at h
 | k + 1 => by
  have ih0 := Rf_CopyGates.mono_l k
  ·intro y0 y1 y2
   unfold Rf_CopyGates.l0
   repeat' first
   | (with_reducible exact ih0 _ _ _)
   | (with_reducible exact LeO.refl _)
   | (with_reducible exact LeO.none _)
   | (with_reducible refine LeO.ite ?_ ?_)
   | (with_reducible refine LeO.bind ?_ (fun _ => ?_))
   | exact ih0 _ _ _
   | exact LeO.none _
   | refine LeO.ite ?_ ?_
   | refine LeO.bind ?_ (fun _ => ?_)
theorem Rf_CopyGates.mono : ∀ a0 k, LeO (Rf_CopyGates.f k a0) (Rf_CopyGates.f (k + 1) a0) := by
 intro a0 k
 have ih0 := Rf_CopyGates.mono_l k
 unfold Rf_CopyGates.f
 repeat' first
   | (with_reducible exact ih0 _ _ _)
   | (with_reducible exact LeO.refl _)
   | (with_reducible exact LeO.none _)
   | (with_reducible refine LeO.ite ?_ ?_)
   | (with_reducible refine LeO.bind ?_ (fun _ => ?_))
   | exact ih0 _ _ _
   | exact LeO.none _
   | refine LeO.ite ?_ ?_
   | refine LeO.bind ?_ (fun _ => ?_)
theorem Rf_CopyGates.calls (k : Nat) (A0 : Option Addr) (c0 : Nat) (l0 : List (List Int)) (r : List (List Int)) (w : World) (hr0 : Kd.C (Kd.slice 3 (Kd.int .i64)) w A0 l0.length l0) (hc0 : l0.length ≤ c0) (h : Rf_CopyGates.f k l0 = some r) :
  Calls Tryd.prog 72 #[.slice A0 l0.length c0] w fun e w' => ∃ v0_ : Value, e = .returned (v0_) ∧ Kd.S (Kd.slice 3 (Kd.int .i64)) 22 w' w.heap.size (fun _ => True) v0_ r ∧ Below w.heap.size w w' := by
 have HR0 := m0 hr0
 have HC0 := m0 hc0
 clear hr0 hc0
 have HB := m0 (Below.refl w.heap.size w)
 have H : (Rf_CopyGates.l0 k l0 ([] : List (List Int)) 0) = some r := h
 clear h
 have H' := m0 H
 clear H
 go_enter Tryd.func72, Tryd.ntmps72
 go_wp2
 go_loopg [3, 4] k (fun kq v3 v4 w' => ∃ (x3_1 : List (List Int)) (x4_1 : Int), v4 = .int .i64 x4_1 ∧ Aside0 (Rf_CopyGates.l0 kq l0 x3_1 x4_1 = some r) ∧ Aside0 (kq ≤ k) ∧ Aside0 (Kd.S (Kd.slice 3 (Kd.int .i64)) 22 w' w.heap.size (fun _ => True) v3 x3_1) ∧ Aside0 (Below w.heap.size w w'))
 case atStart => exact ⟨(([] : List (List Int))), (0), (by first | rfl | (simp; done) | (simp [*]; done)), H', ⟨Nat.le_refl _⟩, ⟨by first | exact Kd.S_nil _ _ _ _ _ | exact Kd.N_nil _ _ _ _ _ | exact Kd.V_nil _ _ _ _ _ | exact Kd.Q_nil _ _ _ _ _ | exact Kd.R_nil _ _ _ _ _⟩, ⟨bz⟩⟩
 case round =>
  clear H'
  obtain ⟨x3_1, x4_1, rfl, HA, HK1, HO_3, HB⟩ := hrel
  cases gk with
  | zero => exact absurd HA.out (by simp [Rf_CopyGates.l0])
  | succ k1 =>
   have H := HA.out
   clear HA
   simp only [Rf_CopyGates.l0] at H
   by_cases c2 : x4_1 < (l0.length : Int)
   ·rw [if_pos c2] at H
    have c2b0 := decide_eq_true c2
    clear c2
    by_cases c3 : 0 ≤ x4_1
    ·rw [if_pos c3] at H
     have c3b0 := decide_eq_true c3
     clear c3
     replace H := ob H
     obtain ⟨t1367, A40, H⟩ := H
     (try dsimp only at H)
     have A4 := m0 A40
     clear A40
     by_cases c5 : x3_1.length < 5864062014805
     ·rw [if_pos c5] at H
      have LMc5 := m0 c5
      clear c5
      obtain ⟨y1370, hy1370⟩ : ∃ y_ : List (List Int), y_ = (x3_1 ++ [t1367]) := ⟨_, rfl⟩
      replace H : (Rf_CopyGates.l0 k1 l0 y1370 (wrap64 (x4_1 + 1))) = some r := by first | (rw [hy1370]; with_reducible exact H) | (have H2_ := (Option.bind_some _ _).symm.trans H; rw [hy1370]; with_reducible exact H2_) | (have H2_ := (Option.bind_some _ _).symm.trans H; with_reducible exact H2_) | with_reducible exact H | (rw [hy1370]; exact H) | exact H
      have Ny1370 := m0 hy1370
      clear hy1370
      have H' := m0 H
      clear H
      have p1366 : 0 ≤ (x4_1 : Int) := of_decide_eq_true (by first | (with_reducible assumption) | assumption)
      have q1366 : x4_1 < (l0.length : Int) := of_decide_eq_true (by first | (with_reducible assumption) | assumption)
      obtain ⟨ad1366, A1366_0, c1366_0, e1366, hx1366_0, hl1366_0, hi1366_0⟩ := at_L1 HR0.out x4_1 p1366 q1366
      cases e1366
      replace hx1366_0 := (HB.out.cell (World.block_lt_of_cell? w _ hx1366_0)).trans hx1366_0
      have HR1366_0 := m0 hi1366_0
      have HC1366_0 := m0 hl1366_0
      clear hi1366_0 hl1366_0
      replace p1366 := eq_true p1366
      replace q1366 := eq_true q1366
      go_wp2_with (first | ((with_reducible refine gate_callee (f := 33) rfl ?_); refine gl (some 16) Tryd.func33 #[.slice A1366_0 (rd_L1 l0 x4_1).length c1366_0] ?_; (with_reducible refine (Bs_CopyInts.calls _ _ (rd_L1 l0 x4_1) t1367 _ ?side1 ?side2 A4.out).mono ?_); (case side1 => exact cb HR1366_0 HB); (case side2 => exact HC1366_0.out); rintro e w6 ⟨v1368, rfl, ho0, hb⟩; refine ⟨_, rfl, ?_⟩; replace HO_3 := m0 (Kd.S_elder' (by (with_reducible repeat (first | apply Kd.S_alloc | apply Kd.S_drewN | apply Kd.S_drew)); exact HO_3.out) (Kd.R_base ho0) hb); have HO1369 := m0 (Kd.R_lower ho0 (below_size bz)); replace HB := sb HB hb; (try clear hb); (try clear ho0); obtain ⟨Ao8, co8, eo8⟩ := Kd.R_slice HO1369.out; subst eo8) | ((with_reducible refine gate_builtin (b := .append) (xs := #[.tmp 11, .tmp 17]) rfl ?_); at_builtin; refine Kd.S_append (Kd.slice 3 (Kd.int .i64)) (w0 := w) w.heap.size rfl (.tmp 11) (.tmp 17) 92 22 (.slice none 0 0) 24 rfl Tryd.underlying92 info22 rfl (by decide) (by omega) u3 x3_1 t1367 [.slice Ao8 t1367.length co8] (fun _ => True) (fun k_ => some k_ = (.slice Ao8 t1367.length co8 : Value).ownBlock) rfl rfl ?aP (fun k_ hk_ => ((Kd.R_mono (ok' := fun k_ => ((fun _ => True)) k_ ∧ some k_ ≠ (u3 : Value).ownBlock) (Kd.R_apart' (HO1369.out) (Kd.S_typed HO_3.out) (by decide)) (fun k_ hk => ⟨trivial, hk.2⟩))).1 k_ hk_.symm) ?aF ?aO ?aB ?aS ?aL ?_; (case aP => exact Kd.M_row (Kd.R_mono (Kd.R_tight rfl (Kd.R_mono (ok' := fun k_ => ((fun _ => True)) k_ ∧ some k_ ≠ (u3 : Value).ownBlock) (Kd.R_apart' (HO1369.out) (Kd.S_typed HO_3.out) (by decide)) (fun k_ hk => ⟨trivial, hk.2⟩))) (fun _ h_ => h_))); (case aB => exact bz); (case aF => exact (fun _ _ => trivial)); (case aO => exact (by (with_reducible repeat (first | apply Kd.S_alloc | apply Kd.S_drewN | apply Kd.S_drew)); exact Kd.S_mono HO_3.out (fun k_ hk => ⟨trivial, fun e_ => hk.2 e_⟩))); (case aS => exact (below_size bz)); (case aL => have := LMc5.out; omega); intro v1371 w7 ho hb hg hat; rw [← Ny1370.out] at ho; have n0_ := m0 (hb); have n1_ := m0 (ho); clear HB; clear HO_3; clear HO1369; have HB := n0_; have HO1372 := n1_; clear n0_ n1_; clear ho hb hg hat))
      go_roundg k1
      case measure => have := HK1.out; omega
      case rel => exact ⟨(y1370), (wrap64 (x4_1 + 1)), (by first | rfl | (simp; done) | (simp [*]; done)), H', ⟨by have := HK1.out; omega⟩, ⟨by (with_reducible repeat (first | apply Kd.S_alloc | apply Kd.S_drewN | apply Kd.S_drew)); exact HO1372.out⟩, ⟨bz⟩⟩
     ·rw [if_neg c5] at H
      exact absurd H (by simp)
    ·rw [if_neg c3] at H
     exact absurd H (by simp)
   ·rw [if_neg c2] at H
    have c2b0 := decide_eq_false c2
    clear c2
    obtain rfl := Option.some.inj H
    go_wp2
    go_ret
    exact ⟨_, by first | rfl | (simp [errW_none, errW_some] <;> rfl) | (simp [*, errW_none, errW_some] <;> rfl), by (with_reducible repeat (first | apply Kd.S_alloc | apply Kd.S_drewN | apply Kd.S_drew)); exact HO_3.out, by repeat (first | (with_reducible first | exact HB.out | apply below_alloc | apply pw_below_drewN | apply below_drew1) | exact HB.out)⟩
end
section
def Rf_CheckSpectrum.l0 : Nat → List Int → Int → Option (Int × Int)
  | 0, _, _ => none
  | k + 1, x0, x4 => if x4 < (x0.length : Int) then (if 0 ≤ x4 then ((Bs_Within.f (rd x0 x4) 0 10000).bind fun t408 => (if t408 = true then (Rf_CheckSpectrum.l0 k x0 (wrap64 (x4 + 1))) else (some (x4, 2)))) else (none)) else (some (0, 0))
def Rf_CheckSpectrum.f (k : Nat) (l0 : List Int) : Option (Int × Int) := if (l0.length : Int) = 0 then (some (0, 10)) else (if (l0.length : Int) > 16 then (some (0, 8)) else (Rf_CheckSpectrum.l0 k l0 0))
theorem Rf_CheckSpectrum.mono_l : ∀ k, (∀ y0 y1, LeO (Rf_CheckSpectrum.l0 k y0 y1) (Rf_CheckSpectrum.l0 (k + 1) y0 y1))
  | 0 => fun _ _ r h => by simp [Rf_CheckSpectrum.l0] at h
  | k + 1 => by
    have ih0 := Rf_CheckSpectrum.mono_l k
    · intro y0 y1
      unfold Rf_CheckSpectrum.l0
      repeat' first
      | (with_reducible exact ih0 _ _)
      | (with_reducible exact LeO.refl _)
      | (with_reducible exact LeO.none _)
      | (with_reducible refine LeO.ite ?_ ?_)
      | (with_reducible refine LeO.bind ?_ (fun _ => ?_))
      | exact ih0 _ _
      | exact LeO.none _
      | refine LeO.ite ?_ ?_
      | refine LeO.bind ?_ (fun _ => ?_)
theorem Rf_CheckSpectrum.mono : ∀ a0 k, LeO (Rf_CheckSpectrum.f k a0) (Rf_CheckSpectrum.f (k + 1) a0) := by
  intro a0 k
  have ih0 := Rf_CheckSpectrum.mono_l k
  unfold Rf_CheckSpectrum.f
  repeat' first
      | (with_reducible exact ih0 _ _)
      | (with_reducible exact LeO.refl _)
      | (with_reducible exact LeO.none _)
      | (with_reducible refine LeO.ite ?_ ?_)
      | (with_reducible refine LeO.bind ?_ (fun _ => ?_))
      | exact ih0 _ _
      | exact LeO.none _
      | refine LeO.ite ?_ ?_
      | refine LeO.bind ?_ (fun _ => ?_)
theorem Rf_CheckSpectrum.calls (k : Nat) (A0 : Option Addr) (c0 : Nat) (l0 : List Int) (r1 : Int) (r2 : Int) (w : World) (hr0 : Kd.C (Kd.int .i64) w A0 l0.length l0) (hc0 : l0.length ≤ c0) (h : Rf_CheckSpectrum.f k l0 = some (r1, r2)) :
    Calls Tryd.prog 78 #[.slice A0 l0.length c0] w fun e w' => e = .returned (.tuple #[.int .i64 r1, .int .i64 r2]) ∧ Drawn0 w w' := by
  have HR0 := m0 hr0
  have HC0 := m0 hc0
  clear hr0 hc0
  have H : (if (l0.length : Int) = 0 then (some (0, 10)) else (if (l0.length : Int) > 16 then (some (0, 8)) else (Rf_CheckSpectrum.l0 k l0 0))) = some (r1, r2) := h
  clear h
  by_cases c2 : (l0.length : Int) = 0
  · rw [if_pos c2] at H
    have c2b0 := beq_iff_eq.mpr c2
    have c2b1 := bne_eq_false_iff_eq.mpr c2
    clear c2
    simp only [Option.some.injEq, Prod.mk.injEq] at H
    obtain ⟨rfl, rfl⟩ := H
    go_enter Tryd.func78, Tryd.ntmps78
    go_wp2
    go_ret2
    exact ⟨by first | rfl | (simp; done) | (simp [*]; done), by repeat (first | exact Drawn0.refl _ | apply Drawn0.step)⟩
  · rw [if_neg c2] at H
    have c2b0 := beq_eq_false_iff_ne.mpr c2
    have c2b1 := bne_iff_ne.mpr c2
    have c2b2 : ¬ (l0 = []) := fun h_ => c2 (by rw [h_]; rfl)
    by_cases c3 : (l0.length : Int) > 16
    · rw [if_pos c3] at H
      have c3b0 := decide_eq_true c3
      have c3b1 : decide (16 < l0.length) = true := decide_eq_true (by omega)
      clear c3
      simp only [Option.some.injEq, Prod.mk.injEq] at H
      obtain ⟨rfl, rfl⟩ := H
      go_enter Tryd.func78, Tryd.ntmps78
      go_wp2
      go_ret2
      exact ⟨by first | rfl | (simp; done) | (simp [*]; done), by repeat (first | exact Drawn0.refl _ | apply Drawn0.step)⟩
    · rw [if_neg c3] at H
      have c3b0 := decide_eq_false c3
      have c3b1 : decide (16 < l0.length) = false := decide_eq_false (by omega)
      clear c3
      have H' := m0 H
      clear H
      go_enter Tryd.func78, Tryd.ntmps78
      go_wp2
      go_loopg [4] k (fun kq v4 w' => ∃ (x4_1 : Int), v4 = .int .i64 x4_1 ∧ Aside0 (Rf_CheckSpectrum.l0 kq l0 x4_1 = some (r1, r2)) ∧ Aside0 (kq ≤ k) ∧ Drawn0 w w')
      case atStart => exact ⟨(0), (by first | rfl | (simp; done) | (simp [*]; done)), H', ⟨Nat.le_refl _⟩, by repeat (first | exact Drawn0.refl _ | apply Drawn0.step)⟩
      case round =>
        clear H'
        try clear c2
        try clear c2b0
        try clear c2b1
        try clear c2b2
        try clear p2
        try clear c3
        try clear c3b0
        try clear c3b1
        obtain ⟨x4_1, rfl, HA, HK1, ⟨m1, rfl⟩⟩ := hrel
        cases gk with
        | zero => exact absurd HA.out (by simp [Rf_CheckSpectrum.l0])
        | succ k1 =>
          have H := HA.out
          clear HA
          simp only [Rf_CheckSpectrum.l0] at H
          by_cases c4 : x4_1 < (l0.length : Int)
          · rw [if_pos c4] at H
            have c4b0 := decide_eq_true c4
            clear c4
            by_cases c5 : 0 ≤ x4_1
            · rw [if_pos c5] at H
              have c5b0 := decide_eq_true c5
              clear c5
              replace H := ob H
              obtain ⟨t408, A60, H⟩ := H
              (try dsimp only at H)
              have A6 := m0 A60
              clear A60
              by_cases c7 : t408 = true
              · subst c7
                rw [if_pos rfl] at H
                have H' := m0 H
                clear H
                have p407 : 0 ≤ (x4_1 : Int) := of_decide_eq_true (by first | (with_reducible assumption) | assumption)
                have q407 : x4_1 < (l0.length : Int) := of_decide_eq_true (by first | (with_reducible assumption) | assumption)
                obtain ⟨ad407, e407, hx407_0⟩ := Kd.at_int HR0.out x4_1 p407 q407
                cases e407
                replace p407 := eq_true p407
                replace q407 := eq_true q407
                go_wp2_with (first | ((with_reducible refine gate_callee (f := 31) rfl ?_); refine gl (some 21) Tryd.func31 #[.int .i64 (rd l0 x4_1), .int .i64 0, .int .i64 10000] ?_; (with_reducible refine (Bs_Within.calls (rd l0 x4_1) 0 10000 true _ A6.out).mono ?_); rintro e w' ⟨rfl, ⟨nd, rfl⟩⟩; refine ⟨_, rfl, ?_⟩))
                go_roundg k1
                case measure => have := HK1.out; omega
                case rel => exact ⟨(wrap64 (x4_1 + 1)), (by first | rfl | (simp; done) | (simp [*]; done)), H', ⟨by have := HK1.out; omega⟩, by repeat (first | exact Drawn0.refl _ | apply Drawn0.step)⟩
              · replace c7 := Bool.eq_false_iff.mpr c7
                subst c7
                rw [if_neg (show ¬ (false = true) by decide)] at H
                simp only [Option.some.injEq, Prod.mk.injEq] at H
                obtain ⟨rfl, rfl⟩ := H
                have p407 : 0 ≤ (x4_1 : Int) := of_decide_eq_true (by first | (with_reducible assumption) | assumption)
                have q407 : x4_1 < (l0.length : Int) := of_decide_eq_true (by first | (with_reducible assumption) | assumption)
                obtain ⟨ad407, e407, hx407_0⟩ := Kd.at_int HR0.out x4_1 p407 q407
                cases e407
                replace p407 := eq_true p407
                replace q407 := eq_true q407
                go_wp2_with (first | ((with_reducible refine gate_callee (f := 31) rfl ?_); refine gl (some 21) Tryd.func31 #[.int .i64 (rd l0 x4_1), .int .i64 0, .int .i64 10000] ?_; (with_reducible refine (Bs_Within.calls (rd l0 x4_1) 0 10000 false _ A6.out).mono ?_); rintro e w' ⟨rfl, ⟨nd, rfl⟩⟩; refine ⟨_, rfl, ?_⟩))
                go_ret2
                exact ⟨by first | rfl | (simp; done) | (simp [*]; done), by repeat (first | exact Drawn0.refl _ | apply Drawn0.step)⟩
            · rw [if_neg c5] at H
              exact absurd H (by simp)
          · rw [if_neg c4] at H
            have c4b0 := decide_eq_false c4
            clear c4
            simp only [Option.some.injEq, Prod.mk.injEq] at H
            obtain ⟨rfl, rfl⟩ := H
            go_wp2
            go_ret2
            exact ⟨by first | rfl | (simp; done) | (simp [*]; done), by repeat (first | exact Drawn0.refl _ | apply Drawn0.step)⟩
end
end Go.Proofs.YtjnkphmcndaijaaDoor.A
