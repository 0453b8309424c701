/- Walks of the program's functions (printed, made shorter), each with what it computes. -/
import Derived.Test.YtjnkphmcndaijaaDoorBes04
import Derived.Test.YtjnkphmcndaijaaDoorBes06
import Derived.Test.YtjnkphmcndaijaaDoorBes07
import Derived.Test.YtjnkphmcndaijaaDoorBes03
import Derived.Test.YtjnkphmcndaijaaDoorBes13
import Derived.Test.YtjnkphmcndaijaaDoorBes10
namespace Go.Proofs.YtjnkphmcndaijaaDoor.A
set_option maxHeartbeats 8000000
set_option maxRecDepth 100000
open Go.RowKit Go.Proofs.YtjnkphmcndaijaaDoorW.PrintWords Go.Proofs.YtjnkphmcndaijaaDoorW.PrintLast Go.Proofs.YtjnkphmcndaijaaDoorW.PrintMore
attribute [local go_sem] max2_int min2_int max_two min_two max_three min_three max_four min_four
set_option linter.unusedVariables false
set_option linter.unusedSimpArgs false
section
mutual
def line_BestOf.l0 : Nat → List Int → Int → List Int → Int → Int → List Int → List Int → Int → Int → Option (Int × Int × Int × Int × Int)
  | 0, _, _, _, _, _, _, _, _, _ => none
  | k + 1, x1, x7, x27, x28, x29, x1378000, x1378001, x1378002, x1378003 => if x29 < x28 then (if 0 ≤ x29 then (if x29 < (x27.length : Int) then ((line_kindErr.f (rd x27 x29)).bind fun t1387 => ((line_first.f k (([x7, t1387] : List Int))).bind fun t1391 => (line_BestOf.l0 k x1 t1391 x27 x28 (wrap64 (x29 + 1)) x1378000 x1378001 x1378002 x1378003))) else (none)) else (none)) else (if x7 = 0 then (if 0 < (x1.length : Int) then ((line_worst.f k x1378000 x1378001 x1378002 x1378003 (rd x1 0)).bind fun bt1394 => (if 1 ≤ (x1.length : Int) then (line_BestOf.l1 k (rd x1 0) (x1.drop 1) ((x1.drop 1).length : Int) 0 x1378000 x1378001 x1378002 x1378003 bt1394.1 bt1394.2.1 bt1394.2.2) else (none))) else (none)) else (some (0, 0, 0, 0, x7)))
def line_BestOf.l1 : Nat → Int → List Int → Int → Int → List Int → List Int → Int → Int → Int → Int → Int → Option (Int × Int × Int × Int × Int)
  | 0, _, _, _, _, _, _, _, _, _, _, _ => none
  | k + 1, x10, x52, x53, x54, x1378000, x1378001, x1378002, x1378003, x1398000, x1398001, x1398002 => if x54 < x53 then (if 0 ≤ x54 then (if x54 < (x52.length : Int) then ((line_worst.f k x1378000 x1378001 x1378002 x1378003 (rd x52 x54)).bind fun bt1400 => ((line_less.f bt1400.1 bt1400.2.1 x1398000 x1398001).bind fun t1404 => (if t1404 = true then (line_BestOf.l1 k (rd x52 x54) x52 x53 (wrap64 (x54 + 1)) x1378000 x1378001 x1378002 x1378003 bt1400.1 bt1400.2.1 bt1400.2.2) else (line_BestOf.l1 k x10 x52 x53 (wrap64 (x54 + 1)) x1378000 x1378001 x1378002 x1378003 x1398000 x1398001 x1398002)))) else (none)) else (none)) else (some (x10, x1398000, x1398001, x1398002, 0))
end
def line_BestOf.f (k : Nat) (l0_0 : List Int) (l0_1 : List Int) (a0_2 : Int) (a0_3 : Int) (l1 : List Int) : Option (Int × Int × Int × Int × Int) := (line_CheckCase.f k l0_0 l0_1 a0_2 a0_3).bind fun t1379 => ((line_unless.f (decide ((l1.length : Int) > 0)) 10).bind fun t1380 => ((line_unless.f (decide ((l1.length : Int) ≤ 4)) 8).bind fun t1381 => ((line_first.f k (([t1379, t1380, t1381] : List Int))).bind fun t1385 => (line_BestOf.l0 k l1 t1385 l1 (l1.length : Int) 0 l0_0 l0_1 a0_2 a0_3))))
theorem line_BestOf.mono_l : ∀ k, (∀ y0 y1 y2 y3 y4 y5 y6 y7 y8, LeO (line_BestOf.l0 k y0 y1 y2 y3 y4 y5 y6 y7 y8) (line_BestOf.l0 (k + 1) y0 y1 y2 y3 y4 y5 y6 y7 y8)) ∧ (∀ y0 y1 y2 y3 y4 y5 y6 y7 y8 y9 y10, LeO (line_BestOf.l1 k y0 y1 y2 y3 y4 y5 y6 y7 y8 y9 y10) (line_BestOf.l1 (k + 1) y0 y1 y2 y3 y4 y5 y6 y7 y8 y9 y10))
  | 0 => ⟨fun _ _ _ _ _ _ _ _ _ r h => by simp [line_BestOf.l0] at h, fun _ _ _ _ _ _ _ _ _ _ _ r h => by simp [line_BestOf.l1] at h⟩
  | k + 1 => by
    obtain ⟨ih0, ih1⟩ := line_BestOf.mono_l k
    refine ⟨?_, ?_⟩
    · intro y0 y1 y2 y3 y4 y5 y6 y7 y8
      unfold line_BestOf.l0
      repeat' first
      | (with_reducible exact ih0 _ _ _ _ _ _ _ _ _)
      | (with_reducible exact ih1 _ _ _ _ _ _ _ _ _ _ _)
      | (with_reducible exact line_CheckCase.mono _ _ _ _ _)
      | (with_reducible exact line_first.mono _ _)
      | (with_reducible exact line_worst.mono _ _ _ _ _ _)
      | (with_reducible exact LeO.refl _)
      | (with_reducible exact LeO.none _)
      | (with_reducible refine LeO.ite ?_ ?_)
      | (with_reducible refine LeO.bind ?_ (fun _ => ?_))
      | exact ih0 _ _ _ _ _ _ _ _ _
      | exact ih1 _ _ _ _ _ _ _ _ _ _ _
      | exact line_CheckCase.mono _ _ _ _ _
      | exact line_first.mono _ _
      | exact line_worst.mono _ _ _ _ _ _
      | exact LeO.none _
      | refine LeO.ite ?_ ?_
      | refine LeO.bind ?_ (fun _ => ?_)
    · intro y0 y1 y2 y3 y4 y5 y6 y7 y8 y9 y10
      unfold line_BestOf.l1
      repeat' first
      | (with_reducible exact ih0 _ _ _ _ _ _ _ _ _)
      | (with_reducible exact ih1 _ _ _ _ _ _ _ _ _ _ _)
      | (with_reducible exact line_CheckCase.mono _ _ _ _ _)
      | (with_reducible exact line_first.mono _ _)
      | (with_reducible exact line_worst.mono _ _ _ _ _ _)
      | (with_reducible exact LeO.refl _)
      | (with_reducible exact LeO.none _)
      | (with_reducible refine LeO.ite ?_ ?_)
      | (with_reducible refine LeO.bind ?_ (fun _ => ?_))
      | exact ih0 _ _ _ _ _ _ _ _ _
      | exact ih1 _ _ _ _ _ _ _ _ _ _ _
      | exact line_CheckCase.mono _ _ _ _ _
      | exact line_first.mono _ _
      | exact line_worst.mono _ _ _ _ _ _
      | exact LeO.none _
      | refine LeO.ite ?_ ?_
      | refine LeO.bind ?_ (fun _ => ?_)
theorem line_BestOf.mono : ∀ a0 a1 a2 a3 a4 k, LeO (line_BestOf.f k a0 a1 a2 a3 a4) (line_BestOf.f (k + 1) a0 a1 a2 a3 a4) := by
  intro a0 a1 a2 a3 a4 k
  obtain ⟨ih0, ih1⟩ := line_BestOf.mono_l k
  unfold line_BestOf.f
  repeat' first
      | (with_reducible exact ih0 _ _ _ _ _ _ _ _ _)
      | (with_reducible exact ih1 _ _ _ _ _ _ _ _ _ _ _)
      | (with_reducible exact line_CheckCase.mono _ _ _ _ _)
      | (with_reducible exact line_first.mono _ _)
      | (with_reducible exact line_worst.mono _ _ _ _ _ _)
      | (with_reducible exact LeO.refl _)
      | (with_reducible exact LeO.none _)
      | (with_reducible refine LeO.ite ?_ ?_)
      | (with_reducible refine LeO.bind ?_ (fun _ => ?_))
      | exact ih0 _ _ _ _ _ _ _ _ _
      | exact ih1 _ _ _ _ _ _ _ _ _ _ _
      | exact line_CheckCase.mono _ _ _ _ _
      | exact line_first.mono _ _
      | exact line_worst.mono _ _ _ _ _ _
      | exact LeO.none _
      | refine LeO.ite ?_ ?_
      | refine LeO.bind ?_ (fun _ => ?_)
def line_BestOf.T9 : Bool × List (List Nat × List Nat) := (true, [([], []), ([0], [0]), ([1], [1]), ([], []), ([], []), ([4], [4]), ([5], [5]), ([3, 6], [3, 6]), ([], []), ([2, 7, 0, 1, 2, 8], [2]), ([8, 7, 9, 0, 1, 2, 3, 4, 5, 6, 7, 8, 9], [7, 8])])
def line_BestOf.B9 : List Nat := [0, 1, 3, 0, 0, 16, 48, 120, 0, 511, 1023]
theorem line_BestOf.tab9 : rtab .any (opsOf Tryd.f66 9) = line_BestOf.T9 := by kernel_rfl
theorem line_BestOf.bits9 : waitsOk line_BestOf.T9.2 line_BestOf.B9 = true := by kernel_rfl
theorem line_BestOf.calls (k : Nat) (A0_0 : Option Addr) (c0_0 : Nat) (l0_0 : List Int) (A0_1 : Option Addr) (c0_1 : Nat) (l0_1 : List Int) (a0_2 : Int) (a0_3 : Int) (A1 : Option Addr) (c1 : Nat) (l1 : List Int) (r1 : Int) (r2 : Int) (r3 : Int) (r4 : Int) (r5 : Int) (w : World) (hr0_0 : Kd.C (Kd.int .i64) w A0_0 l0_0.length l0_0) (hc0_0 : l0_0.length ≤ c0_0) (hr0_1 : Kd.C (Kd.int .i64) w A0_1 l0_1.length l0_1) (hc0_1 : l0_1.length ≤ c0_1) (hr1 : Kd.C (Kd.int .i64) w A1 l1.length l1) (hc1 : l1.length ≤ c1) (hG : EstG w) (h : line_BestOf.f k l0_0 l0_1 a0_2 a0_3 l1 = some (r1, r2, r3, r4, r5)) :
    Calls Tryd.prog 66 #[.agg #[.slice A0_0 l0_0.length c0_0, .slice A0_1 l0_1.length c0_1, .int .i64 a0_2, .int .i64 a0_3], .slice A1 l1.length c1] w fun e w' => e = .returned (.tuple #[.int .i64 r1, .agg #[.int .i64 r2, .int .i64 r3, .int .i64 r4], .int .i64 r5]) ∧ Below w.heap.size w w' := by
  have hu28 := Tryd.underlying28
  have hu36 := Tryd.underlying36
  have hu26 := Tryd.underlying26
  have HG := m0 hG
  clear hG
  have HR0_0 := m0 hr0_0
  have HC0_0 := m0 hc0_0
  clear hr0_0 hc0_0
  have HR0_1 := m0 hr0_1
  have HC0_1 := m0 hc0_1
  clear hr0_1 hc0_1
  have HR1 := m0 hr1
  have HC1 := m0 hc1
  clear hr1 hc1
  have HB := m0 (Below.refl w.heap.size w)
  have H : ((line_CheckCase.f k l0_0 l0_1 a0_2 a0_3).bind fun t1379 => ((line_unless.f (decide ((l1.length : Int) > 0)) 10).bind fun t1380 => ((line_unless.f (decide ((l1.length : Int) ≤ 4)) 8).bind fun t1381 => ((line_first.f k (([t1379, t1380, t1381] : List Int))).bind fun t1385 => (line_BestOf.l0 k l1 t1385 l1 (l1.length : Int) 0 l0_0 l0_1 a0_2 a0_3))))) = some (r1, r2, r3, r4, r5) := h
  clear h
  replace H := ob H
  obtain ⟨t1379, A30, H⟩ := H
  (try dsimp only at H)
  have A3 := m0 A30
  clear A30
  replace H := ob H
  obtain ⟨t1380, A40, H⟩ := H
  (try dsimp only at H)
  have A4 := m0 A40
  clear A40
  replace H := ob H
  obtain ⟨t1381, A50, H⟩ := H
  (try dsimp only at H)
  have A5 := m0 A50
  clear A50
  obtain ⟨y1382, hy1382⟩ : ∃ y_ : List Int, y_ = (([t1379, t1380, t1381] : List Int)) := ⟨_, rfl⟩
  replace H : ((line_first.f k y1382).bind fun t1385 => (line_BestOf.l0 k l1 t1385 l1 (l1.length : Int) 0 l0_0 l0_1 a0_2 a0_3)) = some (r1, r2, r3, r4, r5) := by first | (rw [hy1382]; with_reducible exact H) | (have H2_ := (Option.bind_some _ _).symm.trans H; rw [hy1382]; with_reducible exact H2_) | (have H2_ := (Option.bind_some _ _).symm.trans H; with_reducible exact H2_) | with_reducible exact H | (rw [hy1382]; exact H) | exact H
  have Ny1382 := m0 hy1382
  clear hy1382
  replace H := ob H
  obtain ⟨t1385, A60, H⟩ := H
  (try dsimp only at H)
  have A6 := m0 A60
  clear A60
  have H' := m0 H
  clear H
  go_enter Tryd.func66, Tryd.ntmps66
  go_wp2_with (first | ((with_reducible refine gate_dst (N := 2) rfl ?_); refine be 2 28 #[.slice A0_0 l0_0.length c0_0, .slice A0_1 l0_1.length c0_1, .int .i64 a0_2, .int .i64 a0_3] ?_; intro gb1377 hg w7 hbox hb; have BK1377 := m0 hbox; have GW1377 := m0 (bg (n := w.heap.size) hg); have GE1377 := m0 (bg (n := w.heap.size) hg); replace HB := sb HB hb; clear hb hbox hg) | ((with_reducible refine gate_dst (N := 5) rfl ?_); refine be 5 36 #[.int .i64 0, .int .i64 0, .int .i64 0] ?_; intro gb1378 hg w8 hbox hb; have BK1378 := m0 hbox; have GW1378 := m0 (bg (n := w.heap.size) hg); have GE1378 := m0 (bg (n := w.heap.size) hg); replace HB := sb HB hb; have NB1377_1378 := nl BK1377 hg; have NB1378_1377 := ng (nl BK1377 hg); replace BK1377 := bb BK1377 hb; clear hb hbox hg; have hnb9 := NB1377_1378.out; have hnc9 := NB1378_1377.out; obtain ⟨hcz10_0, hcz10_1, hcz10_2, hcz10_3, hfz10_0, hfz10_1, hfz10_2, hfz10_3⟩ := b4 BK1377) | ((with_reducible refine gate_callee (f := 53) rfl ?_); refine gl (some 16) Tryd.func53 #[.agg #[.slice A0_0 l0_0.length c0_0, .slice A0_1 l0_1.length c0_1, .int .i64 a0_2, .int .i64 a0_3]] ?_; (with_reducible refine (line_CheckCase.calls k _ _ l0_0 _ _ l0_1 a0_2 a0_3 t1379 _ ?side1 ?side2 ?side3 ?side4 A3.out).mono ?_); (case side1 => exact cb HR0_0 HB); (case side2 => exact HC0_0.out); (case side3 => exact cb HR0_1 HB); (case side4 => exact HC0_1.out); rintro e w11 ⟨rfl, hb⟩; refine ⟨_, rfl, ?_⟩; replace BK1377 := bb BK1377 hb; replace BK1378 := bb BK1378 hb; replace HB := sb HB hb; (try clear hb)) | ((with_reducible refine gate_callee (f := 93) rfl ?_); refine goesL_ (some 20) rfl rfl Tryd.func93 (by kernel_rfl) rfl #[.bool (decide ((l1.length : Int) > 0)), .int .i64 10] rfl (by (try simp only [List.map_toArray, List.map_cons, List.map_nil]); first | done | rfl | (simp only [List.length_drop, List.length_take]; rfl) | (simp; first | done | exact ⟨rfl, rfl⟩)) ?_; (with_reducible refine (line_unless.calls (decide ((l1.length : Int) > 0)) 10 t1380 _ A4.out).mono ?_); rintro e w' ⟨rfl, ⟨nd, rfl⟩⟩; refine ⟨_, rfl, ?_⟩) | ((with_reducible refine gate_callee (f := 93) rfl ?_); refine gl (some 24) Tryd.func93 #[.bool (decide ((l1.length : Int) ≤ 4)), .int .i64 8] ?_; (with_reducible refine (line_unless.calls (decide ((l1.length : Int) ≤ 4)) 8 t1381 _ A5.out).mono ?_); rintro e w' ⟨rfl, ⟨nd, rfl⟩⟩; refine ⟨_, rfl, ?_⟩) | ((with_reducible refine gate_dst (N := 25) rfl ?_); refine Kd.R_lit (Kd.int .i64) _ 31 ?hg (N := 25) ?hd (xs := ([t1379, t1380, t1381] : List Int)) (inner := [.int .i64 t1379, .int .i64 t1380, .int .i64 t1381]) (ok := fun _ => True) (okp := fun _ => True) ?hr ?hp (fun _ hk => hk) trivial (Below.refl _ _) (Nat.le_refl _) (by simp) ?_; (case hd => rfl); (case hg => rfl); (case hr => first | (go_simp; done) | (go_simp; rfl)); (case hp => exact (Reps.one (show Kd.M (Kd.int .i64) _ _ _ t1379 [.int .i64 t1379] from rfl) (Reps.one (show Kd.M (Kd.int .i64) _ _ _ t1380 [.int .i64 t1380] from rfl) (Reps.one (show Kd.M (Kd.int .i64) _ _ _ t1381 [.int .i64 t1381] from rfl) (Reps.none _ _))))); intro v1383 w12 ho13 hb hg_ hnew_; clear hg_ hnew_; (first | rw [← Ny1382.out] at ho13 | (simp only [Int.reduceToNat] at ho13; rw [← Ny1382.out] at ho13)); have HO1384 := m0 (Kd.R_lower ho13 (below_size bz)); replace BK1377 := bb BK1377 hb; replace BK1378 := bb BK1378 hb; replace HB := sb HB hb; clear hb ho13; obtain ⟨Ao14, co14, eo14⟩ := Kd.R_slice HO1384.out; subst eo14) | ((with_reducible refine gate_callee (f := 91) rfl ?_); refine gl (some 26) Tryd.func91 #[.slice Ao14 y1382.length co14] ?_; (with_reducible refine (line_first.calls k _ _ y1382 t1385 _ ?side1 ?side2 A6.out).mono ?_); (case side1 => exact bc (Kd.R_reads' HO1384.out).2.2); (case side2 => exact (Kd.R_reads' HO1384.out).2.1); rintro e w' ⟨rfl, ⟨nd, rfl⟩⟩; refine ⟨_, rfl, ?_⟩))
  go_loopg [7, 29] k (fun kq v7 v29 w' => ∃ (x7_1 : Int) (x29_1 : Int), v7 = .int .i64 x7_1 ∧ v29 = .int .i64 x29_1 ∧ Aside0 (line_BestOf.l0 kq l1 x7_1 l1 (l1.length : Int) x29_1 l0_0 l0_1 a0_2 a0_3 = some (r1, r2, r3, r4, r5)) ∧ Aside0 (kq ≤ k) ∧ Aside0 (w'.heap[gb1377]? = some (.cells #[(.slice A0_0 l0_0.length c0_0), (.slice A0_1 l0_1.length c0_1), .int .i64 a0_2, .int .i64 a0_3] 28 (0, 0))) ∧ Aside0 (w'.heap[gb1378]? = some (.cells #[.int .i64 0, .int .i64 0, .int .i64 0] 36 (0, 0))) ∧ Aside0 (Below w.heap.size w w'))
  case atStart => exact ⟨(t1385), (0), (by first | rfl | (simp; done) | (simp [*]; done)), (by first | rfl | (simp; done) | (simp [*]; done)), H', ⟨Nat.le_refl _⟩, ⟨bk BK1377.out⟩, ⟨bk BK1378.out⟩, ⟨bz⟩⟩
  case round =>
    clear H'
    try clear c1
    try clear p2
    try clear c5
    try clear c6
    try clear c9
    try clear hcz10_0
    try clear hcz10_1
    try clear hcz10_2
    try clear hcz10_3
    try clear hfz10_0
    try clear hfz10_1
    try clear hfz10_2
    try clear hfz10_3
    obtain ⟨x7_1, x29_1, rfl, rfl, HA, HK1, BK1377, BK1378, HB⟩ := hrel
    cases gk with
    | zero => exact absurd HA.out (by simp [line_BestOf.l0])
    | succ k1 =>
      have H := HA.out
      clear HA
      simp only [line_BestOf.l0] at H
      by_cases c15 : x29_1 < (l1.length : Int)
      · rw [if_pos c15] at H
        have c15b0 := decide_eq_true c15
        clear c15
        by_cases c16 : 0 ≤ x29_1
        · rw [if_pos c16] at H
          have c16b0 := decide_eq_true c16
          clear c16
          by_cases c17 : x29_1 < (l1.length : Int)
          · rw [if_pos c17] at H
            have c17b0 := decide_eq_true c17
            clear c17
            replace H := ob H
            obtain ⟨t1387, A180, H⟩ := H
            (try dsimp only at H)
            have A18 := m0 A180
            clear A180
            obtain ⟨y1388, hy1388⟩ : ∃ y_ : List Int, y_ = (([x7_1, t1387] : List Int)) := ⟨_, rfl⟩
            replace H : ((line_first.f k1 y1388).bind fun t1391 => (line_BestOf.l0 k1 l1 t1391 l1 (l1.length : Int) (wrap64 (x29_1 + 1)) l0_0 l0_1 a0_2 a0_3)) = some (r1, r2, r3, r4, r5) := by first | (rw [hy1388]; with_reducible exact H) | (have H2_ := (Option.bind_some _ _).symm.trans H; rw [hy1388]; with_reducible exact H2_) | (have H2_ := (Option.bind_some _ _).symm.trans H; with_reducible exact H2_) | with_reducible exact H | (rw [hy1388]; exact H) | exact H
            have Ny1388 := m0 hy1388
            clear hy1388
            replace H := ob H
            obtain ⟨t1391, A190, H⟩ := H
            (try dsimp only at H)
            have A19 := m0 A190
            clear A190
            have H' := m0 H
            clear H
            have p1386 : 0 ≤ (x29_1 : Int) := of_decide_eq_true (by first | (with_reducible assumption) | assumption)
            have q1386 : x29_1 < (l1.length : Int) := of_decide_eq_true (by first | (with_reducible assumption) | assumption)
            obtain ⟨ad1386, e1386, hx1386_0⟩ := Kd.at_int HR1.out x29_1 p1386 q1386
            cases e1386
            replace hx1386_0 := (HB.out.cell (World.block_lt_of_cell? w _ hx1386_0)).trans hx1386_0
            replace p1386 := eq_true p1386
            replace q1386 := eq_true q1386
            go_wp2_with (first | ((with_reducible refine gate_callee (f := 92) rfl ?_); refine gl (some 35) Tryd.func92 #[.int .i64 (rd l1 x29_1)] ?_; (with_reducible refine (line_kindErr.calls (rd l1 x29_1) t1387 _ A18.out).mono ?_); rintro e w' ⟨rfl, ⟨nd, rfl⟩⟩; refine ⟨_, rfl, ?_⟩) | ((with_reducible refine gate_dst (N := 36) rfl ?_); refine Kd.R_lit (Kd.int .i64) _ 31 ?hg (N := 36) ?hd (xs := ([x7_1, t1387] : List Int)) (inner := [.int .i64 x7_1, .int .i64 t1387]) (ok := fun _ => True) (okp := fun _ => True) ?hr ?hp (fun _ hk => hk) trivial (Below.refl _ _) (Nat.le_refl _) (by simp) ?_; (case hd => rfl); (case hg => rfl); (case hr => first | (go_simp; done) | (go_simp; rfl)); (case hp => exact (Reps.one (show Kd.M (Kd.int .i64) _ _ _ x7_1 [.int .i64 x7_1] from rfl) (Reps.one (show Kd.M (Kd.int .i64) _ _ _ t1387 [.int .i64 t1387] from rfl) (Reps.none _ _)))); intro v1389 w20 ho21 hb hg_ hnew_; clear hg_ hnew_; (first | rw [← Ny1388.out] at ho21 | (simp only [Int.reduceToNat] at ho21; rw [← Ny1388.out] at ho21)); have HO1390 := m0 (Kd.R_lower ho21 (below_size bz)); replace BK1377 := bb BK1377 hb; replace BK1378 := bb BK1378 hb; replace HB := sb HB hb; clear hb ho21; obtain ⟨Ao22, co22, eo22⟩ := Kd.R_slice HO1390.out; subst eo22) | ((with_reducible refine gate_callee (f := 91) rfl ?_); refine gl (some 37) Tryd.func91 #[.slice Ao22 y1388.length co22] ?_; (with_reducible refine (line_first.calls k1 _ _ y1388 t1391 _ ?side1 ?side2 A19.out).mono ?_); (case side1 => exact bc (Kd.R_reads' HO1390.out).2.2); (case side2 => exact (Kd.R_reads' HO1390.out).2.1); rintro e w' ⟨rfl, ⟨nd, rfl⟩⟩; refine ⟨_, rfl, ?_⟩))
            go_roundg k1
            case measure => have := HK1.out; omega
            case rel => exact ⟨(t1391), (wrap64 (x29_1 + 1)), (by first | rfl | (simp; done) | (simp [*]; done)), (by first | rfl | (simp; done) | (simp [*]; done)), H', ⟨by have := HK1.out; omega⟩, ⟨bk BK1377.out⟩, ⟨bk BK1378.out⟩, ⟨bz⟩⟩
          · rw [if_neg c17] at H
            exact absurd H (by simp)
        · rw [if_neg c16] at H
          exact absurd H (by simp)
      · rw [if_neg c15] at H
        have c15b0 := decide_eq_false c15
        clear c15
        by_cases c23 : x7_1 = 0
        · rw [if_pos c23] at H
          have c23b0 := beq_iff_eq.mpr c23
          have c23b1 := bne_eq_false_iff_eq.mpr c23
          clear c23
          by_cases c24 : 0 < (l1.length : Int)
          · rw [if_pos c24] at H
            have c24b0 := decide_eq_true c24
            have c24b1 : decide (0 < l1.length) = true := decide_eq_true (by omega)
            clear c24
            replace H := ob H
            obtain ⟨⟨t1394, t1395, t1396⟩, A250, H⟩ := H
            (try dsimp only at H)
            have A25 := m0 A250
            clear A250
            by_cases c26 : 1 ≤ (l1.length : Int)
            · rw [if_pos c26] at H
              have c26b0 := eq_true c26
              have c26b1 := decide_eq_true c26
              clear c26
              have H' := m0 H
              clear H
              try go_wp2
              replace BK1377 := bd BK1377; replace BK1378 := bd BK1378; replace HB := sd HB
              have p1392 : 0 ≤ (0 : Int) := (by omega)
              have q1392 : 0 < (l1.length : Int) := of_decide_eq_true (by first | (with_reducible assumption) | assumption)
              obtain ⟨ad1392, e1392, hx1392_0⟩ := Kd.at_int HR1.out 0 p1392 q1392
              have hw1392_0 := hx1392_0
              (try rw [show ((0 : Int)).toNat = 0 from rfl] at hw1392_0)
              (try rw [show 0 * 1 = 0 from rfl] at hw1392_0)
              (try rw [Addr.add_zero'] at hw1392_0)
              cases e1392
              have qi1392 : (0 < l1.length) = True := eq_true (by omega)
              (try rw [show ((0 : Int)).toNat = 0 from rfl] at hx1392_0)
              (try rw [Addr.add_zero'] at hx1392_0)
              replace hx1392_0 := (HB.out.cell (World.block_lt_of_cell? w _ hx1392_0)).trans hx1392_0
              replace p1392 := eq_true p1392
              replace q1392 := eq_true q1392
              have p1393 : 0 ≤ (0 : Int) := (by omega)
              have q1393 : 0 < (l1.length : Int) := of_decide_eq_true (by first | (with_reducible assumption) | assumption)
              obtain ⟨ad1393, e1393, hx1393_0⟩ := Kd.at_int HR1.out 0 p1393 q1393
              have hw1393_0 := hx1393_0
              (try rw [show ((0 : Int)).toNat = 0 from rfl] at hw1393_0)
              (try rw [show 0 * 1 = 0 from rfl] at hw1393_0)
              (try rw [Addr.add_zero'] at hw1393_0)
              obtain rfl : ad1392 = ad1393 := (by injection e1393)
              have qi1393 : (0 < l1.length) = True := eq_true (by omega)
              (try rw [show ((0 : Int)).toNat = 0 from rfl] at hx1393_0)
              (try rw [Addr.add_zero'] at hx1393_0)
              replace hx1393_0 := (HB.out.cell (World.block_lt_of_cell? w _ hx1393_0)).trans hx1393_0
              replace p1393 := eq_true p1393
              replace q1393 := eq_true q1393
              refine start_ (n := 11) (S := fun w' => w'.cell? ⟨gb1377, 0, none⟩ = some (.slice A0_0 l0_0.length c0_0) ∧ w'.cell? ⟨gb1377, 1, none⟩ = some (.slice A0_1 l0_1.length c0_1) ∧ w'.cell? ⟨gb1377, 2, none⟩ = some (.int .i64 a0_2) ∧ w'.cell? ⟨gb1377, 3, none⟩ = some (.int .i64 a0_3) ∧ w'.cell? ad1392 = some (.int .i64 (rd l1 0)) ∧ w'.cell? ad1392 = some (.int .i64 (rd l1 0))) (ds := []) #[false, false, false, false, false, false, false, false, false, false, false] (by kernel_rfl) rfl rfl ⟨(blk_cell BK1377.out 0).trans rfl, (blk_cell BK1377.out 1).trans rfl, (blk_cell BK1377.out 2).trans rfl, (blk_cell BK1377.out 3).trans rfl, ((HB.out.cell (World.block_lt_of_cell? w _ hw1392_0)).trans hw1392_0), ((HB.out.cell (World.block_lt_of_cell? w _ hw1393_0)).trans hw1393_0)⟩ (fun hHeld => ?_); refine with_tabW line_BestOf.tab9 line_BestOf.bits9 (fun HT_ HW_ => ?_)
              generalize wr.drew = w27 at BK1377 BK1378 HB hx1392_0 hx1393_0 hHeld ⊢
              refine pureZ (i := 0) (N := some 43) #[true, false, false, false, false, false, false, false, false, false, false] HT_ ?_
              refine pureZ (i := 1) (N := some 44) #[true, true, false, false, false, false, false, false, false, false, false] HT_ ?_
              refine pureZ (i := 4) (N := some 47) #[true, true, false, false, true, false, false, false, false, false, false] HT_ ?_
              refine pureZ (i := 5) (N := some 48) #[true, true, false, false, true, true, false, false, false, false, false] HT_ ?_
              refine takeZ 2 (some 45) #[true, true, true, false, true, true, false, false, false, false, false] (take_ofW HT_.out HW_.out (by kernel_rfl)) hHeld ?_
              refine takeZ 3 (some 46) #[true, true, true, true, true, true, false, false, false, false, false] (take_ofW HT_.out HW_.out (by kernel_rfl)) hHeld ?_
              refine takeZ 6 (some 49) #[true, true, true, true, true, true, true, false, false, false, false] (take_ofW HT_.out HW_.out (by kernel_rfl)) hHeld ?_
              refine join_ (σ := Nat) 2 #[true, true, true, true, true, true, true, true, true, false, false] (fun s_ => [(50, .agg #[.int .i64 t1394, .int .i64 t1395, .int .i64 t1396]), (11, .pointer (some ⟨s_, 0, none⟩))]) (fun s_ w' => (w'.cell? ⟨gb1377, 0, none⟩ = some (.slice A0_0 l0_0.length c0_0) ∧ w'.cell? ⟨gb1377, 1, none⟩ = some (.slice A0_1 l0_1.length c0_1) ∧ w'.cell? ⟨gb1377, 2, none⟩ = some (.int .i64 a0_2) ∧ w'.cell? ⟨gb1377, 3, none⟩ = some (.int .i64 a0_3) ∧ w'.cell? ad1392 = some (.int .i64 (rd l1 0)) ∧ w'.cell? ad1392 = some (.int .i64 (rd l1 0))) ∧ (w'.heap[gb1377]? = some (.cells #[.slice A0_0 l0_0.length c0_0, .slice A0_1 l0_1.length c0_1, .int .i64 a0_2, .int .i64 a0_3] 28 (0, 0))) ∧ (w'.heap[gb1378]? = some (.cells #[.int .i64 0, .int .i64 0, .int .i64 0] 36 (0, 0))) ∧ (w'.heap[s_]? = some (.cells #[.int .i64 0, .int .i64 0, .int .i64 0] 36 (0, 0))) ∧ (w.heap.size ≤ s_) ∧ (w.heap.size ≤ s_) ∧ (gb1377 ≠ s_) ∧ (s_ ≠ gb1377) ∧ (gb1378 ≠ s_) ∧ (s_ ≠ gb1378) ∧ (Below w.heap.size w w')) ?_ ?_
              rotate_left
              · intro hCont
                refine two_ (i := 7) (j := 8) (Ni := some 50) (Nj := some 11) #[true, true, true, true, true, true, true, true, false, false, false] #[true, true, true, true, true, true, true, false, true, false, false] rfl rfl rfl rfl (two_of HT_.out (by kernel_rfl)) (by decide) (by decide) (fun K hK => ?_) (fun K hK => ?_)
                · skip
                  refine goes_ Tryd.func97 (by kernel_rfl) rfl #[.agg #[.slice A0_0 l0_0.length c0_0, .slice A0_1 l0_1.length c0_1, .int .i64 a0_2, .int .i64 a0_3], .int .i64 (rd l1 0)] (by rfl) rfl rfl mz ?_
                  with_reducible refine (line_worst.calls k1 _ _ l0_0 _ _ l0_1 a0_2 a0_3 (rd l1 0) t1394 t1395 t1396 _ ?side1 ?side2 ?side3 ?side4 ?side5 A25.out).mono ?_
                  (case side1 => exact cb HR0_0 HB)
                  (case side2 => exact HC0_0.out)
                  (case side3 => exact cb HR0_1 HB)
                  (case side4 => exact HC0_1.out)
                  (case side5 => exact EstG.below HG.out bz)
                  rintro e w28 ⟨rfl, hb⟩
                  refine ⟨_, rfl, ?_⟩
                  replace BK1377 := bb BK1377 hb; replace BK1378 := bb BK1378 hb; replace HB := sb HB hb
                  (try clear hb)
                  refine hK.out _ _ ⟨(blk_cell BK1377.out 0).trans rfl, (blk_cell BK1377.out 1).trans rfl, (blk_cell BK1377.out 2).trans rfl, (blk_cell BK1377.out 3).trans rfl, ((HB.out.cell (World.block_lt_of_cell? w _ hw1392_0)).trans hw1392_0), ((HB.out.cell (World.block_lt_of_cell? w _ hw1393_0)).trans hw1393_0)⟩ (fun hHeld => ?_)
                  clear hK K
                  refine norm_ (a' := ?_) ?_ ?_
                  rotate_left
                  · show Act.put _ (some 50) _ = _
                    exact pz
                  refine oneZ 8 (some 11) #[true, true, true, true, true, true, true, true, true, false, false] (one_of HT_.out (by kernel_rfl)) fun K hK => ?_
                  refine box_step ?hg (N := 11) ?hd (cs := #[.int .i64 0, .int .i64 0, .int .i64 0]) (t := 36) ?hr ?_; (case hd => rfl); (case hg => rfl); (case hr => first | (go_simp; done) | (go_simp; rfl))
                  intro gb1397 hg w29 hbox hb
                  have BK1397 := m0 hbox; have GW1397 := m0 (bg (n := w.heap.size) hg); have GE1397 := m0 (bg (n := w.heap.size) hg); replace HB := sb HB hb; have NB1377_1397 := nl BK1377 hg; have NB1397_1377 := ng (nl BK1377 hg); replace BK1377 := bb BK1377 hb; have NB1378_1397 := nl BK1378 hg; have NB1397_1378 := ng (nl BK1378 hg); replace BK1378 := bb BK1378 hb
                  clear hb hbox hg
                  refine hK.out _ _ ⟨(blk_cell BK1377.out 0).trans rfl, (blk_cell BK1377.out 1).trans rfl, (blk_cell BK1377.out 2).trans rfl, (blk_cell BK1377.out 3).trans rfl, ((HB.out.cell (World.block_lt_of_cell? w _ hw1392_0)).trans hw1392_0), ((HB.out.cell (World.block_lt_of_cell? w _ hw1393_0)).trans hw1393_0)⟩ (fun hHeld => ?_)
                  clear hK K
                  refine norm_ (a' := ?_) ?_ ?_
                  rotate_left
                  · show Act.put _ (some 11) _ = _
                    exact pz
                  exact norm_ (by simp only [putAll, Act.put, List.setIfInBounds_toArray, List.set_cons_zero, List.set_cons_succ]) (hCont (gb1397) _ ⟨hHeld, (bk BK1377.out), (bk BK1378.out), (bk BK1397.out), GW1397.out, GE1397.out, NB1377_1397.out, NB1397_1377.out, NB1378_1397.out, NB1397_1378.out, bz⟩)
                · skip
                  refine box_step ?hg (N := 11) ?hd (cs := #[.int .i64 0, .int .i64 0, .int .i64 0]) (t := 36) ?hr ?_; (case hd => rfl); (case hg => rfl); (case hr => first | (go_simp; done) | (go_simp; rfl))
                  intro gb1397 hg w28 hbox hb
                  have BK1397 := m0 hbox; have GW1397 := m0 (bg (n := w.heap.size) hg); have GE1397 := m0 (bg (n := w.heap.size) hg); replace HB := sb HB hb; have NB1377_1397 := nl BK1377 hg; have NB1397_1377 := ng (nl BK1377 hg); replace BK1377 := bb BK1377 hb; have NB1378_1397 := nl BK1378 hg; have NB1397_1378 := ng (nl BK1378 hg); replace BK1378 := bb BK1378 hb
                  clear hb hbox hg
                  refine hK.out _ _ ⟨(blk_cell BK1377.out 0).trans rfl, (blk_cell BK1377.out 1).trans rfl, (blk_cell BK1377.out 2).trans rfl, (blk_cell BK1377.out 3).trans rfl, ((HB.out.cell (World.block_lt_of_cell? w _ hw1392_0)).trans hw1392_0), ((HB.out.cell (World.block_lt_of_cell? w _ hw1393_0)).trans hw1393_0)⟩ (fun hHeld => ?_)
                  clear hK K
                  refine norm_ (a' := ?_) ?_ ?_
                  rotate_left
                  · show Act.put _ (some 11) _ = _
                    exact pz
                  refine oneZ 7 (some 50) #[true, true, true, true, true, true, true, true, true, false, false] (one_of HT_.out (by kernel_rfl)) fun K hK => ?_
                  refine goes_ Tryd.func97 (by kernel_rfl) rfl #[.agg #[.slice A0_0 l0_0.length c0_0, .slice A0_1 l0_1.length c0_1, .int .i64 a0_2, .int .i64 a0_3], .int .i64 (rd l1 0)] (by rfl) rfl rfl mz ?_
                  with_reducible refine (line_worst.calls k1 _ _ l0_0 _ _ l0_1 a0_2 a0_3 (rd l1 0) t1394 t1395 t1396 _ ?side1 ?side2 ?side3 ?side4 ?side5 A25.out).mono ?_
                  (case side1 => exact cb HR0_0 HB)
                  (case side2 => exact HC0_0.out)
                  (case side3 => exact cb HR0_1 HB)
                  (case side4 => exact HC0_1.out)
                  (case side5 => exact EstG.below HG.out bz)
                  rintro e w29 ⟨rfl, hb⟩
                  refine ⟨_, rfl, ?_⟩
                  replace BK1377 := bb BK1377 hb; replace BK1378 := bb BK1378 hb; replace BK1397 := bb BK1397 hb; replace HB := sb HB hb
                  (try clear hb)
                  refine hK.out _ _ ⟨(blk_cell BK1377.out 0).trans rfl, (blk_cell BK1377.out 1).trans rfl, (blk_cell BK1377.out 2).trans rfl, (blk_cell BK1377.out 3).trans rfl, ((HB.out.cell (World.block_lt_of_cell? w _ hw1392_0)).trans hw1392_0), ((HB.out.cell (World.block_lt_of_cell? w _ hw1393_0)).trans hw1393_0)⟩ (fun hHeld => ?_)
                  clear hK K
                  refine norm_ (a' := ?_) ?_ ?_
                  rotate_left
                  · show Act.put _ (some 50) _ = _
                    exact pz
                  exact norm_ (by simp only [putAll, Act.put, List.setIfInBounds_toArray, List.set_cons_zero, List.set_cons_succ]) (hCont (gb1397) _ ⟨hHeld, (bk BK1377.out), (bk BK1378.out), (bk BK1397.out), GW1397.out, GE1397.out, NB1377_1397.out, NB1397_1377.out, NB1378_1397.out, NB1397_1378.out, bz⟩)
              rintro gb1397 w30 ⟨hS_, h0_, h1_, h2_, h3_, h4_, h5_, h6_, h7_, h8_, h9_⟩
              have n0_ : Aside0 (w30.heap[gb1377]? = some (.cells #[.slice A0_0 l0_0.length c0_0, .slice A0_1 l0_1.length c0_1, .int .i64 a0_2, .int .i64 a0_3] 28 (0, 0))) := ⟨h0_⟩
              have n1_ : Aside0 (w30.heap[gb1378]? = some (.cells #[.int .i64 0, .int .i64 0, .int .i64 0] 36 (0, 0))) := ⟨h1_⟩
              have n2_ : Aside0 (w30.heap[gb1397]? = some (.cells #[.int .i64 0, .int .i64 0, .int .i64 0] 36 (0, 0))) := ⟨h2_⟩
              have n3_ : Aside0 (w.heap.size ≤ gb1397) := ⟨h3_⟩
              have n4_ : Aside0 (w.heap.size ≤ gb1397) := ⟨h4_⟩
              have n5_ : Aside0 (gb1377 ≠ gb1397) := ⟨h5_⟩
              have n6_ : Aside0 (gb1397 ≠ gb1377) := ⟨h6_⟩
              have n7_ : Aside0 (gb1378 ≠ gb1397) := ⟨h7_⟩
              have n8_ : Aside0 (gb1397 ≠ gb1378) := ⟨h8_⟩
              have n9_ : Aside0 (Below w.heap.size w w30) := ⟨h9_⟩
              clear BK1377
              clear BK1378
              clear HB
              clear h0_ h1_ h2_ h3_ h4_ h5_ h6_ h7_ h8_ h9_
              have BK1377 := n0_
              have BK1378 := n1_
              have BK1397 := n2_
              have GW1397 := n3_
              have GE1397 := n4_
              have NB1377_1397 := n5_
              have NB1397_1377 := n6_
              have NB1378_1397 := n7_
              have NB1397_1378 := n8_
              have HB := n9_
              clear n0_ n1_ n2_ n3_ n4_ n5_ n6_ n7_ n8_ n9_
              have hHeld : w30.cell? ⟨gb1377, 0, none⟩ = some (.slice A0_0 l0_0.length c0_0) ∧ w30.cell? ⟨gb1377, 1, none⟩ = some (.slice A0_1 l0_1.length c0_1) ∧ w30.cell? ⟨gb1377, 2, none⟩ = some (.int .i64 a0_2) ∧ w30.cell? ⟨gb1377, 3, none⟩ = some (.int .i64 a0_3) ∧ w30.cell? ad1392 = some (.int .i64 (rd l1 0)) ∧ w30.cell? ad1392 = some (.int .i64 (rd l1 0)) := hS_
              refine norm_ (a' := ?_) ?_ ?_
              rotate_left
              · simp only [putAll, Act.put, List.setIfInBounds_toArray, List.set_cons_zero, List.set_cons_succ]
                rfl
              refine pureZ (i := 9) (N := some 10) #[true, true, true, true, true, true, true, true, true, true, false] HT_ ?_
              refine oneZ 10 (none) #[true, true, true, true, true, true, true, true, true, true, true] (one_of HT_.out (by kernel_rfl)) fun K hK => ?_
              have hs31 : w30.cell? ⟨gb1397, 0, none⟩ = some (.int .i64 0) := (blk_cell BK1397.out 0).trans rfl
              have hfs31 := blk_frozen BK1397.out 0
              have hns31_0 := NB1377_1397.out
              have hns31_1 := NB1378_1397.out
              have hms31_0 := NB1397_1377.out
              have hms31_1 := NB1397_1378.out
              have hs32 : w30.cell? ⟨gb1397, 1, none⟩ = some (.int .i64 0) := (blk_cell BK1397.out 1).trans rfl
              have hfs32 := blk_frozen BK1397.out 1
              have hns32_0 := NB1377_1397.out
              have hns32_1 := NB1378_1397.out
              have hms32_0 := NB1397_1377.out
              have hms32_1 := NB1397_1378.out
              have hs33 : w30.cell? ⟨gb1397, 2, none⟩ = some (.int .i64 0) := (blk_cell BK1397.out 2).trans rfl
              have hfs33 := blk_frozen BK1397.out 2
              have hns33_0 := NB1377_1397.out
              have hns33_1 := NB1378_1397.out
              have hms33_0 := NB1397_1377.out
              have hms33_1 := NB1397_1378.out
              refine skip_ (w1 := ?_) (by rfl) rfl ?_ ?_
              rotate_left
              · go_simp
                rfl
              refine hK.out _ _ ⟨((cell_far (p := ⟨gb1397, _, none⟩) NB1377_1397.out _).trans (((cell_far (p := ⟨gb1397, _, none⟩) NB1377_1397.out _).trans (((cell_far (p := ⟨gb1397, _, none⟩) NB1377_1397.out _).trans (hHeld.1)))))), ((cell_far (p := ⟨gb1397, _, none⟩) NB1377_1397.out _).trans (((cell_far (p := ⟨gb1397, _, none⟩) NB1377_1397.out _).trans (((cell_far (p := ⟨gb1397, _, none⟩) NB1377_1397.out _).trans (hHeld.2.1)))))), ((cell_far (p := ⟨gb1397, _, none⟩) NB1377_1397.out _).trans (((cell_far (p := ⟨gb1397, _, none⟩) NB1377_1397.out _).trans (((cell_far (p := ⟨gb1397, _, none⟩) NB1377_1397.out _).trans (hHeld.2.2.1)))))), ((cell_far (p := ⟨gb1397, _, none⟩) NB1377_1397.out _).trans (((cell_far (p := ⟨gb1397, _, none⟩) NB1377_1397.out _).trans (((cell_far (p := ⟨gb1397, _, none⟩) NB1377_1397.out _).trans (hHeld.2.2.2.1)))))), ((cell_far (p := ⟨gb1397, _, none⟩) (by first | exact Nat.ne_of_lt (Nat.lt_of_lt_of_le (by have := World.block_lt_of_cell? _ _ hw1392_0; first | rwa [add_block] at this | exact this) GW1397.out) | (rw [add_block]; exact Nat.ne_of_lt (Nat.lt_of_lt_of_le (by have := World.block_lt_of_cell? _ _ hw1392_0; first | rwa [add_block] at this | exact this) GW1397.out)) | (show (Addr.add _ _).block ≠ _; rw [add_block]; exact Nat.ne_of_lt (Nat.lt_of_lt_of_le (by have := World.block_lt_of_cell? _ _ hw1392_0; first | rwa [add_block] at this | exact this) GW1397.out)) | (dsimp only; exact Nat.ne_of_lt (Nat.lt_of_lt_of_le (by have := World.block_lt_of_cell? _ _ hw1392_0; first | rwa [add_block] at this | exact this) GW1397.out))) _).trans (((cell_far (p := ⟨gb1397, _, none⟩) (by first | exact Nat.ne_of_lt (Nat.lt_of_lt_of_le (by have := World.block_lt_of_cell? _ _ hw1392_0; first | rwa [add_block] at this | exact this) GW1397.out) | (rw [add_block]; exact Nat.ne_of_lt (Nat.lt_of_lt_of_le (by have := World.block_lt_of_cell? _ _ hw1392_0; first | rwa [add_block] at this | exact this) GW1397.out)) | (show (Addr.add _ _).block ≠ _; rw [add_block]; exact Nat.ne_of_lt (Nat.lt_of_lt_of_le (by have := World.block_lt_of_cell? _ _ hw1392_0; first | rwa [add_block] at this | exact this) GW1397.out)) | (dsimp only; exact Nat.ne_of_lt (Nat.lt_of_lt_of_le (by have := World.block_lt_of_cell? _ _ hw1392_0; first | rwa [add_block] at this | exact this) GW1397.out))) _).trans (((cell_far (p := ⟨gb1397, _, none⟩) (by first | exact Nat.ne_of_lt (Nat.lt_of_lt_of_le (by have := World.block_lt_of_cell? _ _ hw1392_0; first | rwa [add_block] at this | exact this) GW1397.out) | (rw [add_block]; exact Nat.ne_of_lt (Nat.lt_of_lt_of_le (by have := World.block_lt_of_cell? _ _ hw1392_0; first | rwa [add_block] at this | exact this) GW1397.out)) | (show (Addr.add _ _).block ≠ _; rw [add_block]; exact Nat.ne_of_lt (Nat.lt_of_lt_of_le (by have := World.block_lt_of_cell? _ _ hw1392_0; first | rwa [add_block] at this | exact this) GW1397.out)) | (dsimp only; exact Nat.ne_of_lt (Nat.lt_of_lt_of_le (by have := World.block_lt_of_cell? _ _ hw1392_0; first | rwa [add_block] at this | exact this) GW1397.out))) _).trans (hHeld.2.2.2.2.1)))))), ((cell_far (p := ⟨gb1397, _, none⟩) (by first | exact Nat.ne_of_lt (Nat.lt_of_lt_of_le (by have := World.block_lt_of_cell? _ _ hw1393_0; first | rwa [add_block] at this | exact this) GW1397.out) | (rw [add_block]; exact Nat.ne_of_lt (Nat.lt_of_lt_of_le (by have := World.block_lt_of_cell? _ _ hw1393_0; first | rwa [add_block] at this | exact this) GW1397.out)) | (show (Addr.add _ _).block ≠ _; rw [add_block]; exact Nat.ne_of_lt (Nat.lt_of_lt_of_le (by have := World.block_lt_of_cell? _ _ hw1393_0; first | rwa [add_block] at this | exact this) GW1397.out)) | (dsimp only; exact Nat.ne_of_lt (Nat.lt_of_lt_of_le (by have := World.block_lt_of_cell? _ _ hw1393_0; first | rwa [add_block] at this | exact this) GW1397.out))) _).trans (((cell_far (p := ⟨gb1397, _, none⟩) (by first | exact Nat.ne_of_lt (Nat.lt_of_lt_of_le (by have := World.block_lt_of_cell? _ _ hw1393_0; first | rwa [add_block] at this | exact this) GW1397.out) | (rw [add_block]; exact Nat.ne_of_lt (Nat.lt_of_lt_of_le (by have := World.block_lt_of_cell? _ _ hw1393_0; first | rwa [add_block] at this | exact this) GW1397.out)) | (show (Addr.add _ _).block ≠ _; rw [add_block]; exact Nat.ne_of_lt (Nat.lt_of_lt_of_le (by have := World.block_lt_of_cell? _ _ hw1393_0; first | rwa [add_block] at this | exact this) GW1397.out)) | (dsimp only; exact Nat.ne_of_lt (Nat.lt_of_lt_of_le (by have := World.block_lt_of_cell? _ _ hw1393_0; first | rwa [add_block] at this | exact this) GW1397.out))) _).trans (((cell_far (p := ⟨gb1397, _, none⟩) (by first | exact Nat.ne_of_lt (Nat.lt_of_lt_of_le (by have := World.block_lt_of_cell? _ _ hw1393_0; first | rwa [add_block] at this | exact this) GW1397.out) | (rw [add_block]; exact Nat.ne_of_lt (Nat.lt_of_lt_of_le (by have := World.block_lt_of_cell? _ _ hw1393_0; first | rwa [add_block] at this | exact this) GW1397.out)) | (show (Addr.add _ _).block ≠ _; rw [add_block]; exact Nat.ne_of_lt (Nat.lt_of_lt_of_le (by have := World.block_lt_of_cell? _ _ hw1393_0; first | rwa [add_block] at this | exact this) GW1397.out)) | (dsimp only; exact Nat.ne_of_lt (Nat.lt_of_lt_of_le (by have := World.block_lt_of_cell? _ _ hw1393_0; first | rwa [add_block] at this | exact this) GW1397.out))) _).trans (hHeld.2.2.2.2.2))))))⟩ (fun hHeld => ?_)
              clear hK K
              refine done_ (done_of HT_.out (by kernel_rfl)) ?_
              obtain ⟨i034, hi034, _, hsz34, _⟩ := info_parts info3
              obtain ⟨A34, hcut34, hA34, hC34⟩ := print_drop_of (P := Tryd.prog) (Value.int .i64) 0 22 3 .i64 Tryd.underlying22 hi034 hsz34 (some ad1392) c1 l1 1 (by omega) (of_decide_eq_true (by first | (with_reducible assumption) | assumption)) HC1.out
              have HR1398 := m0 (Kd.C_of_reads (h1 := fun _ => rfl) (hA34 _ (Kd.reads_of_C HR1.out)))
              have HC1398 := m0 hC34
              clear hA34 hC34 hi034 hsz34
              try go_wp2
              go_loopg [10, 54] k1 (fun kq v10 v54 w' => ∃ (x10_2 : Int) (x54_2 : Int) (x1398000_2 : Int) (x1398001_2 : Int) (x1398002_2 : Int), v10 = .int .i64 x10_2 ∧ v54 = .int .i64 x54_2 ∧ Aside0 (line_BestOf.l1 kq x10_2 (l1.drop 1) ((l1.drop 1).length : Int) x54_2 l0_0 l0_1 a0_2 a0_3 x1398000_2 x1398001_2 x1398002_2 = some (r1, r2, r3, r4, r5)) ∧ Aside0 (kq ≤ k1) ∧ Aside0 (w'.heap[gb1377]? = some (.cells #[(.slice A0_0 l0_0.length c0_0), (.slice A0_1 l0_1.length c0_1), .int .i64 a0_2, .int .i64 a0_3] 28 (0, 0))) ∧ Aside0 (w'.heap[gb1378]? = some (.cells #[.int .i64 0, .int .i64 0, .int .i64 0] 36 (0, 0))) ∧ Aside0 (w'.heap[gb1397]? = some (.cells #[.int .i64 x1398000_2, .int .i64 x1398001_2, .int .i64 x1398002_2] 36 (0, 0))) ∧ Aside0 (Below w.heap.size w w'))
              case atStart => exact ⟨(rd l1 0), (0), (t1394), (t1395), (t1396), (by first | rfl | (simp; done) | (simp [*]; done)), (by first | rfl | (simp; done) | (simp [*]; done)), H', ⟨Nat.le_refl _⟩, ⟨bq BK1377.out⟩, ⟨bq BK1378.out⟩, ⟨bq BK1397.out⟩, ⟨bz⟩⟩
              case round =>
                clear H'
                try clear c1
                try clear p1
                try clear q1
                try clear hx1
                try clear qi1
                try clear c2
                try clear p2
                try clear c5
                try clear c6
                try clear p6
                try clear c9
                try clear p13
                try clear q13
                try clear hx13
                try clear qi13
                try clear c15
                try clear c15b0
                try clear c16
                try clear c16b0
                try clear c17
                try clear c17b0
                try clear c23
                try clear c23b0
                try clear c23b1
                try clear c24
                try clear c24b0
                try clear c24b1
                try clear c26
                try clear c26b0
                try clear c26b1
                try clear hcz10_0
                try clear hcz10_1
                try clear hcz10_2
                try clear hcz10_3
                try clear hfz10_0
                try clear hfz10_1
                try clear hfz10_2
                try clear hfz10_3
                try clear hx1386_0
                try clear hx1392_0
                try clear hx1393_0
                try clear p1386
                try clear p1392
                try clear p1393
                try clear p2
                try clear q1386
                try clear q1392
                try clear q1393
                obtain ⟨x10_2, x54_2, x1398000_2, x1398001_2, x1398002_2, rfl, rfl, HA, HK2, BK1377, BK1378, BK1397, HB⟩ := hrel
                cases gk with
                | zero => exact absurd HA.out (by simp [line_BestOf.l1])
                | succ k2 =>
                  have H := HA.out
                  clear HA
                  simp only [line_BestOf.l1] at H
                  by_cases c35 : x54_2 < ((l1.drop 1).length : Int)
                  · rw [if_pos c35] at H
                    have c35b0 := decide_eq_true c35
                    have c35n := c35b0
                    (try simp only [List.length_drop] at c35n)
                    clear c35
                    by_cases c36 : 0 ≤ x54_2
                    · rw [if_pos c36] at H
                      have c36b0 := decide_eq_true c36
                      clear c36
                      by_cases c37 : x54_2 < ((l1.drop 1).length : Int)
                      · rw [if_pos c37] at H
                        have c37b0 := decide_eq_true c37
                        have c37n := c37b0
                        (try simp only [List.length_drop] at c37n)
                        clear c37
                        replace H := ob H
                        obtain ⟨⟨t1400, t1401, t1402⟩, A380, H⟩ := H
                        (try dsimp only at H)
                        have A38 := m0 A380
                        clear A380
                        replace H := ob H
                        obtain ⟨t1404, A390, H⟩ := H
                        (try dsimp only at H)
                        have A39 := m0 A390
                        clear A390
                        by_cases c40 : t1404 = true
                        · subst c40
                          rw [if_pos rfl] at H
                          have H' := m0 H
                          clear H
                          have p1399 : 0 ≤ (x54_2 : Int) := of_decide_eq_true (by first | (with_reducible assumption) | assumption)
                          have q1399 : x54_2 < ((l1.drop 1).length : Int) := of_decide_eq_true (by first | (with_reducible assumption) | assumption)
                          obtain ⟨ad1399, e1399, hx1399_0⟩ := Kd.at_int HR1398.out x54_2 p1399 q1399
                          cases e1399
                          replace hx1399_0 := (HB.out.cell (World.block_lt_of_cell? w _ hx1399_0)).trans hx1399_0
                          replace p1399 := eq_true p1399
                          replace q1399 := eq_true q1399
                          have q1399n := q1399
                          (try simp only [List.length_drop] at q1399n)
                          have hnb41 := NB1377_1378.out
                          have hnc41 := NB1378_1377.out
                          have hnb42 := NB1377_1397.out
                          have hnc42 := NB1397_1377.out
                          obtain ⟨_, _, _, _, _, _, _, _⟩ := b4 BK1377
                          try go_wp2_with (first | ((with_reducible refine gate_callee (f := 97) rfl ?_); refine goesL_ (some 60) rfl rfl Tryd.func97 (by kernel_rfl) rfl #[.agg #[.slice A0_0 l0_0.length c0_0, .slice A0_1 l0_1.length c0_1, .int .i64 a0_2, .int .i64 a0_3], .int .i64 (rd (l1.drop 1) x54_2)] rfl (by (try simp only [List.map_toArray, List.map_cons, List.map_nil]); first | done | rfl | (simp only [List.length_drop, List.length_take]; rfl) | (rw [List.drop_one] <;> rfl)) ?_; (with_reducible refine (line_worst.calls k2 _ _ l0_0 _ _ l0_1 a0_2 a0_3 (rd (l1.drop 1) x54_2) t1400 t1401 t1402 _ ?side1 ?side2 ?side3 ?side4 ?side5 A38.out).mono ?_); (case side1 => exact cb HR0_0 HB); (case side2 => exact HC0_0.out); (case side3 => exact cb HR0_1 HB); (case side4 => exact HC0_1.out); (case side5 => exact EstG.below HG.out bz); rintro e w44 ⟨rfl, hb⟩; refine ⟨_, rfl, ?_⟩; replace BK1377 := bb BK1377 hb; replace BK1378 := bb BK1378 hb; replace BK1397 := bb BK1397 hb; replace HB := sb HB hb; (try clear hb)) | ((with_reducible refine gate_dst (N := 14) rfl ?_); refine be 14 36 #[.int .i64 0, .int .i64 0, .int .i64 0] ?_; intro gb1403 hg w45 hbox hb; have BK1403 := m0 hbox; have GW1403 := m0 (bg (n := w.heap.size) hg); have GE1403 := m0 (bg (n := w.heap.size) hg); replace HB := sb HB hb; have NB1377_1403 := nl BK1377 hg; have NB1403_1377 := ng (nl BK1377 hg); replace BK1377 := bb BK1377 hb; have NB1378_1403 := nl BK1378 hg; have NB1403_1378 := ng (nl BK1378 hg); replace BK1378 := bb BK1378 hb; have NB1397_1403 := nl BK1397 hg; have NB1403_1397 := ng (nl BK1397 hg); replace BK1397 := bb BK1397 hb; clear hb hbox hg; have hnb46 := NB1403_1377.out; have hnc46 := NB1377_1403.out; have hnb47 := NB1403_1378.out; have hnc47 := NB1378_1403.out; have hnb48 := NB1403_1397.out; have hnc48 := NB1397_1403.out; obtain ⟨_, _, _, _, _, _⟩ := b3 BK1403; have hnb50 := NB1397_1378.out; have hnc50 := NB1378_1397.out; obtain ⟨_, _, _, _, _, _⟩ := b3 BK1397) | ((with_reducible refine gate_callee (f := 126) rfl ?_); refine gl (some 65) Tryd.func126 #[.agg #[.int .i64 t1400, .int .i64 t1401], .agg #[.int .i64 x1398000_2, .int .i64 x1398001_2]] ?_; (with_reducible refine (line_less.calls t1400 t1401 x1398000_2 x1398001_2 true _ A39.out).mono ?_); rintro e w52 ⟨rfl, hb⟩; refine ⟨_, rfl, ?_⟩; replace BK1377 := m0 (blk_below (g := gb1377) (o := .cells #[.slice A0_0 l0_0.length c0_0, .slice A0_1 l0_1.length c0_1, .int .i64 a0_2, .int .i64 a0_3] 28 (0, 0)) (bq BK1377.out) hb); replace BK1378 := m0 (blk_below (g := gb1378) (o := .cells #[.int .i64 0, .int .i64 0, .int .i64 0] 36 (0, 0)) (bq BK1378.out) hb); replace BK1397 := m0 (blk_below (g := gb1397) (o := .cells #[.int .i64 x1398000_2, .int .i64 x1398001_2, .int .i64 x1398002_2] 36 (0, 0)) (bq BK1397.out) hb); replace BK1403 := m0 (blk_below (g := gb1403) (o := .cells #[.int .i64 t1400, .int .i64 t1401, .int .i64 t1402] 36 (0, 0)) (bq BK1403.out) hb); replace HB := sb HB hb; (try clear hb)))
                          replace BK1377 := bd BK1377; replace BK1378 := bd BK1378; replace BK1397 := bd BK1397; replace BK1403 := bd BK1403; replace HB := sd HB
                          refine start_ (n := 4) (S := fun w' => w'.cell? ⟨gb1403, 0, none⟩ = some (.int .i64 t1400) ∧ w'.cell? ⟨gb1403, 1, none⟩ = some (.int .i64 t1401) ∧ w'.cell? ⟨gb1403, 2, none⟩ = some (.int .i64 t1402)) (ds := []) #[false, false, false, false] (by kernel_rfl) rfl rfl cz (fun hHeld => ?_)
                          generalize w52.drew = w53 at BK1377 BK1378 BK1397 BK1403 HB hHeld ⊢
                          refine pure_ (i := 0) (N := some 66) (v := ?_) (a' := ?_) #[true, false, false, false] rfl rfl (by kernel_rfl) (fun _ _ _ h => h) (Or.inl ⟨by rfl, ?_⟩) ?_ ?_
                          rotate_left
                          · intro w'
                            go_simp
                            with_reducible rfl
                          rotate_left
                          · exact pz
                          refine pure_ (i := 2) (N := some 10) (v := ?_) (a' := ?_) #[true, false, true, false] rfl rfl (by kernel_rfl) (fun _ _ _ h => h) (Or.inl ⟨by rfl, ?_⟩) ?_ ?_
                          rotate_left
                          · intro w'
                            go_simp
                            with_reducible rfl
                          rotate_left
                          · exact pz
                          refine takeZ 1 (some 67) #[true, true, true, false] (by kernel_rfl) hHeld ?_
                          refine oneZ 3 (none) #[true, true, true, true] (by kernel_rfl) fun K hK => ?_
                          have hs54 : w53.cell? ⟨gb1397, 0, none⟩ = some (.int .i64 x1398000_2) := (blk_cell BK1397.out 0).trans rfl
                          have hfs54 := blk_frozen BK1397.out 0
                          have hns54_0 := NB1377_1397.out
                          have hns54_1 := NB1378_1397.out
                          have hns54_3 := NB1403_1397.out
                          have hms54_0 := NB1397_1377.out
                          have hms54_1 := NB1397_1378.out
                          have hms54_3 := NB1397_1403.out
                          have hs55 : w53.cell? ⟨gb1397, 1, none⟩ = some (.int .i64 x1398001_2) := (blk_cell BK1397.out 1).trans rfl
                          have hfs55 := blk_frozen BK1397.out 1
                          have hns55_0 := NB1377_1397.out
                          have hns55_1 := NB1378_1397.out
                          have hns55_3 := NB1403_1397.out
                          have hms55_0 := NB1397_1377.out
                          have hms55_1 := NB1397_1378.out
                          have hms55_3 := NB1397_1403.out
                          have hs56 : w53.cell? ⟨gb1397, 2, none⟩ = some (.int .i64 x1398002_2) := (blk_cell BK1397.out 2).trans rfl
                          have hfs56 := blk_frozen BK1397.out 2
                          have hns56_0 := NB1377_1397.out
                          have hns56_1 := NB1378_1397.out
                          have hns56_3 := NB1403_1397.out
                          have hms56_0 := NB1397_1377.out
                          have hms56_1 := NB1397_1378.out
                          have hms56_3 := NB1397_1403.out
                          refine skip_ (w1 := ?_) (by rfl) rfl ?_ ?_
                          rotate_left
                          · go_simp
                            rfl
                          refine hK.out _ _ ⟨((cell_far (p := ⟨gb1397, _, none⟩) NB1403_1397.out _).trans (((cell_far (p := ⟨gb1397, _, none⟩) NB1403_1397.out _).trans (((cell_far (p := ⟨gb1397, _, none⟩) NB1403_1397.out _).trans (hHeld.1)))))), ((cell_far (p := ⟨gb1397, _, none⟩) NB1403_1397.out _).trans (((cell_far (p := ⟨gb1397, _, none⟩) NB1403_1397.out _).trans (((cell_far (p := ⟨gb1397, _, none⟩) NB1403_1397.out _).trans (hHeld.2.1)))))), ((cell_far (p := ⟨gb1397, _, none⟩) NB1403_1397.out _).trans (((cell_far (p := ⟨gb1397, _, none⟩) NB1403_1397.out _).trans (((cell_far (p := ⟨gb1397, _, none⟩) NB1403_1397.out _).trans (hHeld.2.2))))))⟩ (fun hHeld => ?_)
                          clear hK K
                          refine done_ (by kernel_rfl) ?_
                          try go_wp2
                          go_roundg k2
                          case measure => have := HK1.out; have := HK2.out; omega
                          case rel => exact ⟨(rd (l1.drop 1) x54_2), (wrap64 (x54_2 + 1)), (t1400), (t1401), (t1402), (by first | rfl | (simp; done) | (simp [*]; done)), (by first | rfl | (simp; done) | (simp [*]; done)), H', ⟨by have := HK1.out; have := HK2.out; omega⟩, ⟨bq BK1377.out⟩, ⟨bq BK1378.out⟩, ⟨bq BK1397.out⟩, ⟨bz⟩⟩
                        · replace c40 := Bool.eq_false_iff.mpr c40
                          subst c40
                          rw [if_neg (show ¬ (false = true) by decide)] at H
                          have H' := m0 H
                          clear H
                          have p1399 : 0 ≤ (x54_2 : Int) := of_decide_eq_true (by first | (with_reducible assumption) | assumption)
                          have q1399 : x54_2 < ((l1.drop 1).length : Int) := of_decide_eq_true (by first | (with_reducible assumption) | assumption)
                          obtain ⟨ad1399, e1399, hx1399_0⟩ := Kd.at_int HR1398.out x54_2 p1399 q1399
                          cases e1399
                          replace hx1399_0 := (HB.out.cell (World.block_lt_of_cell? w _ hx1399_0)).trans hx1399_0
                          replace p1399 := eq_true p1399
                          replace q1399 := eq_true q1399
                          have q1399n := q1399
                          (try simp only [List.length_drop] at q1399n)
                          have hnb57 := NB1377_1378.out
                          have hnc57 := NB1378_1377.out
                          have hnb58 := NB1377_1397.out
                          have hnc58 := NB1397_1377.out
                          obtain ⟨_, _, _, _, _, _, _, _⟩ := b4 BK1377
                          go_wp2_with (first | ((with_reducible refine gate_callee (f := 97) rfl ?_); refine goesL_ (some 60) rfl rfl Tryd.func97 (by kernel_rfl) rfl #[.agg #[.slice A0_0 l0_0.length c0_0, .slice A0_1 l0_1.length c0_1, .int .i64 a0_2, .int .i64 a0_3], .int .i64 (rd (l1.drop 1) x54_2)] rfl (by (try simp only [List.map_toArray, List.map_cons, List.map_nil]); first | done | rfl | (simp only [List.length_drop, List.length_take]; rfl) | (rw [List.drop_one] <;> rfl)) ?_; (with_reducible refine (line_worst.calls k2 _ _ l0_0 _ _ l0_1 a0_2 a0_3 (rd (l1.drop 1) x54_2) t1400 t1401 t1402 _ ?side1 ?side2 ?side3 ?side4 ?side5 A38.out).mono ?_); (case side1 => exact cb HR0_0 HB); (case side2 => exact HC0_0.out); (case side3 => exact cb HR0_1 HB); (case side4 => exact HC0_1.out); (case side5 => exact EstG.below HG.out bz); rintro e w60 ⟨rfl, hb⟩; refine ⟨_, rfl, ?_⟩; replace BK1377 := bb BK1377 hb; replace BK1378 := bb BK1378 hb; replace BK1397 := bb BK1397 hb; replace HB := sb HB hb; (try clear hb)) | ((with_reducible refine gate_dst (N := 14) rfl ?_); refine be 14 36 #[.int .i64 0, .int .i64 0, .int .i64 0] ?_; intro gb1403 hg w61 hbox hb; have BK1403 := m0 hbox; have GW1403 := m0 (bg (n := w.heap.size) hg); have GE1403 := m0 (bg (n := w.heap.size) hg); replace HB := sb HB hb; have NB1377_1403 := nl BK1377 hg; have NB1403_1377 := ng (nl BK1377 hg); replace BK1377 := bb BK1377 hb; have NB1378_1403 := nl BK1378 hg; have NB1403_1378 := ng (nl BK1378 hg); replace BK1378 := bb BK1378 hb; have NB1397_1403 := nl BK1397 hg; have NB1403_1397 := ng (nl BK1397 hg); replace BK1397 := bb BK1397 hb; clear hb hbox hg; have hnb62 := NB1403_1377.out; have hnc62 := NB1377_1403.out; have hnb63 := NB1403_1378.out; have hnc63 := NB1378_1403.out; have hnb64 := NB1403_1397.out; have hnc64 := NB1397_1403.out; obtain ⟨_, _, _, _, _, _⟩ := b3 BK1403; have hnb66 := NB1397_1378.out; have hnc66 := NB1378_1397.out; obtain ⟨_, _, _, _, _, _⟩ := b3 BK1397) | ((with_reducible refine gate_callee (f := 126) rfl ?_); refine gl (some 65) Tryd.func126 #[.agg #[.int .i64 t1400, .int .i64 t1401], .agg #[.int .i64 x1398000_2, .int .i64 x1398001_2]] ?_; (with_reducible refine (line_less.calls t1400 t1401 x1398000_2 x1398001_2 false _ A39.out).mono ?_); rintro e w68 ⟨rfl, hb⟩; refine ⟨_, rfl, ?_⟩; replace BK1377 := m0 (blk_below (g := gb1377) (o := .cells #[.slice A0_0 l0_0.length c0_0, .slice A0_1 l0_1.length c0_1, .int .i64 a0_2, .int .i64 a0_3] 28 (0, 0)) (bq BK1377.out) hb); replace BK1378 := m0 (blk_below (g := gb1378) (o := .cells #[.int .i64 0, .int .i64 0, .int .i64 0] 36 (0, 0)) (bq BK1378.out) hb); replace BK1397 := m0 (blk_below (g := gb1397) (o := .cells #[.int .i64 x1398000_2, .int .i64 x1398001_2, .int .i64 x1398002_2] 36 (0, 0)) (bq BK1397.out) hb); replace BK1403 := m0 (blk_below (g := gb1403) (o := .cells #[.int .i64 t1400, .int .i64 t1401, .int .i64 t1402] 36 (0, 0)) (bq BK1403.out) hb); replace HB := sb HB hb; (try clear hb)))
                          go_roundg k2
                          case measure => have := HK1.out; have := HK2.out; omega
                          case rel => exact ⟨(x10_2), (wrap64 (x54_2 + 1)), (x1398000_2), (x1398001_2), (x1398002_2), (by first | rfl | (simp; done) | (simp [*]; done)), (by first | rfl | (simp; done) | (simp [*]; done)), H', ⟨by have := HK1.out; have := HK2.out; omega⟩, ⟨bk BK1377.out⟩, ⟨bk BK1378.out⟩, ⟨bk BK1397.out⟩, ⟨bz⟩⟩
                      · rw [if_neg c37] at H
                        exact absurd H (by simp)
                    · rw [if_neg c36] at H
                      exact absurd H (by simp)
                  · rw [if_neg c35] at H
                    have c35b0 := decide_eq_false c35
                    have c35n := c35b0
                    (try simp only [List.length_drop] at c35n)
                    clear c35
                    simp only [Option.some.injEq, Prod.mk.injEq] at H
                    obtain ⟨rfl, rfl, rfl, rfl, rfl⟩ := H
                    try go_wp2
                    replace BK1377 := bd BK1377; replace BK1378 := bd BK1378; replace BK1397 := bd BK1397; replace HB := sd HB
                    refine start_ (n := 5) (S := fun w' => w'.cell? ⟨gb1397, 0, none⟩ = some (.int .i64 x1398000_2) ∧ w'.cell? ⟨gb1397, 1, none⟩ = some (.int .i64 x1398001_2) ∧ w'.cell? ⟨gb1397, 2, none⟩ = some (.int .i64 x1398002_2)) (ds := []) #[false, false, false, false, false] (by kernel_rfl) rfl rfl cz (fun hHeld => ?_)
                    generalize wr.drew = w69 at BK1377 BK1378 BK1397 HB hHeld ⊢
                    refine pure_ (i := 0) (N := some 69) (v := ?_) (a' := ?_) #[true, false, false, false, false] rfl rfl (by kernel_rfl) (fun _ _ _ h => h) (Or.inl ⟨by rfl, ?_⟩) ?_ ?_
                    rotate_left
                    · intro w'
                      go_simp
                      with_reducible rfl
                    rotate_left
                    · exact pz
                    refine pure_ (i := 2) (N := some 4) (v := ?_) (a' := ?_) #[true, false, true, false, false] rfl rfl (by kernel_rfl) (fun _ _ _ h => h) (Or.inl ⟨by rfl, ?_⟩) ?_ ?_
                    rotate_left
                    · intro w'
                      go_simp
                      with_reducible rfl
                    rotate_left
                    · exact pz
                    refine takeZ 1 (some 70) #[true, true, true, false, false] (by kernel_rfl) hHeld ?_
                    refine oneZ 3 (none) #[true, true, true, true, false] (by kernel_rfl) fun K hK => ?_
                    have hs70 : w69.cell? ⟨gb1378, 0, none⟩ = some (.int .i64 0) := (blk_cell BK1378.out 0).trans rfl
                    have hfs70 := blk_frozen BK1378.out 0
                    have hns70_0 := NB1377_1378.out
                    have hns70_2 := NB1397_1378.out
                    have hms70_0 := NB1378_1377.out
                    have hms70_2 := NB1378_1397.out
                    have hs71 : w69.cell? ⟨gb1378, 1, none⟩ = some (.int .i64 0) := (blk_cell BK1378.out 1).trans rfl
                    have hfs71 := blk_frozen BK1378.out 1
                    have hns71_0 := NB1377_1378.out
                    have hns71_2 := NB1397_1378.out
                    have hms71_0 := NB1378_1377.out
                    have hms71_2 := NB1378_1397.out
                    have hs72 : w69.cell? ⟨gb1378, 2, none⟩ = some (.int .i64 0) := (blk_cell BK1378.out 2).trans rfl
                    have hfs72 := blk_frozen BK1378.out 2
                    have hns72_0 := NB1377_1378.out
                    have hns72_2 := NB1397_1378.out
                    have hms72_0 := NB1378_1377.out
                    have hms72_2 := NB1378_1397.out
                    refine skip_ (w1 := ?_) (by rfl) rfl ?_ ?_
                    rotate_left
                    · go_simp
                      rfl
                    refine hK.out _ _ ⟨((cell_far (p := ⟨gb1378, _, none⟩) NB1397_1378.out _).trans (((cell_far (p := ⟨gb1378, _, none⟩) NB1397_1378.out _).trans (((cell_far (p := ⟨gb1378, _, none⟩) NB1397_1378.out _).trans (hHeld.1)))))), ((cell_far (p := ⟨gb1378, _, none⟩) NB1397_1378.out _).trans (((cell_far (p := ⟨gb1378, _, none⟩) NB1397_1378.out _).trans (((cell_far (p := ⟨gb1378, _, none⟩) NB1397_1378.out _).trans (hHeld.2.1)))))), ((cell_far (p := ⟨gb1378, _, none⟩) NB1397_1378.out _).trans (((cell_far (p := ⟨gb1378, _, none⟩) NB1397_1378.out _).trans (((cell_far (p := ⟨gb1378, _, none⟩) NB1397_1378.out _).trans (hHeld.2.2))))))⟩ (fun hHeld => ?_)
                    clear hK K
                    refine pure_ (i := 4) (N := some 6) (v := ?_) (a' := ?_) #[true, true, true, true, true] rfl rfl (by kernel_rfl) (fun _ _ _ h => h) (Or.inl ⟨by rfl, ?_⟩) ?_ ?_
                    rotate_left
                    · intro w'
                      go_simp
                      with_reducible rfl
                    rotate_left
                    · exact pz
                    refine done_ (by kernel_rfl) ?_
                    try go_wp2
                    refine bodyPost_ret (results_list (rs := [.tmp 4, .cell 5 36, .tmp 6]) rfl (by simp) (.tmp (.cell gb1378 36 #[.int .i64 x1398000_2, .int .i64 x1398001_2, .int .i64 x1398002_2] (0, 0) _ rfl (bq BK1378.out) Tryd.underlying36 rfl (by kernel_rfl) (.tmp .nil)))) rfl ?_
                    exact ez
            · rw [if_neg c26] at H
              exact absurd H (by simp)
          · rw [if_neg c24] at H
            exact absurd H (by simp)
        · rw [if_neg c23] at H
          have c23b0 := beq_eq_false_iff_ne.mpr c23
          have c23b1 := bne_iff_ne.mpr c23
          simp only [Option.some.injEq, Prod.mk.injEq] at H
          obtain ⟨rfl, rfl, rfl, rfl, rfl⟩ := H
          have hnb73 := NB1378_1377.out
          have hnc73 := NB1377_1378.out
          obtain ⟨_, _, _, _, _, _⟩ := b3 BK1378
          go_wp2
          refine bodyPost_ret (results_list (rs := [.tmp 4, .cell 5 36, .tmp 6]) rfl (by simp) (.tmp (.cell gb1378 36 #[.int .i64 0, .int .i64 0, .int .i64 0] (0, 0) _ rfl (bq BK1378.out) Tryd.underlying36 rfl (by kernel_rfl) (.tmp .nil)))) rfl ?_
          exact ez
end
section
def Rf_KindErr.f (a0 : Int) : Option (Int) := (Bs_Within.f a0 0 3).bind fun t459 => (if t459 = true then (some 0) else (some 14))
theorem Rf_KindErr.calls (a0 : Int) (r : Int) (w : World) (h : Rf_KindErr.f a0 = some r) :
  Calls Tryd.prog 24 #[.int .i64 a0] w fun e w' => e = .returned (.int .i64 r) ∧ Drawn0 w w' := by
 have H : ((Bs_Within.f a0 0 3).bind fun t459 => (if t459 = true then (some 0) else (some 14))) = some r := h
 clear h
 replace H := ob H
 obtain ⟨t459, A20, H⟩ := H
 (try dsimp only at H)
 have A2 := m0 A20
 clear A20
 by_cases c3 : t459 = true
 ·subst c3
  rw [if_pos rfl] at H
  obtain rfl := Option.some.inj H
  go_enter Tryd.func24, Tryd.ntmps24
  go_wp2_with (first | ((with_reducible refine gate_callee (f := 31) rfl ?_); refine gl (some 4) Tryd.func31 #[.int .i64 a0, .int .i64 0, .int .i64 3] ?_; (with_reducible refine (Bs_Within.calls a0 0 3 true _ A2.out).mono ?_); rintro e w' ⟨rfl, ⟨nd, rfl⟩⟩; refine ⟨_, rfl, ?_⟩))
  go_ret
  exact ⟨by first | rfl | (simp; done) | (simp [*]; done), by repeat (first | exact Drawn0.refl _ | apply Drawn0.step)⟩
 ·replace c3 := Bool.eq_false_iff.mpr c3
  subst c3
  rw [if_neg (show ¬ (false = true) by decide)] at H
  obtain rfl := Option.some.inj H
  go_enter Tryd.func24, Tryd.ntmps24
  go_wp2_with (first | ((with_reducible refine gate_callee (f := 31) rfl ?_); refine gl (some 4) Tryd.func31 #[.int .i64 a0, .int .i64 0, .int .i64 3] ?_; (with_reducible refine (Bs_Within.calls a0 0 3 false _ A2.out).mono ?_); rintro e w' ⟨rfl, ⟨nd, rfl⟩⟩; refine ⟨_, rfl, ?_⟩))
  go_ret
  exact ⟨by first | rfl | (simp; done) | (simp [*]; done), by repeat (first | exact Drawn0.refl _ | apply Drawn0.step)⟩
end
section
def Rf_KindsErr.l0 : Nat → List Int → Int → Option (Int)
  | 0, _, _ => none
  | k + 1, x0, x3 => if x3 < (x0.length : Int) then (if 0 ≤ x3 then ((Rf_KindErr.f (rd x0 x3)).bind fun t1406 => (if t1406 = 0 then (Rf_KindsErr.l0 k x0 (wrap64 (x3 + 1))) else (some t1406))) else (none)) else (some 0)
def Rf_KindsErr.f (k : Nat) (l0 : List Int) : Option (Int) := if (l0.length : Int) = 0 then (some 10) else (if (l0.length : Int) > 4 then (some 8) else (Rf_KindsErr.l0 k l0 0))
theorem Rf_KindsErr.mono_l : ∀ k, (∀ y0 y1, LeO (Rf_KindsErr.l0 k y0 y1) (Rf_KindsErr.l0 (k + 1) y0 y1))
  | 0 => fun _ _ r h => by simp [Rf_KindsErr.l0] at h
  | k + 1 => by
    have ih0 := Rf_KindsErr.mono_l k
    · intro y0 y1
      unfold Rf_KindsErr.l0
      repeat' first
      | (with_reducible exact ih0 _ _)
      | (with_reducible exact LeO.refl _)
      | (with_reducible exact LeO.none _)
      | (with_reducible refine LeO.ite ?_ ?_)
      | (with_reducible refine LeO.bind ?_ (fun _ => ?_))
      | exact ih0 _ _
      | exact LeO.none _
      | refine LeO.ite ?_ ?_
      | refine LeO.bind ?_ (fun _ => ?_)
theorem Rf_KindsErr.mono : ∀ a0 k, LeO (Rf_KindsErr.f k a0) (Rf_KindsErr.f (k + 1) a0) := by
  intro a0 k
  have ih0 := Rf_KindsErr.mono_l k
  unfold Rf_KindsErr.f
  repeat' first
      | (with_reducible exact ih0 _ _)
      | (with_reducible exact LeO.refl _)
      | (with_reducible exact LeO.none _)
      | (with_reducible refine LeO.ite ?_ ?_)
      | (with_reducible refine LeO.bind ?_ (fun _ => ?_))
      | exact ih0 _ _
      | exact LeO.none _
      | refine LeO.ite ?_ ?_
      | refine LeO.bind ?_ (fun _ => ?_)
theorem Rf_KindsErr.calls (k : Nat) (A0 : Option Addr) (c0 : Nat) (l0 : List Int) (r : Int) (w : World) (hr0 : Kd.C (Kd.int .i64) w A0 l0.length l0) (hc0 : l0.length ≤ c0) (h : Rf_KindsErr.f k l0 = some r) :
    Calls Tryd.prog 67 #[.slice A0 l0.length c0] w fun e w' => e = .returned (.int .i64 r) ∧ Drawn0 w w' := by
  have HR0 := m0 hr0
  have HC0 := m0 hc0
  clear hr0 hc0
  have H : (if (l0.length : Int) = 0 then (some 10) else (if (l0.length : Int) > 4 then (some 8) else (Rf_KindsErr.l0 k l0 0))) = some r := h
  clear h
  by_cases c2 : (l0.length : Int) = 0
  · rw [if_pos c2] at H
    have c2b0 := beq_iff_eq.mpr c2
    have c2b1 := bne_eq_false_iff_eq.mpr c2
    clear c2
    obtain rfl := Option.some.inj H
    go_enter Tryd.func67, Tryd.ntmps67
    go_wp2
    go_ret
    exact ⟨by first | rfl | (simp; done) | (simp [*]; done), by repeat (first | exact Drawn0.refl _ | apply Drawn0.step)⟩
  · rw [if_neg c2] at H
    have c2b0 := beq_eq_false_iff_ne.mpr c2
    have c2b1 := bne_iff_ne.mpr c2
    have c2b2 : ¬ (l0 = []) := fun h_ => c2 (by rw [h_]; rfl)
    by_cases c3 : (l0.length : Int) > 4
    · rw [if_pos c3] at H
      have c3b0 := decide_eq_true c3
      have c3b1 : decide (4 < l0.length) = true := decide_eq_true (by omega)
      clear c3
      obtain rfl := Option.some.inj H
      go_enter Tryd.func67, Tryd.ntmps67
      go_wp2
      go_ret
      exact ⟨by first | rfl | (simp; done) | (simp [*]; done), by repeat (first | exact Drawn0.refl _ | apply Drawn0.step)⟩
    · rw [if_neg c3] at H
      have c3b0 := decide_eq_false c3
      have c3b1 : decide (4 < l0.length) = false := decide_eq_false (by omega)
      clear c3
      have H' := m0 H
      clear H
      go_enter Tryd.func67, Tryd.ntmps67
      go_wp2
      go_loopg [3] k (fun kq v3 w' => ∃ (x3_1 : Int), v3 = .int .i64 x3_1 ∧ Aside0 (Rf_KindsErr.l0 kq l0 x3_1 = some r) ∧ Aside0 (kq ≤ k) ∧ Drawn0 w w')
      case atStart => exact ⟨(0), (by first | rfl | (simp; done) | (simp [*]; done)), H', ⟨Nat.le_refl _⟩, by repeat (first | exact Drawn0.refl _ | apply Drawn0.step)⟩
      case round =>
        clear H'
        try clear c2
        try clear c2b0
        try clear c2b1
        try clear c2b2
        try clear p2
        try clear c3
        try clear c3b0
        try clear c3b1
        obtain ⟨x3_1, rfl, HA, HK1, ⟨m1, rfl⟩⟩ := hrel
        cases gk with
        | zero => exact absurd HA.out (by simp [Rf_KindsErr.l0])
        | succ k1 =>
          have H := HA.out
          clear HA
          simp only [Rf_KindsErr.l0] at H
          by_cases c4 : x3_1 < (l0.length : Int)
          · rw [if_pos c4] at H
            have c4b0 := decide_eq_true c4
            clear c4
            by_cases c5 : 0 ≤ x3_1
            · rw [if_pos c5] at H
              have c5b0 := decide_eq_true c5
              clear c5
              replace H := ob H
              obtain ⟨t1406, A60, H⟩ := H
              (try dsimp only at H)
              have A6 := m0 A60
              clear A60
              by_cases c7 : t1406 = 0
              · rw [if_pos c7] at H
                have c7b0 := beq_iff_eq.mpr c7
                have c7b1 := bne_eq_false_iff_eq.mpr c7
                clear c7
                have H' := m0 H
                clear H
                have p1405 : 0 ≤ (x3_1 : Int) := of_decide_eq_true (by first | (with_reducible assumption) | assumption)
                have q1405 : x3_1 < (l0.length : Int) := of_decide_eq_true (by first | (with_reducible assumption) | assumption)
                obtain ⟨ad1405, e1405, hx1405_0⟩ := Kd.at_int HR0.out x3_1 p1405 q1405
                cases e1405
                replace p1405 := eq_true p1405
                replace q1405 := eq_true q1405
                go_wp2_with (first | ((with_reducible refine gate_callee (f := 24) rfl ?_); refine gl (some 21) Tryd.func24 #[.int .i64 (rd l0 x3_1)] ?_; (with_reducible refine (Rf_KindErr.calls (rd l0 x3_1) t1406 _ A6.out).mono ?_); rintro e w' ⟨rfl, ⟨nd, rfl⟩⟩; refine ⟨_, rfl, ?_⟩))
                go_roundg k1
                case measure => have := HK1.out; omega
                case rel => exact ⟨(wrap64 (x3_1 + 1)), (by first | rfl | (simp; done) | (simp [*]; done)), H', ⟨by have := HK1.out; omega⟩, by repeat (first | exact Drawn0.refl _ | apply Drawn0.step)⟩
              · rw [if_neg c7] at H
                have c7b0 := beq_eq_false_iff_ne.mpr c7
                have c7b1 := bne_iff_ne.mpr c7
                obtain rfl := Option.some.inj H
                have p1405 : 0 ≤ (x3_1 : Int) := of_decide_eq_true (by first | (with_reducible assumption) | assumption)
                have q1405 : x3_1 < (l0.length : Int) := of_decide_eq_true (by first | (with_reducible assumption) | assumption)
                obtain ⟨ad1405, e1405, hx1405_0⟩ := Kd.at_int HR0.out x3_1 p1405 q1405
                cases e1405
                replace p1405 := eq_true p1405
                replace q1405 := eq_true q1405
                go_wp2_with (first | ((with_reducible refine gate_callee (f := 24) rfl ?_); refine gl (some 21) Tryd.func24 #[.int .i64 (rd l0 x3_1)] ?_; (with_reducible refine (Rf_KindErr.calls (rd l0 x3_1) t1406 _ A6.out).mono ?_); rintro e w' ⟨rfl, ⟨nd, rfl⟩⟩; refine ⟨_, rfl, ?_⟩))
                go_ret
                exact ⟨by first | rfl | (simp; done) | (simp [*]; done), by repeat (first | exact Drawn0.refl _ | apply Drawn0.step)⟩
            · rw [if_neg c5] at H
              exact absurd H (by simp)
          · rw [if_neg c4] at H
            have c4b0 := decide_eq_false c4
            clear c4
            obtain rfl := Option.some.inj H
            go_wp2
            go_ret
            exact ⟨by first | rfl | (simp; done) | (simp [*]; done), by repeat (first | exact Drawn0.refl _ | apply Drawn0.step)⟩
end
section
def Rf_Noisy.l0 : Nat → List Int → Int → List Int → Int → List Int → Option (List Int)
 | 0, _, _, _, _, _ => none
 | k + 1, x0, x2, x7, x8, x463000 => if x8 < (x0.length : Int) then (if 0 ≤ x8 then (if (x463000.length : Int) = 0 then (none) else (if 0 ≤ (Int.tmod x2 (x463000.length : Int)) then (if (Int.tmod x2 (x463000.length : Int)) < (x463000.length : Int) then (if x7.length < 17592186044416 then (Rf_Noisy.l0 k x0 (wrap64 (Int.tdiv x2 (x463000.length : Int))) (x7 ++ [wrap64 ((rd x0 x8) + (rd x463000 (Int.tmod x2 (x463000.length : Int))))]) (wrap64 (x8 + 1)) x463000) else (none)) else (none)) else (none))) else (none)) else (some x7)
def Rf_Noisy.f (k : Nat) (l0 : List Int) (l1_0 : List Int) (a2 : Int) : Option (List Int) := Rf_Noisy.l0 k l0 a2 ([] : List Int) 0 l1_0
theorem Rf_Noisy.mono_l : ∀ k, (∀ y0 y1 y2 y3 y4, LeO (Rf_Noisy.l0 k y0 y1 y2 y3 y4) (Rf_Noisy.l0 (k + 1) y0 y1 y2 y3 y4))
 | 0 => fun _ _ _ _ _ r h => by simp [Rf_Noisy.l0] at h
 | k + 1 => by
  have ih0 := Rf_Noisy.mono_l k
  ·intro y0 y1 y2 y3 y4
   unfold Rf_Noisy.l0
   repeat' first
   | (with_reducible exact ih0 _ _ _ _ _)
   | (with_reducible exact LeO.refl _)
   | (with_reducible exact LeO.none _)
   | (with_reducible refine LeO.ite ?_ ?_)
   | (with_reducible refine LeO.bind ?_ (fun _ => ?_))
   | exact ih0 _ _ _ _ _
   | exact LeO.none _
   | refine LeO.ite ?_ ?_
   | refine LeO.bind ?_ (fun _ => ?_)
theorem Rf_Noisy.mono : ∀ a0 a1 a2 k, LeO (Rf_Noisy.f k a0 a1 a2) (Rf_Noisy.f (k + 1) a0 a1 a2) := by
 intro a0 a1 a2 k
 have ih0 := Rf_Noisy.mono_l k
 unfold Rf_Noisy.f
 repeat' first
   | (with_reducible exact ih0 _ _ _ _ _)
   | (with_reducible exact LeO.refl _)
   | (with_reducible exact LeO.none _)
   | (with_reducible refine LeO.ite ?_ ?_)
   | (with_reducible refine LeO.bind ?_ (fun _ => ?_))
   | exact ih0 _ _ _ _ _
   | exact LeO.none _
   | refine LeO.ite ?_ ?_
   | refine LeO.bind ?_ (fun _ => ?_)
def Rf_Noisy.T5 : Bool × List (List Nat × List Nat) := (true, [([], []), ([], []), ([], []), ([1, 2], [1, 2]), ([3], [3]), ([], []), ([5], [5]), ([], []), ([], []), ([8], [8]), ([9], [9]), ([7, 10], [7, 10]), ([6, 11], [6, 11]), ([12], [12]), ([4, 13], [4, 13]), ([14], [14]), ([0, 15], [0, 15]), ([16, 16, 0, 1, 2, 3, 4, 5, 6, 7, 8, 9, 10, 11, 12, 13, 14, 15, 16], [0, 16])])
def Rf_Noisy.B5 : List Nat := [0, 0, 0, 6, 14, 0, 32, 0, 0, 256, 768, 1920, 4064, 8160, 16382, 32766, 65535, 131071]
theorem Rf_Noisy.tab5 : rtab .any (opsOf Tryd.f58 5) = Rf_Noisy.T5 := by kernel_rfl
theorem Rf_Noisy.bits5 : waitsOk Rf_Noisy.T5.2 Rf_Noisy.B5 = true := by kernel_rfl
theorem Rf_Noisy.calls (k : Nat) (A0 : Option Addr) (c0 : Nat) (l0 : List Int) (A1_0 : Option Addr) (c1_0 : Nat) (l1_0 : List Int) (a2 : Int) (r : List Int) (w : World) (hr0 : Kd.C (Kd.int .i64) w A0 l0.length l0) (hc0 : l0.length ≤ c0) (hr1_0 : Kd.C (Kd.int .i64) w A1_0 l1_0.length l1_0) (hc1_0 : l1_0.length ≤ c1_0) (h : Rf_Noisy.f k l0 l1_0 a2 = some r) :
  Calls Tryd.prog 58 #[.slice A0 l0.length c0, .agg #[.slice A1_0 l1_0.length c1_0], .int .i64 a2] w fun e w' => ∃ v0_ : Value, e = .returned (v0_) ∧ Kd.R (Kd.int .i64) 3 w' w.heap.size (fun _ => True) v0_ r ∧ Below w.heap.size w w' := by
 have hu24 := Tryd.underlying24
 have HR0 := m0 hr0
 have HC0 := m0 hc0
 clear hr0 hc0
 have HR1_0 := m0 hr1_0
 have HC1_0 := m0 hc1_0
 clear hr1_0 hc1_0
 have HB := m0 (Below.refl w.heap.size w)
 have H : (Rf_Noisy.l0 k l0 a2 ([] : List Int) 0 l1_0) = some r := h
 clear h
 have H' := m0 H
 clear H
 go_enter Tryd.func58, Tryd.ntmps58
 go_wp2_with (first | ((with_reducible refine gate_dst (N := 4) rfl ?_); refine be 4 24 #[.slice A1_0 l1_0.length c1_0] ?_; intro gb462 hg w4 hbox hb; have BK462 := m0 hbox; have GW462 := m0 (bg (n := w.heap.size) hg); have GE462 := m0 (bg (n := w.heap.size) hg); replace HB := sb HB hb; clear hb hbox hg))
 go_loopg [2, 7, 8] k (fun kq v2 v7 v8 w' => ∃ (x2_1 : Int) (x7_1 : List Int) (x8_1 : Int), v2 = .int .i64 x2_1 ∧ v8 = .int .i64 x8_1 ∧ Aside0 (Rf_Noisy.l0 kq l0 x2_1 x7_1 x8_1 l1_0 = some r) ∧ Aside0 (kq ≤ k) ∧ Aside0 (Kd.R (Kd.int .i64) 3 w' w.heap.size (fun _ => True) v7 x7_1) ∧ Aside0 (w'.heap[gb462]? = some (.cells #[(.slice A1_0 l1_0.length c1_0)] 24 (0, 0))) ∧ Aside0 (Below w.heap.size w w'))
 case atStart => exact ⟨(a2), (([] : List Int)), (0), (by first | rfl | (simp; done) | (simp [*]; done)), (by first | rfl | (simp; done) | (simp [*]; done)), H', ⟨Nat.le_refl _⟩, ⟨by first | exact Kd.R_nil _ _ _ _ _ | exact Kd.N_nil _ _ _ _ _ | exact Kd.V_nil _ _ _ _ _ | exact Kd.Q_nil _ _ _ _ _ | exact Kd.S_nil _ _ _ _ _⟩, ⟨bk BK462.out⟩, ⟨bz⟩⟩
 case round =>
  clear H'
  try clear c1
  try clear p2
  obtain ⟨x2_1, x7_1, x8_1, rfl, rfl, HA, HK1, HO_7, BK462, HB⟩ := hrel
  cases gk with
  | zero => exact absurd HA.out (by simp [Rf_Noisy.l0])
  | succ k1 =>
   have H := HA.out
   clear HA
   simp only [Rf_Noisy.l0] at H
   by_cases c5 : x8_1 < (l0.length : Int)
   ·rw [if_pos c5] at H
    have c5b0 := decide_eq_true c5
    clear c5
    by_cases c6 : 0 ≤ x8_1
    ·rw [if_pos c6] at H
     have c6b0 := decide_eq_true c6
     clear c6
     by_cases c7 : (l1_0.length : Int) = 0
     ·rw [if_pos c7] at H
      exact absurd H (by simp)
     ·rw [if_neg c7] at H
      have c7b0 := beq_eq_false_iff_ne.mpr c7
      have c7b1 := bne_iff_ne.mpr c7
      have c7b2 : ¬ (l1_0 = []) := fun h_ => c7 (by rw [h_]; rfl)
      obtain ⟨ji8, hji8⟩ : ∃ j_ : Int, (Int.tmod x2_1 (l1_0.length : Int)) = j_ := ⟨_, rfl⟩
      replace H : (if 0 ≤ (ji8) then (if (ji8) < (l1_0.length : Int) then (if x7_1.length < 17592186044416 then (Rf_Noisy.l0 k1 l0 (wrap64 (Int.tdiv x2_1 (l1_0.length : Int))) (x7_1 ++ [wrap64 ((rd l0 x8_1) + (rd l1_0 (ji8)))]) (wrap64 (x8_1 + 1)) l1_0) else (none)) else (none)) else (none)) = some r := by first | (rw [hji8] at H; exact H) | (simp only [hji8] at H ⊢; exact H)
      by_cases c9 : 0 ≤ (ji8)
      ·rw [if_pos c9] at H
       have c9b0 := decide_eq_true c9
       clear c9
       by_cases c10 : (ji8) < (l1_0.length : Int)
       ·rw [if_pos c10] at H
        have c10b0 := decide_eq_true c10
        clear c10
        by_cases c11 : x7_1.length < 17592186044416
        ·rw [if_pos c11] at H
         have LMc11 := m0 c11
         clear c11
         obtain ⟨y465, hy465⟩ : ∃ y_ : List Int, y_ = (x7_1 ++ [wrap64 ((rd l0 x8_1) + (rd l1_0 (ji8)))]) := ⟨_, rfl⟩
         replace H : (Rf_Noisy.l0 k1 l0 (wrap64 (Int.tdiv x2_1 (l1_0.length : Int))) y465 (wrap64 (x8_1 + 1)) l1_0) = some r := by first | (rw [hy465]; with_reducible exact H) | (have H2_ := (Option.bind_some _ _).symm.trans H; rw [hy465]; with_reducible exact H2_) | (have H2_ := (Option.bind_some _ _).symm.trans H; with_reducible exact H2_) | with_reducible exact H | (rw [hy465]; exact H) | exact H
         have Ny465 := m0 hy465
         clear hy465
         have H' := m0 H
         clear H
         try go_wp2
         replace HO_7 := m0 (Kd.R_drew HO_7.out); replace BK462 := bd BK462; replace HB := sd HB
         have p463 : 0 ≤ (x8_1 : Int) := of_decide_eq_true (by first | (with_reducible assumption) | assumption)
         have q463 : x8_1 < (l0.length : Int) := of_decide_eq_true (by first | (with_reducible assumption) | assumption)
         obtain ⟨ad463, e463, hx463_0⟩ := Kd.at_int HR0.out x8_1 p463 q463
         have hw463_0 := hx463_0
         cases e463
         replace hx463_0 := (HB.out.cell (World.block_lt_of_cell? w _ hx463_0)).trans hx463_0
         replace p463 := eq_true p463
         replace q463 := eq_true q463
         have p464 : 0 ≤ ((ji8) : Int) := of_decide_eq_true (by first | (with_reducible assumption) | assumption)
         have q464 : (ji8) < (l1_0.length : Int) := of_decide_eq_true (by first | (with_reducible assumption) | assumption)
         obtain ⟨ad464, e464, hx464_0⟩ := Kd.at_int HR1_0.out (ji8) p464 q464
         have hw464_0 := hx464_0
         cases e464
         replace hx464_0 := (HB.out.cell (World.block_lt_of_cell? w _ hx464_0)).trans hx464_0
         replace p464 := eq_true p464
         replace q464 := eq_true q464
         refine start_ (n := 18) (S := fun w' => w'.cell? ⟨gb462, 0, none⟩ = some (.slice (some ad464) l1_0.length c1_0) ∧ w'.cell? (ad463.add (x8_1).toNat) = some (.int .i64 (rd l0 x8_1)) ∧ w'.cell? (ad464.add ((ji8)).toNat) = some (.int .i64 (rd l1_0 (ji8)))) (ds := []) #[false, false, false, false, false, false, false, false, false, false, false, false, false, false, false, false, false, false] (by kernel_rfl) rfl rfl ⟨(blk_cell BK462.out 0).trans rfl, ((HB.out.cell (World.block_lt_of_cell? w _ hw463_0)).trans hw463_0), ((HB.out.cell (World.block_lt_of_cell? w _ hw464_0)).trans hw464_0)⟩ (fun hHeld => ?_); refine with_tabW Rf_Noisy.tab5 Rf_Noisy.bits5 (fun HT_ HW_ => ?_)
         generalize wr.drew = w12 at HO_7 BK462 HB hx463_0 hx464_0 hHeld ⊢
         refine pureZ (i := 0) (N := some 15) (bs 18 1) HT_ ?_
         refine pureZ (i := 1) (N := some 16) (bs 18 3) HT_ ?_
         refine pureZ (i := 2) (N := some 17) (bs 18 7) HT_ ?_
         refine pureZ (i := 3) (N := some 18) (bs 18 15) HT_ ?_
         refine pureZ (i := 5) (N := some 20) (bs 18 47) HT_ ?_
         refine pureZ (i := 7) (N := some 22) (bs 18 175) HT_ ?_
         refine pureZ (i := 8) (N := some 23) (bs 18 431) HT_ ?_
         refine takeZ 4 (some 19) (bs 18 447) (take_ofW HT_.out HW_.out (by kernel_rfl)) hHeld ?_
         refine takeZ 6 (some 21) (bs 18 511) (take_ofW HT_.out HW_.out (by kernel_rfl)) hHeld ?_
         refine takeZ 9 (some 24) (bs 18 1023) (take_ofW HT_.out HW_.out (by kernel_rfl)) hHeld ?_
         refine pureZ (i := 10) (N := some 25) (bs 18 2047) HT_ ?_
         refine pureZ (i := 11) (N := some 26) (bs 18 4095) HT_ ?_
         refine pureZ (i := 12) (N := some 27) (bs 18 8191) HT_ ?_
         refine takeZ 13 (some 28) (bs 18 16383) (take_ofW HT_.out HW_.out (by kernel_rfl)) hHeld ?_
         refine pureZ (i := 14) (N := some 29) (bs 18 32767) HT_ ?_
         refine oneZ 15 (some 30) (bs 18 65535) (one_of HT_.out (by kernel_rfl)) fun K hK => ?_
         refine value_ (w1 := ?_) (v := ?_) (by rfl) rfl ?_ ?_
         rotate_left 2
         ·go_simp
          constructor
          ·rfl
          ·rfl
         refine hK.out _ _ ⟨(blk_cell (blk_alloc BK462.out _) 0).trans rfl, (World.cell?_alloc_lt _ _ _ (World.block_lt_of_cell? _ _ (((HB.out.cell (World.block_lt_of_cell? w _ hw463_0)).trans hw463_0)))).trans (((HB.out.cell (World.block_lt_of_cell? w _ hw463_0)).trans hw463_0)), (World.cell?_alloc_lt _ _ _ (World.block_lt_of_cell? _ _ (((HB.out.cell (World.block_lt_of_cell? w _ hw464_0)).trans hw464_0)))).trans (((HB.out.cell (World.block_lt_of_cell? w _ hw464_0)).trans hw464_0))⟩ (fun hHeld => ?_)
         clear hK K
         refine norm_ (a' := ?_) ?_ ?_
         rotate_left
         ·show Act.put _ (some 30) _ = _
          exact pz
         refine oneZ 16 (some 31) (bs 18 131071) (one_of HT_.out (by kernel_rfl)) fun K hK => ?_
         refine Kd.R_append_step (Kd.int .i64) (w0 := w) w.heap.size (by rfl) (.tmp 15) (.tmp 30) 22 3 (.int .i64 0) 8 rfl Tryd.underlying22 info3 rfl (by decide) (by omega) u7 x7_1 (wrap64 ((rd l0 x8_1) + (rd l1_0 (ji8)))) [.int .i64 (wrap64 ((rd l0 x8_1) + (rd l1_0 (ji8))))] (fun _ => True) (fun _ => False) rfl rfl ?aP (fun _ hk => hk.elim) ?aF ?aO ?aB ?aS ?aL ?_
         (case aP => exact rfl)
         (case aB => exact bz)
         (case aF => exact (fun _ _ => trivial))
         (case aO => exact (br HO_7.out))
         (case aS => exact (below_size bz))
         (case aL => have := LMc11.out; omega)
         intro v466 w13 ho hb hg hat
         rw [← Ny465.out] at ho
         have n0_ := m0 (blk_grown (g := gb462) (o := .cells #[.slice (some ad464) l1_0.length c1_0] 24 (0, 0)) (bk BK462.out) hg (Kd.R_ne HO_7.out BK462.out (by decide))); have n1_ := m0 (hb); have n2_ := m0 (ho); clear BK462; clear HB; clear HO_7; have BK462 := n0_; have HB := n1_; have HO467 := n2_; clear n0_ n1_ n2_
         clear ho hb hg hat
         refine hK.out _ _ ⟨(blk_cell BK462.out 0).trans rfl, ((HB.out.cell (World.block_lt_of_cell? w _ hw463_0)).trans hw463_0), ((HB.out.cell (World.block_lt_of_cell? w _ hw464_0)).trans hw464_0)⟩ (fun hHeld => ?_)
         clear hK K
         refine norm_ (a' := ?_) ?_ ?_
         rotate_left
         ·show Act.put _ (some 31) _ = _
          exact pz
         refine pureZ (i := 17) (N := some 7) (bs 18 262143) HT_ ?_
         refine done_ (done_of HT_.out (by kernel_rfl)) ?_
         obtain ⟨_, _⟩ := b1 BK462
         try go_wp2
         go_roundg k1
         case measure => have := HK1.out; omega
         case rel => exact ⟨(wrap64 (Int.tdiv x2_1 (l1_0.length : Int))), (y465), (wrap64 (x8_1 + 1)), (by first | rfl | (simp; done) | (simp [*]; done)), (by first | rfl | (simp; done) | (simp [*]; done)), H', ⟨by have := HK1.out; omega⟩, ⟨br HO467.out⟩, ⟨bk BK462.out⟩, ⟨bz⟩⟩
        ·rw [if_neg c11] at H
         exact absurd H (by simp)
       ·rw [if_neg c10] at H
        exact absurd H (by simp)
      ·rw [if_neg c9] at H
       exact absurd H (by simp)
    ·rw [if_neg c6] at H
     exact absurd H (by simp)
   ·rw [if_neg c5] at H
    have c5b0 := decide_eq_false c5
    clear c5
    obtain rfl := Option.some.inj H
    go_wp2
    go_ret
    exact ⟨_, by first | rfl | (simp [errW_none, errW_some] <;> rfl) | (simp [*, errW_none, errW_some] <;> rfl), by (with_reducible repeat (first | apply Kd.R_alloc | apply Kd.R_drewN | apply Kd.R_drew)); exact HO_7.out, by repeat (first | (with_reducible first | exact HB.out | apply below_alloc | apply pw_below_drewN | apply below_drew1 | refine below_set ?_ GE462.out) | exact HB.out)⟩
end
section
def Rf_Sum.l0 : Nat → List Int → Int → Int → Option (Int)
 | 0, _, _, _ => none
 | k + 1, x0, x3, x4 => if x4 < (x0.length : Int) then (if 0 ≤ x4 then (Rf_Sum.l0 k x0 (wrap64 (x3 + (rd x0 x4))) (wrap64 (x4 + 1))) else (none)) else (some x3)
def Rf_Sum.f (k : Nat) (l0 : List Int) : Option (Int) := Rf_Sum.l0 k l0 0 0
theorem Rf_Sum.mono_l : ∀ k, (∀ y0 y1 y2, LeO (Rf_Sum.l0 k y0 y1 y2) (Rf_Sum.l0 (k + 1) y0 y1 y2))
 | 0 => fun _ _ _ r h => by simp [Rf_Sum.l0] at h
 | k + 1 => by
  have ih0 := Rf_Sum.mono_l k
  ·intro y0 y1 y2
   unfold Rf_Sum.l0
   repeat' first
   | (with_reducible exact ih0 _ _ _)
   | (with_reducible exact LeO.refl _)
   | (with_reducible exact LeO.none _)
   | (with_reducible refine LeO.ite ?_ ?_)
   | (with_reducible refine LeO.bind ?_ (fun _ => ?_))
   | exact ih0 _ _ _
   | exact LeO.none _
   | refine LeO.ite ?_ ?_
   | refine LeO.bind ?_ (fun _ => ?_)
theorem Rf_Sum.mono : ∀ a0 k, LeO (Rf_Sum.f k a0) (Rf_Sum.f (k + 1) a0) := by
 intro a0 k
 have ih0 := Rf_Sum.mono_l k
 unfold Rf_Sum.f
 repeat' first
   | (with_reducible exact ih0 _ _ _)
   | (with_reducible exact LeO.refl _)
   | (with_reducible exact LeO.none _)
   | (with_reducible refine LeO.ite ?_ ?_)
   | (with_reducible refine LeO.bind ?_ (fun _ => ?_))
   | exact ih0 _ _ _
   | exact LeO.none _
   | refine LeO.ite ?_ ?_
   | refine LeO.bind ?_ (fun _ => ?_)
theorem Rf_Sum.calls (k : Nat) (A0 : Option Addr) (c0 : Nat) (l0 : List Int) (r : Int) (w : World) (hr0 : Kd.C (Kd.int .i64) w A0 l0.length l0) (hc0 : l0.length ≤ c0) (h : Rf_Sum.f k l0 = some r) :
  Calls Tryd.prog 39 #[.slice A0 l0.length c0] w fun e w' => e = .returned (.int .i64 r) ∧ Drawn0 w w' := by
 have HR0 := m0 hr0
 have HC0 := m0 hc0
 clear hr0 hc0
 have H : (Rf_Sum.l0 k l0 0 0) = some r := h
 clear h
 have H' := m0 H
 clear H
 go_enter Tryd.func39, Tryd.ntmps39
 go_wp2
 go_loopg [3, 4] k (fun kq v3 v4 w' => ∃ (x3_1 : Int) (x4_1 : Int), v3 = .int .i64 x3_1 ∧ v4 = .int .i64 x4_1 ∧ Aside0 (Rf_Sum.l0 kq l0 x3_1 x4_1 = some r) ∧ Aside0 (kq ≤ k) ∧ Drawn0 w w')
 case atStart => exact ⟨(0), (0), (by first | rfl | (simp; done) | (simp [*]; done)), (by first | rfl | (simp; done) | (simp [*]; done)), H', ⟨Nat.le_refl _⟩, by repeat (first | exact Drawn0.refl _ | apply Drawn0.step)⟩
 case round =>
  clear H'
  obtain ⟨x3_1, x4_1, rfl, rfl, HA, HK1, ⟨m1, rfl⟩⟩ := hrel
  cases gk with
  | zero => exact absurd HA.out (by simp [Rf_Sum.l0])
  | succ k1 =>
   have H := HA.out
   clear HA
   simp only [Rf_Sum.l0] at H
   by_cases c2 : x4_1 < (l0.length : Int)
   ·rw [if_pos c2] at H
    have c2b0 := decide_eq_true c2
    clear c2
    by_cases c3 : 0 ≤ x4_1
    ·rw [if_pos c3] at H
     have c3b0 := decide_eq_true c3
     clear c3
     have H' := m0 H
     clear H
     have p468 : 0 ≤ (x4_1 : Int) := of_decide_eq_true (by first | (with_reducible assumption) | assumption)
     have q468 : x4_1 < (l0.length : Int) := of_decide_eq_true (by first | (with_reducible assumption) | assumption)
     obtain ⟨ad468, e468, hx468_0⟩ := Kd.at_int HR0.out x4_1 p468 q468
     cases e468
     replace p468 := eq_true p468
     replace q468 := eq_true q468
     go_wp2
     go_roundg k1
     case measure => have := HK1.out; omega
     case rel => exact ⟨(wrap64 (x3_1 + (rd l0 x4_1))), (wrap64 (x4_1 + 1)), (by first | rfl | (simp; done) | (simp [*]; done)), (by first | rfl | (simp; done) | (simp [*]; done)), H', ⟨by have := HK1.out; omega⟩, by repeat (first | exact Drawn0.refl _ | apply Drawn0.step)⟩
    ·rw [if_neg c3] at H
     exact absurd H (by simp)
   ·rw [if_neg c2] at H
    have c2b0 := decide_eq_false c2
    clear c2
    obtain rfl := Option.some.inj H
    go_wp2
    go_ret
    exact ⟨by first | rfl | (simp; done) | (simp [*]; done), by repeat (first | exact Drawn0.refl _ | apply Drawn0.step)⟩
end
section
def Rf_Centroid.l0 : Nat → List Int → Int → Int → Int → Int → Option (Int × Int × Bool)
 | 0, _, _, _, _, _ => none
 | k + 1, x0, x2, x8, x9, x10 => if x10 < (x0.length : Int) then (if x10 ≤ x2 then (if 0 ≤ x10 then (Rf_Centroid.l0 k x0 x2 (wrap64 (x8 + (wrap64 (x10 * (rd x0 x10))))) (wrap64 (x9 + (rd x0 x10))) (wrap64 (x10 + 1))) else (none)) else (if x9 = 0 then (some (0, 0, false)) else ((Bs_Lowest.f k x8 x9).bind fun bt472 => (some (bt472.1, bt472.2, true))))) else (if x9 = 0 then (some (0, 0, false)) else ((Bs_Lowest.f k x8 x9).bind fun bt474 => (some (bt474.1, bt474.2, true))))
def Rf_Centroid.f (k : Nat) (l0 : List Int) (a1 : Int) (a2 : Int) : Option (Int × Int × Bool) := Rf_Centroid.l0 k l0 a2 0 0 (mx 0 a1)
theorem Rf_Centroid.mono_l : ∀ k, (∀ y0 y1 y2 y3 y4, LeO (Rf_Centroid.l0 k y0 y1 y2 y3 y4) (Rf_Centroid.l0 (k + 1) y0 y1 y2 y3 y4))
 | 0 => fun _ _ _ _ _ r h => by simp [Rf_Centroid.l0] at h
 | k + 1 => by
  have ih0 := Rf_Centroid.mono_l k
  ·intro y0 y1 y2 y3 y4
   unfold Rf_Centroid.l0
   repeat' first
   | (with_reducible exact ih0 _ _ _ _ _)
   | (with_reducible exact Bs_Lowest.mono _ _ _)
   | (with_reducible exact LeO.refl _)
   | (with_reducible exact LeO.none _)
   | (with_reducible refine LeO.ite ?_ ?_)
   | (with_reducible refine LeO.bind ?_ (fun _ => ?_))
   | exact ih0 _ _ _ _ _
   | exact Bs_Lowest.mono _ _ _
   | exact LeO.none _
   | refine LeO.ite ?_ ?_
   | refine LeO.bind ?_ (fun _ => ?_)
theorem Rf_Centroid.mono : ∀ a0 a1 a2 k, LeO (Rf_Centroid.f k a0 a1 a2) (Rf_Centroid.f (k + 1) a0 a1 a2) := by
 intro a0 a1 a2 k
 have ih0 := Rf_Centroid.mono_l k
 unfold Rf_Centroid.f
 repeat' first
   | (with_reducible exact ih0 _ _ _ _ _)
   | (with_reducible exact Bs_Lowest.mono _ _ _)
   | (with_reducible exact LeO.refl _)
   | (with_reducible exact LeO.none _)
   | (with_reducible refine LeO.ite ?_ ?_)
   | (with_reducible refine LeO.bind ?_ (fun _ => ?_))
   | exact ih0 _ _ _ _ _
   | exact Bs_Lowest.mono _ _ _
   | exact LeO.none _
   | refine LeO.ite ?_ ?_
   | refine LeO.bind ?_ (fun _ => ?_)
theorem Rf_Centroid.calls (k : Nat) (A0 : Option Addr) (c0 : Nat) (l0 : List Int) (a1 : Int) (a2 : Int) (r1 : Int) (r2 : Int) (r3 : Bool) (w : World) (hr0 : Kd.C (Kd.int .i64) w A0 l0.length l0) (hc0 : l0.length ≤ c0) (h : Rf_Centroid.f k l0 a1 a2 = some (r1, r2, r3)) :
  Calls Tryd.prog 60 #[.slice A0 l0.length c0, .int .i64 a1, .int .i64 a2] w fun e w' => e = .returned (.tuple #[.agg #[.int .i64 r1, .int .i64 r2], .bool r3]) ∧ Below w.heap.size w w' := by
 have hu26 := Tryd.underlying26
 have HR0 := m0 hr0
 have HC0 := m0 hc0
 clear hr0 hc0
 have HB := m0 (Below.refl w.heap.size w)
 have H : (Rf_Centroid.l0 k l0 a2 0 0 (mx 0 a1)) = some (r1, r2, r3) := h
 clear h
 obtain ⟨ji4, hji4⟩ : ∃ j_ : Int, (mx 0 a1) = j_ := ⟨_, rfl⟩
 replace H : (Rf_Centroid.l0 k l0 a2 0 0 ji4) = some (r1, r2, r3) := by first | (rw [hji4] at H; exact H) | (simp only [hji4] at H ⊢; exact H)
 (try (have hji4l : 0 ≤ ji4 := by (rw [← hji4]; unfold mx; (repeat' split) <;> omega)))
 (try (have hji4m : 0 ≤ ji4 := by omega))
 have hji4_ : (if 0 < a1 then a1 else 0) = ji4 := hji4
 have H' := m0 H
 clear H
 go_enter Tryd.func60, Tryd.ntmps60
 go_wp2_with (first | ((with_reducible refine gate_dst (N := 6) rfl ?_); refine be 6 26 #[.int .i64 0, .int .i64 0] ?_; intro gb469 hg w5 hbox hb; have BK469 := m0 hbox; have GW469 := m0 (bg (n := w.heap.size) hg); have GE469 := m0 (bg (n := w.heap.size) hg); replace HB := sb HB hb; clear hb hbox hg))
 repeat (go_quiet (first | ((with_reducible refine gate_dst (N := 6) rfl ?_); refine be 6 26 #[.int .i64 0, .int .i64 0] ?_; intro gb469 hg w5 hbox hb; have BK469 := m0 hbox; have GW469 := m0 (bg (n := w.heap.size) hg); have GE469 := m0 (bg (n := w.heap.size) hg); replace HB := sb HB hb; clear hb hbox hg)); try go_wp2_with (first | ((with_reducible refine gate_dst (N := 6) rfl ?_); refine be 6 26 #[.int .i64 0, .int .i64 0] ?_; intro gb469 hg w5 hbox hb; have BK469 := m0 hbox; have GW469 := m0 (bg (n := w.heap.size) hg); have GE469 := m0 (bg (n := w.heap.size) hg); replace HB := sb HB hb; clear hb hbox hg)))
 go_loopg [8, 9, 10] k (fun kq v8 v9 v10 w' => ∃ (x8_1 : Int) (x9_1 : Int) (x10_1 : Int), v8 = .int .i64 x8_1 ∧ v9 = .int .i64 x9_1 ∧ v10 = .int .i64 x10_1 ∧ Aside0 (Rf_Centroid.l0 kq l0 a2 x8_1 x9_1 x10_1 = some (r1, r2, r3)) ∧ Aside0 (kq ≤ k) ∧ Aside0 (w'.heap[gb469]? = some (.cells #[.int .i64 0, .int .i64 0] 26 (0, 0))) ∧ Aside0 (Below w.heap.size w w'))
 case atStart => exact ⟨(0), (0), (ji4), (by first | rfl | (simp; done) | (simp [*]; done)), (by first | rfl | (simp; done) | (simp [*]; done)), (by first | rfl | (simp; done) | (simp only [← hji4] <;> (first | rfl | simp)) | (simp [*]; done)), H', ⟨Nat.le_refl _⟩, ⟨bk BK469.out⟩, ⟨bz⟩⟩
 case round =>
  clear H'
  try clear p2
  obtain ⟨x8_1, x9_1, x10_1, rfl, rfl, rfl, HA, HK1, BK469, HB⟩ := hrel
  cases gk with
  | zero => exact absurd HA.out (by simp [Rf_Centroid.l0])
  | succ k1 =>
   have H := HA.out
   clear HA
   simp only [Rf_Centroid.l0] at H
   by_cases c6 : x10_1 < (l0.length : Int)
   ·rw [if_pos c6] at H
    have c6b0 := decide_eq_true c6
    clear c6
    by_cases c7 : x10_1 ≤ a2
    ·rw [if_pos c7] at H
     have c7b0 := decide_eq_true c7
     clear c7
     by_cases c8 : 0 ≤ x10_1
     ·rw [if_pos c8] at H
      have c8b0 := decide_eq_true c8
      clear c8
      have H' := m0 H
      clear H
      have p470 : 0 ≤ (x10_1 : Int) := of_decide_eq_true (by first | (with_reducible assumption) | assumption)
      have q470 : x10_1 < (l0.length : Int) := of_decide_eq_true (by first | (with_reducible assumption) | assumption)
      obtain ⟨ad470, e470, hx470_0⟩ := Kd.at_int HR0.out x10_1 p470 q470
      cases e470
      replace hx470_0 := (HB.out.cell (World.block_lt_of_cell? w _ hx470_0)).trans hx470_0
      replace p470 := eq_true p470
      replace q470 := eq_true q470
      have p471 : 0 ≤ (x10_1 : Int) := of_decide_eq_true (by first | (with_reducible assumption) | assumption)
      have q471 : x10_1 < (l0.length : Int) := of_decide_eq_true (by first | (with_reducible assumption) | assumption)
      obtain ⟨ad471, e471, hx471_0⟩ := Kd.at_int HR0.out x10_1 p471 q471
      obtain rfl : ad470 = ad471 := (by injection e471)
      replace hx471_0 := (HB.out.cell (World.block_lt_of_cell? w _ hx471_0)).trans hx471_0
      replace p471 := eq_true p471
      replace q471 := eq_true q471
      go_wp2
      repeat (go_quiet (fail); try go_wp2)
      go_roundg k1
      case measure => have := HK1.out; omega
      case rel => exact ⟨(wrap64 (x8_1 + (wrap64 (x10_1 * (rd l0 x10_1))))), (wrap64 (x9_1 + (rd l0 x10_1))), (wrap64 (x10_1 + 1)), (by first | rfl | (simp; done) | (simp [*]; done)), (by first | rfl | (simp; done) | (simp [*]; done)), (by first | rfl | (simp; done) | (simp [*]; done)), H', ⟨by have := HK1.out; omega⟩, ⟨bk BK469.out⟩, ⟨bz⟩⟩
     ·rw [if_neg c8] at H
      exact absurd H (by simp)
    ·rw [if_neg c7] at H
     have c7b0 := decide_eq_false c7
     clear c7
     by_cases c9 : x9_1 = 0
     ·rw [if_pos c9] at H
      have c9b0 := beq_iff_eq.mpr c9
      have c9b1 := bne_eq_false_iff_eq.mpr c9
      clear c9
      simp only [Option.some.injEq, Prod.mk.injEq] at H
      obtain ⟨rfl, rfl, rfl⟩ := H
      obtain ⟨_, _, _, _⟩ := b2 BK469
      go_wp2
      repeat (go_quiet (fail); try go_wp2)
      refine bodyPost_ret (results_ct rfl _ _ gb469 26 #[.int .i64 0, .int .i64 0] (0, 0) _ rfl (bq BK469.out) Tryd.underlying26 rfl (by kernel_rfl)) rfl ?_
      exact ⟨by first | rfl | (simp [errW_none, errW_some] <;> rfl) | (simp only [← hji4]; first | rfl | (simp [errW_none, errW_some] <;> rfl)) | (simp [*, errW_none, errW_some] <;> rfl), by repeat (first | (with_reducible first | exact HB.out | apply below_alloc | apply pw_below_drewN | apply below_drew1 | refine below_set ?_ GE469.out) | exact HB.out)⟩
     ·rw [if_neg c9] at H
      have c9b0 := beq_eq_false_iff_ne.mpr c9
      have c9b1 := bne_iff_ne.mpr c9
      replace H := ob H
      obtain ⟨⟨t472, t473⟩, A110, H⟩ := H
      (try dsimp only at H)
      have A11 := m0 A110
      clear A110
      simp only [Option.some.injEq, Prod.mk.injEq] at H
      obtain ⟨rfl, rfl, rfl⟩ := H
      go_wp2_with (first | (go_at_call 41; (with_reducible refine (Bs_Lowest.calls k1 x8_1 x9_1 t472 t473 _ A11.out).mono ?_); rintro e w12 ⟨rfl, hb⟩; replace BK469 := bb BK469 hb; replace HB := sb HB hb; (try clear hb); obtain ⟨hcz13_0, hcz13_1, hfz13_0, hfz13_1⟩ := b2 BK469))
      repeat (go_quiet (first | (go_at_call 41; (with_reducible refine (Bs_Lowest.calls k1 x8_1 x9_1 t472 t473 _ A11.out).mono ?_); rintro e w12 ⟨rfl, hb⟩; replace BK469 := bb BK469 hb; replace HB := sb HB hb; (try clear hb); obtain ⟨hcz13_0, hcz13_1, hfz13_0, hfz13_1⟩ := b2 BK469)); try go_wp2_with (first | (go_at_call 41; (with_reducible refine (Bs_Lowest.calls k1 x8_1 x9_1 t472 t473 _ A11.out).mono ?_); rintro e w12 ⟨rfl, hb⟩; replace BK469 := bb BK469 hb; replace HB := sb HB hb; (try clear hb); obtain ⟨hcz13_0, hcz13_1, hfz13_0, hfz13_1⟩ := b2 BK469)))
      refine bodyPost_ret (results_ct rfl _ _ gb469 26 #[.int .i64 t472, .int .i64 t473] (0, 0) _ rfl (bq BK469.out) Tryd.underlying26 rfl (by kernel_rfl)) rfl ?_
      exact ⟨by first | rfl | (simp [errW_none, errW_some] <;> rfl) | (simp only [← hji4]; first | rfl | (simp [errW_none, errW_some] <;> rfl)) | (simp [*, errW_none, errW_some] <;> rfl), by repeat (first | (with_reducible first | exact HB.out | apply below_alloc | apply pw_below_drewN | apply below_drew1 | refine below_set ?_ GE469.out) | exact HB.out)⟩
   ·rw [if_neg c6] at H
    have c6b0 := decide_eq_false c6
    clear c6
    by_cases c14 : x9_1 = 0
    ·rw [if_pos c14] at H
     have c14b0 := beq_iff_eq.mpr c14
     have c14b1 := bne_eq_false_iff_eq.mpr c14
     clear c14
     simp only [Option.some.injEq, Prod.mk.injEq] at H
     obtain ⟨rfl, rfl, rfl⟩ := H
     obtain ⟨_, _, _, _⟩ := b2 BK469
     go_wp2
     repeat (go_quiet (fail); try go_wp2)
     refine bodyPost_ret (results_ct rfl _ _ gb469 26 #[.int .i64 0, .int .i64 0] (0, 0) _ rfl (bq BK469.out) Tryd.underlying26 rfl (by kernel_rfl)) rfl ?_
     exact ⟨by first | rfl | (simp [errW_none, errW_some] <;> rfl) | (simp only [← hji4]; first | rfl | (simp [errW_none, errW_some] <;> rfl)) | (simp [*, errW_none, errW_some] <;> rfl), by repeat (first | (with_reducible first | exact HB.out | apply below_alloc | apply pw_below_drewN | apply below_drew1 | refine below_set ?_ GE469.out) | exact HB.out)⟩
    ·rw [if_neg c14] at H
     have c14b0 := beq_eq_false_iff_ne.mpr c14
     have c14b1 := bne_iff_ne.mpr c14
     replace H := ob H
     obtain ⟨⟨t474, t475⟩, A160, H⟩ := H
     (try dsimp only at H)
     have A16 := m0 A160
     clear A160
     simp only [Option.some.injEq, Prod.mk.injEq] at H
     obtain ⟨rfl, rfl, rfl⟩ := H
     go_wp2_with (first | (go_at_call 41; (with_reducible refine (Bs_Lowest.calls k1 x8_1 x9_1 t474 t475 _ A16.out).mono ?_); rintro e w17 ⟨rfl, hb⟩; replace BK469 := bb BK469 hb; replace HB := sb HB hb; (try clear hb); obtain ⟨hcz18_0, hcz18_1, hfz18_0, hfz18_1⟩ := b2 BK469))
     repeat (go_quiet (first | (go_at_call 41; (with_reducible refine (Bs_Lowest.calls k1 x8_1 x9_1 t474 t475 _ A16.out).mono ?_); rintro e w17 ⟨rfl, hb⟩; replace BK469 := bb BK469 hb; replace HB := sb HB hb; (try clear hb); obtain ⟨hcz18_0, hcz18_1, hfz18_0, hfz18_1⟩ := b2 BK469)); try go_wp2_with (first | (go_at_call 41; (with_reducible refine (Bs_Lowest.calls k1 x8_1 x9_1 t474 t475 _ A16.out).mono ?_); rintro e w17 ⟨rfl, hb⟩; replace BK469 := bb BK469 hb; replace HB := sb HB hb; (try clear hb); obtain ⟨hcz18_0, hcz18_1, hfz18_0, hfz18_1⟩ := b2 BK469)))
     refine bodyPost_ret (results_ct rfl _ _ gb469 26 #[.int .i64 t474, .int .i64 t475] (0, 0) _ rfl (bq BK469.out) Tryd.underlying26 rfl (by kernel_rfl)) rfl ?_
     exact ⟨by first | rfl | (simp [errW_none, errW_some] <;> rfl) | (simp only [← hji4]; first | rfl | (simp [errW_none, errW_some] <;> rfl)) | (simp [*, errW_none, errW_some] <;> rfl), by repeat (first | (with_reducible first | exact HB.out | apply below_alloc | apply pw_below_drewN | apply below_drew1 | refine below_set ?_ GE469.out) | exact HB.out)⟩
end
end Go.Proofs.YtjnkphmcndaijaaDoor.A
