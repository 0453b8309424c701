/- Walks of the program's functions (printed, made shorter), each with what it computes. -/
import Derived.Test.YtjnkphmcndaijaaDoorBes04
import Derived.Test.YtjnkphmcndaijaaDoorBes06
import Derived.Test.YtjnkphmcndaijaaDoorBes03
import Derived.Shelf.Abstract
import Derived.Shelf.RegionOpen
import Derived.Test.YtjnkphmcndaijaaDoorBes05
namespace Go.Proofs.YtjnkphmcndaijaaDoor.A
set_option maxHeartbeats 8000000
set_option maxRecDepth 100000
open Go.RowKit Go.Proofs.YtjnkphmcndaijaaDoorW.PrintWords Go.Proofs.YtjnkphmcndaijaaDoorW.PrintLast Go.Proofs.YtjnkphmcndaijaaDoorW.PrintMore
attribute [local go_sem] max2_int min2_int max_two min_two max_three min_three max_four min_four
set_option linter.unusedVariables false
set_option linter.unusedSimpArgs false
section
def Sp_centroid.l0 : Nat → List Int → Int → Int → Int → Int → Option (Int × Int)
 | 0, _, _, _, _, _ => none
 | k + 1, x0, x1, x2, x7, x8 => if x8 < x2 then (if 0 ≤ x8 then (if x8 < (x0.length : Int) then (Sp_centroid.l0 k x0 x1 x2 (wrap64 (x7 + (wrap64 (x8 * (rd x0 x8))))) (wrap64 (x8 + 1))) else (none)) else (none)) else (if 0 ≤ x1 then (if x1 ≤ x2 then (if x2 ≤ (x0.length : Int) then ((line_sum.f k ((x0.take (x2 : Int).toNat).drop (x1 : Int).toNat)).bind fun t157 => ((line_fraction.f k x7 t157).bind fun bt158 => (some (bt158.1, bt158.2)))) else (none)) else (none)) else (none))
def Sp_centroid.f (k : Nat) (l0 : List Int) (a1 : Int) (a2 : Int) : Option (Int × Int) := Sp_centroid.l0 k l0 a1 a2 0 a1
theorem Sp_centroid.mono_l : ∀ k, (∀ y0 y1 y2 y3 y4, LeO (Sp_centroid.l0 k y0 y1 y2 y3 y4) (Sp_centroid.l0 (k + 1) y0 y1 y2 y3 y4))
 | 0 => fun _ _ _ _ _ r h => by simp [Sp_centroid.l0] at h
 | k + 1 => by
  have ih0 := Sp_centroid.mono_l k
  ·intro y0 y1 y2 y3 y4
   unfold Sp_centroid.l0
   repeat' first
   | (with_reducible exact ih0 _ _ _ _ _)
   | (with_reducible exact line_fraction.mono _ _ _)
   | (with_reducible exact line_sum.mono _ _)
   | (with_reducible exact LeO.refl _)
   | (with_reducible exact LeO.none _)
   | (with_reducible refine LeO.ite ?_ ?_)
   | (with_reducible refine LeO.bind ?_ (fun _ => ?_))
   | exact ih0 _ _ _ _ _
   | exact line_fraction.mono _ _ _
   | exact line_sum.mono _ _
   | exact LeO.none _
   | refine LeO.ite ?_ ?_
   | refine LeO.bind ?_ (fun _ => ?_)
theorem Sp_centroid.mono : ∀ a0 a1 a2 k, LeO (Sp_centroid.f k a0 a1 a2) (Sp_centroid.f (k + 1) a0 a1 a2) := by
 intro a0 a1 a2 k
 have ih0 := Sp_centroid.mono_l k
 unfold Sp_centroid.f
 repeat' first
   | (with_reducible exact ih0 _ _ _ _ _)
   | (with_reducible exact line_fraction.mono _ _ _)
   | (with_reducible exact line_sum.mono _ _)
   | (with_reducible exact LeO.refl _)
   | (with_reducible exact LeO.none _)
   | (with_reducible refine LeO.ite ?_ ?_)
   | (with_reducible refine LeO.bind ?_ (fun _ => ?_))
   | exact ih0 _ _ _ _ _
   | exact line_fraction.mono _ _ _
   | exact line_sum.mono _ _
   | exact LeO.none _
   | refine LeO.ite ?_ ?_
   | refine LeO.bind ?_ (fun _ => ?_)
theorem Sp_centroid.calls (k : Nat) (A0 : Option Addr) (c0 : Nat) (l0 : List Int) (a1 : Int) (a2 : Int) (r1 : Int) (r2 : Int) (w : World) (hr0 : Kd.C (Kd.int .i64) w A0 l0.length l0) (hc0 : l0.length ≤ c0) (h : Sp_centroid.f k l0 a1 a2 = some (r1, r2)) :
  Calls Tryd.prog 124 #[.slice A0 l0.length c0, .int .i64 a1, .int .i64 a2] w fun e w' => e = .returned (.agg #[.int .i64 r1, .int .i64 r2]) ∧ Below w.heap.size w w' := by
 have hu26 := Tryd.underlying26
 have HR0 := m0 hr0
 have HC0 := m0 hc0
 clear hr0 hc0
 have HB := m0 (Below.refl w.heap.size w)
 have H : (Sp_centroid.l0 k l0 a1 a2 0 a1) = some (r1, r2) := h
 clear h
 have H' := m0 H
 clear H
 go_enter Tryd.func124, Tryd.ntmps124
 go_wp2_with (first | ((with_reducible refine gate_dst (N := 6) rfl ?_); refine be 6 26 #[.int .i64 0, .int .i64 0] ?_; intro gb154 hg w4 hbox hb; have BK154 := m0 hbox; have GW154 := m0 (bg (n := w.heap.size) hg); have GE154 := m0 (bg (n := w.heap.size) hg); replace HB := sb HB hb; clear hb hbox hg))
 go_loopg [7, 8] k (fun kq v7 v8 w' => ∃ (x7_1 : Int) (x8_1 : Int), v7 = .int .i64 x7_1 ∧ v8 = .int .i64 x8_1 ∧ Aside0 (Sp_centroid.l0 kq l0 a1 a2 x7_1 x8_1 = some (r1, r2)) ∧ Aside0 (kq ≤ k) ∧ Aside0 (w'.heap[gb154]? = some (.cells #[.int .i64 0, .int .i64 0] 26 (0, 0))) ∧ Aside0 (Below w.heap.size w w'))
 case atStart => exact ⟨(0), (a1), (by first | rfl | (simp; done) | (simp [*]; done)), (by first | rfl | (simp; done) | (simp [*]; done)), H', ⟨Nat.le_refl _⟩, ⟨bk BK154.out⟩, ⟨bz⟩⟩
 case round =>
  clear H'
  try clear c1
  try clear p2
  obtain ⟨x7_1, x8_1, rfl, rfl, HA, HK1, BK154, HB⟩ := hrel
  cases gk with
  | zero => exact absurd HA.out (by simp [Sp_centroid.l0])
  | succ k1 =>
   have H := HA.out
   clear HA
   simp only [Sp_centroid.l0] at H
   by_cases c5 : x8_1 < a2
   ·rw [if_pos c5] at H
    have c5b0 := decide_eq_true c5
    clear c5
    by_cases c6 : 0 ≤ x8_1
    ·rw [if_pos c6] at H
     have c6b0 := decide_eq_true c6
     clear c6
     by_cases c7 : x8_1 < (l0.length : Int)
     ·rw [if_pos c7] at H
      have c7b0 := decide_eq_true c7
      clear c7
      have H' := m0 H
      clear H
      have p155 : 0 ≤ (x8_1 : Int) := of_decide_eq_true (by first | (with_reducible assumption) | assumption)
      have q155 : x8_1 < (l0.length : Int) := of_decide_eq_true (by first | (with_reducible assumption) | assumption)
      obtain ⟨ad155, e155, hx155_0⟩ := Kd.at_int HR0.out x8_1 p155 q155
      cases e155
      replace hx155_0 := (HB.out.cell (World.block_lt_of_cell? w _ hx155_0)).trans hx155_0
      replace p155 := eq_true p155
      replace q155 := eq_true q155
      go_wp2
      go_roundg k1
      case measure => have := HK1.out; omega
      case rel => exact ⟨(wrap64 (x7_1 + (wrap64 (x8_1 * (rd l0 x8_1))))), (wrap64 (x8_1 + 1)), (by first | rfl | (simp; done) | (simp [*]; done)), (by first | rfl | (simp; done) | (simp [*]; done)), H', ⟨by have := HK1.out; omega⟩, ⟨bk BK154.out⟩, ⟨bz⟩⟩
     ·rw [if_neg c7] at H
      exact absurd H (by simp)
    ·rw [if_neg c6] at H
     exact absurd H (by simp)
   ·rw [if_neg c5] at H
    have c5b0 := decide_eq_false c5
    clear c5
    by_cases c8 : 0 ≤ a1
    ·rw [if_pos c8] at H
     have c8b0 := eq_true c8
     have c8b1 := decide_eq_true c8
     clear c8
     by_cases c9 : a1 ≤ a2
     ·rw [if_pos c9] at H
      have c9b0 := eq_true c9
      have c9b1 := decide_eq_true c9
      clear c9
      by_cases c10 : a2 ≤ (l0.length : Int)
      ·rw [if_pos c10] at H
       have c10b0 := eq_true c10
       have c10b1 := decide_eq_true c10
       clear c10
       replace H := ob H
       obtain ⟨t157, A110, H⟩ := H
       (try dsimp only at H)
       have A11 := m0 A110
       clear A110
       replace H := ob H
       obtain ⟨⟨t158, t159⟩, A120, H⟩ := H
       (try dsimp only at H)
       have A12 := m0 A120
       clear A120
       simp only [Option.some.injEq, Prod.mk.injEq] at H
       obtain ⟨rfl, rfl⟩ := H
       obtain ⟨i013, hi013, _, hsz13, _⟩ := info_parts info3
       obtain ⟨A13, hcut13, hA13, hC13⟩ := print_mid_of (P := Tryd.prog) (Value.int .i64) 0 120 3 .i64 .i64 Tryd.underlying120 hi013 hsz13 A0 c0 l0 a1 a2 (of_decide_eq_true (by first | (with_reducible assumption) | assumption)) (by first | omega | exact of_decide_eq_true (by first | (with_reducible assumption) | assumption)) (of_decide_eq_true (by first | (with_reducible assumption) | assumption)) HC0.out
       have HR156 := m0 (Kd.C_of_reads (h1 := fun _ => rfl) (hA13 _ (Kd.reads_of_C HR0.out)))
       have HC156 := m0 hC13
       clear hA13 hC13 hi013 hsz13
       go_wp2_with (first | ((with_reducible refine gate_callee (f := 125) rfl ?_); refine goesL_ (some 28) rfl rfl Tryd.func125 (by kernel_rfl) rfl #[.slice A13 ((l0.take (a2 : Int).toNat).drop (a1 : Int).toNat).length (c0 - a1.toNat)] rfl (by (try simp only [List.map_toArray, List.map_cons, List.map_nil]); first | done | (rw [show ((l0.take (a2 : Int).toNat).drop (a1 : Int).toNat).length = (a2.toNat - a1.toNat) from (by rw [List.length_drop, List.length_take]; have h_ : (a2 : Int) ≤ (l0.length : Int) := of_decide_eq_true (by first | (with_reducible assumption) | assumption); omega)] <;> rfl) | rfl | (simp only [List.length_drop, List.length_take]; rfl)) ?_; (with_reducible refine (line_sum.calls k1 _ _ ((l0.take (a2 : Int).toNat).drop (a1 : Int).toNat) t157 _ ?side1 ?side2 A11.out).mono ?_); (case side1 => exact cb HR156 HB); (case side2 => exact HC156.out); rintro e w' ⟨rfl, ⟨nd, rfl⟩⟩; refine ⟨_, rfl, ?_⟩; (try (rw [drewN_self wr]; generalize hq_ : World.drewN wr _ = wr; replace BK154 := gd BK154 hq_; replace HB := gs HB hq_; clear hq_))) | ((with_reducible refine gate_callee (f := 96) rfl ?_); refine gl (some 29) Tryd.func96 #[.int .i64 x7_1, .int .i64 t157] ?_; (with_reducible refine (line_fraction.calls k1 x7_1 t157 t158 t159 _ A12.out).mono ?_); rintro e w14 ⟨rfl, hb⟩; refine ⟨_, rfl, ?_⟩; replace BK154 := bb BK154 hb; replace HB := sb HB hb; (try clear hb); obtain ⟨_, _, _, _⟩ := b2 BK154))
       refine bodyPost_ret (results_cell_row rfl _ _ gb154 26 #[.int .i64 t158, .int .i64 t159] (0, 0) _ rfl (bq BK154.out) Tryd.underlying26 rfl (by kernel_rfl)) rfl ?_
       exact ez
      ·rw [if_neg c10] at H
       exact absurd H (by simp)
     ·rw [if_neg c9] at H
      exact absurd H (by simp)
    ·rw [if_neg c8] at H
     exact absurd H (by simp)
end
section
def Sp_whole.f (k : Nat) (l0 : List Int) : Option (Int × Int) := (Sp_centroid.f k l0 0 (l0.length : Int)).bind fun bt161 => (some (bt161.1, bt161.2))
theorem Sp_whole.mono : ∀ a0 k, LeO (Sp_whole.f k a0) (Sp_whole.f (k + 1) a0) := by
 intro a0 k
 unfold Sp_whole.f
 repeat' first
   | (with_reducible exact Sp_centroid.mono _ _ _ _)
   | (with_reducible exact LeO.refl _)
   | (with_reducible exact LeO.none _)
   | (with_reducible refine LeO.ite ?_ ?_)
   | (with_reducible refine LeO.bind ?_ (fun _ => ?_))
   | exact Sp_centroid.mono _ _ _ _
   | exact LeO.none _
   | refine LeO.ite ?_ ?_
   | refine LeO.bind ?_ (fun _ => ?_)
theorem Sp_whole.calls (k : Nat) (A0 : Option Addr) (c0 : Nat) (l0 : List Int) (r1 : Int) (r2 : Int) (w : World) (hr0 : Kd.C (Kd.int .i64) w A0 l0.length l0) (hc0 : l0.length ≤ c0) (h : Sp_whole.f k l0 = some (r1, r2)) :
  Calls Tryd.prog 193 #[.slice A0 l0.length c0] w fun e w' => e = .returned (.agg #[.int .i64 r1, .int .i64 r2]) ∧ Below w.heap.size w w' := by
 have hu26 := Tryd.underlying26
 have HR0 := m0 hr0
 have HC0 := m0 hc0
 clear hr0 hc0
 have HB := m0 (Below.refl w.heap.size w)
 have H : ((Sp_centroid.f k l0 0 (l0.length : Int)).bind fun bt161 => (some (bt161.1, bt161.2))) = some (r1, r2) := h
 clear h
 replace H := ob H
 obtain ⟨⟨t161, t162⟩, A20, H⟩ := H
 (try dsimp only at H)
 have A2 := m0 A20
 clear A20
 simp only [Option.some.injEq, Prod.mk.injEq] at H
 obtain ⟨rfl, rfl⟩ := H
 go_enter Tryd.func193, Tryd.ntmps193
 go_wp2_with (first | ((with_reducible refine gate_dst (N := 2) rfl ?_); refine be 2 26 #[.int .i64 0, .int .i64 0] ?_; intro gb160 hg w3 hbox hb; have BK160 := m0 hbox; have GW160 := m0 (bg (n := w.heap.size) hg); have GE160 := m0 (bg (n := w.heap.size) hg); replace HB := sb HB hb; clear hb hbox hg) | ((with_reducible refine gate_callee (f := 124) rfl ?_); refine gl (some 6) Tryd.func124 #[.slice A0 l0.length c0, .int .i64 0, .int .i64 (l0.length : Int)] ?_; (with_reducible refine (Sp_centroid.calls k _ _ l0 0 (l0.length : Int) t161 t162 _ ?side1 ?side2 A2.out).mono ?_); (case side1 => exact cb HR0 HB); (case side2 => exact HC0.out); rintro e w4 ⟨rfl, hb⟩; refine ⟨_, rfl, ?_⟩; replace BK160 := bb BK160 hb; replace HB := sb HB hb; (try clear hb); obtain ⟨_, _, _, _⟩ := b2 BK160))
 refine bodyPost_ret (results_cell_row rfl _ _ gb160 26 #[.int .i64 t161, .int .i64 t162] (0, 0) _ rfl (bq BK160.out) Tryd.underlying26 rfl (by kernel_rfl)) rfl ?_
 exact ez
end
section
def Sp_parabola.j0 : Nat → List Int → Int → Bool → Option (Int × Int)
 | 0, _, _, _ => none
 | k + 1, x0, x3, x15 => if x15 = true then ((line_fraction.f k x3 1).bind fun bt165 => (some (bt165.1, bt165.2))) else (if 0 ≤ x3 then (if x3 < (x0.length : Int) then (if 0 ≤ (wrap64 (x3 - 1)) then (if (wrap64 (x3 - 1)) < (x0.length : Int) then (if 0 ≤ (wrap64 (x3 + 1)) then (if (wrap64 (x3 + 1)) < (x0.length : Int) then (if (wrap64 ((wrap64 ((wrap64 (2 * (rd x0 x3))) - (rd x0 (wrap64 (x3 - 1))))) - (rd x0 (wrap64 (x3 + 1))))) ≤ 0 then ((line_fraction.f k x3 1).bind fun bt170 => (some (bt170.1, bt170.2))) else ((line_fraction.f k (wrap64 ((wrap64 ((wrap64 ((wrap64 (2 * (wrap64 ((wrap64 ((wrap64 (2 * (rd x0 x3))) - (rd x0 (wrap64 (x3 - 1))))) - (rd x0 (wrap64 (x3 + 1))))))) * x3)) + (rd x0 (wrap64 (x3 + 1))))) - (rd x0 (wrap64 (x3 - 1))))) (wrap64 (2 * (wrap64 ((wrap64 ((wrap64 (2 * (rd x0 x3))) - (rd x0 (wrap64 (x3 - 1))))) - (rd x0 (wrap64 (x3 + 1)))))))).bind fun bt174 => (some (bt174.1, bt174.2)))) else (none)) else (none)) else (none)) else (none)) else (none)) else (none))
def Sp_parabola.f (k : Nat) (l0 : List Int) : Option (Int × Int) := (Sp_peak.f k l0).bind fun t164 => (if t164 = 0 then (Sp_parabola.j0 k l0 t164 true) else (Sp_parabola.j0 k l0 t164 (t164 == (wrap64 ((l0.length : Int) - 1)))))
theorem Sp_parabola.mono_l : ∀ k, (∀ y0 y1 y2, LeO (Sp_parabola.j0 k y0 y1 y2) (Sp_parabola.j0 (k + 1) y0 y1 y2))
 | 0 => fun _ _ _ r h => by simp [Sp_parabola.j0] at h
 | k + 1 => by
  have ih0 := Sp_parabola.mono_l k
  ·intro y0 y1 y2
   unfold Sp_parabola.j0
   repeat' first
   | (with_reducible exact ih0 _ _ _)
   | (with_reducible exact line_fraction.mono _ _ _)
   | (with_reducible exact Sp_peak.mono _ _)
   | (with_reducible exact LeO.refl _)
   | (with_reducible exact LeO.none _)
   | (with_reducible refine LeO.ite ?_ ?_)
   | (with_reducible refine LeO.bind ?_ (fun _ => ?_))
   | exact ih0 _ _ _
   | exact line_fraction.mono _ _ _
   | exact Sp_peak.mono _ _
   | exact LeO.none _
   | refine LeO.ite ?_ ?_
   | refine LeO.bind ?_ (fun _ => ?_)
theorem Sp_parabola.mono : ∀ a0 k, LeO (Sp_parabola.f k a0) (Sp_parabola.f (k + 1) a0) := by
 intro a0 k
 have ih0 := Sp_parabola.mono_l k
 unfold Sp_parabola.f
 repeat' first
   | (with_reducible exact ih0 _ _ _)
   | (with_reducible exact line_fraction.mono _ _ _)
   | (with_reducible exact Sp_peak.mono _ _)
   | (with_reducible exact LeO.refl _)
   | (with_reducible exact LeO.none _)
   | (with_reducible refine LeO.ite ?_ ?_)
   | (with_reducible refine LeO.bind ?_ (fun _ => ?_))
   | exact ih0 _ _ _
   | exact line_fraction.mono _ _ _
   | exact Sp_peak.mono _ _
   | exact LeO.none _
   | refine LeO.ite ?_ ?_
   | refine LeO.bind ?_ (fun _ => ?_)
def Sp_parabola.T4 : Bool × List (List Nat × List Nat) := (true, [([], []), ([], []), ([0, 1], [0, 1]), ([2], [2]), ([3], [3]), ([], []), ([], []), ([6], [6]), ([5, 7], [5, 7]), ([8], [8]), ([4, 9], [4, 9]), ([], []), ([], []), ([12], [12]), ([11, 13], [11, 13]), ([14], [14]), ([10, 15], [10, 15]), ([16, 0, 1, 2, 3, 4, 5, 6, 7, 8, 9, 10, 11, 12, 13, 14, 15, 16], [16])])
def Sp_parabola.B4 : List Nat := [0, 0, 3, 7, 15, 0, 0, 64, 224, 480, 1023, 0, 0, 4096, 14336, 30720, 65535, 131071]
theorem Sp_parabola.tab4 : rtab .any (opsOf Tryd.f194 4) = Sp_parabola.T4 := by kernel_rfl
theorem Sp_parabola.bits4 : waitsOk Sp_parabola.T4.2 Sp_parabola.B4 = true := by kernel_rfl
def Sp_parabola.T7 : Bool × List (List Nat × List Nat) := (true, [([], []), ([0], [0]), ([], []), ([1, 2], [1, 2]), ([], []), ([], []), ([5], [5]), ([4, 6], [4, 6]), ([7], [7]), ([3, 8], [3, 8]), ([], []), ([], []), ([11], [11]), ([10, 12], [10, 12]), ([13], [13]), ([9, 14], [9, 14]), ([], []), ([16], [16]), ([15, 17], [15, 17]), ([18, 18, 0, 1, 2, 3, 4, 5, 6, 7, 8, 9, 10, 11, 12, 13, 14, 15, 16, 17, 18], [18])])
def Sp_parabola.B7 : List Nat := [0, 1, 0, 7, 0, 0, 32, 112, 240, 511, 0, 0, 2048, 7168, 15360, 32767, 0, 65536, 262143, 524287]
theorem Sp_parabola.tab7 : rtab .any (opsOf Tryd.f194 7) = Sp_parabola.T7 := by kernel_rfl
theorem Sp_parabola.bits7 : waitsOk Sp_parabola.T7.2 Sp_parabola.B7 = true := by kernel_rfl
theorem Sp_parabola.calls (k : Nat) (A0 : Option Addr) (c0 : Nat) (l0 : List Int) (r1 : Int) (r2 : Int) (w : World) (hr0 : Kd.C (Kd.int .i64) w A0 l0.length l0) (hc0 : l0.length ≤ c0) (h : Sp_parabola.f k l0 = some (r1, r2)) :
  Calls Tryd.prog 194 #[.slice A0 l0.length c0] w fun e w' => e = .returned (.agg #[.int .i64 r1, .int .i64 r2]) ∧ Below w.heap.size w w' := by
 have hu26 := Tryd.underlying26
 have HR0 := m0 hr0
 have HC0 := m0 hc0
 clear hr0 hc0
 have HB := m0 (Below.refl w.heap.size w)
 have H : ((Sp_peak.f k l0).bind fun t164 => (if t164 = 0 then (Sp_parabola.j0 k l0 t164 true) else (Sp_parabola.j0 k l0 t164 (t164 == (wrap64 ((l0.length : Int) - 1)))))) = some (r1, r2) := h
 clear h
 replace H := ob H
 obtain ⟨t164, A20, H⟩ := H
 (try dsimp only at H)
 have A2 := m0 A20
 clear A20
 have HC3 := m0 H
 clear H
 go_enter Tryd.func194, Tryd.ntmps194
 go_upto_region 2 with (first | ((with_reducible refine gate_dst (N := 2) rfl ?_); (try (refine gate_guard (by rfl) ?_; dsimp only)); refine be 2 26 #[.int .i64 0, .int .i64 0] ?_; intro gb163 hg w4 hbox hb; have BK163 := m0 hbox; have GW163 := m0 (bg (n := w.heap.size) hg); have GE163 := m0 (bg (n := w.heap.size) hg); replace HB := sb HB hb; clear hb hbox hg) | ((with_reducible refine gate_callee (f := 103) rfl ?_); refine gl (some 6) Tryd.func103 #[.slice A0 l0.length c0] ?_; (with_reducible refine (Sp_peak.calls k _ _ l0 t164 _ ?side1 ?side2 A2.out).mono ?_); (case side1 => exact cb HR0 HB); (case side2 => exact HC0.out); rintro e w5 ⟨rfl, hb⟩; refine ⟨_, rfl, ?_⟩; replace BK163 := bb BK163 hb; replace HB := sb HB hb; (try clear hb)))
 (try simp only [Act.put, List.setIfInBounds_toArray, List.set_cons_zero, List.set_cons_succ])
 go_cut [15] (fun v15 wc => ∃ (kq : Nat) (x15_2 : Bool), v15 = .bool x15_2 ∧ Aside0 (Sp_parabola.j0 kq l0 t164 x15_2 = some (r1, r2)) ∧ Aside0 (kq ≤ k) ∧ Aside0 (wc.heap[gb163]? = some (.cells #[.int .i64 0, .int .i64 0] 26 (0, 0))) ∧ Aside0 (Below w.heap.size w wc))
 case first =>
  have H := HC3.out
  clear HC3
  by_cases c6 : t164 = 0
  ·rw [if_pos c6] at H
   have c6b0 := beq_iff_eq.mpr c6
   have c6b1 := bne_eq_false_iff_eq.mpr c6
   clear c6
   (first | rw [c6b0] | (simp only [i64_w, i32_w]; rw [c6b0]) | skip)
   have H' := m0 H
   clear H
   go_wp2
   go_meet
   case rel => exact ⟨_, (true), (by first | rfl | (simp; done) | (simp [*]; done)), H', ⟨by first | omega | exact Nat.le_refl _⟩, ⟨bk BK163.out⟩, ⟨bz⟩⟩
  ·rw [if_neg c6] at H
   have c6b0 := beq_eq_false_iff_ne.mpr c6
   have c6b1 := bne_iff_ne.mpr c6
   (first | rw [c6b0] | (simp only [i64_w, i32_w]; rw [c6b0]) | skip)
   have H' := m0 H
   clear H
   go_wp2
   go_meet
   case rel => exact ⟨_, ((t164 == (wrap64 ((l0.length : Int) - 1)))), (by first | rfl | (simp; done) | (simp [*]; done)), H', ⟨by first | omega | exact Nat.le_refl _⟩, ⟨bk BK163.out⟩, ⟨bz⟩⟩
 case rest =>
  clear HC3
  try clear c1
  try clear p2
  try clear c6
  try clear c6b0
  try clear c6b1
  try clear p6
  obtain ⟨kq, x15_2, rfl, HA, HJ2, BK163, HB⟩ := hcut
  cases kq with
  | zero => exact absurd HA.out (by simp [Sp_parabola.j0])
  | succ kj2 =>
   have H := HA.out
   clear HA
   simp only [Sp_parabola.j0] at H
   by_cases c7 : x15_2 = true
   ·subst c7
    rw [if_pos rfl] at H
    replace H := ob H
    obtain ⟨⟨t165, t166⟩, A80, H⟩ := H
    (try dsimp only at H)
    have A8 := m0 A80
    clear A80
    simp only [Option.some.injEq, Prod.mk.injEq] at H
    obtain ⟨rfl, rfl⟩ := H
    go_wp2_with (first | ((with_reducible refine gate_callee (f := 96) rfl ?_); refine gl (some 17) Tryd.func96 #[.int .i64 t164, .int .i64 1] ?_; (with_reducible refine (line_fraction.calls kj2 t164 1 t165 t166 _ A8.out).mono ?_); rintro e w9 ⟨rfl, hb⟩; refine ⟨_, rfl, ?_⟩; replace BK163 := bb BK163 hb; replace HB := sb HB hb; (try clear hb); obtain ⟨_, _, _, _⟩ := b2 BK163))
    refine bodyPost_ret (results_cell_row rfl _ _ gb163 26 #[.int .i64 t165, .int .i64 t166] (0, 0) _ rfl (bq BK163.out) Tryd.underlying26 rfl (by kernel_rfl)) rfl ?_
    exact ez
   ·replace c7 := Bool.eq_false_iff.mpr c7
    subst c7
    rw [if_neg (show ¬ (false = true) by decide)] at H
    by_cases c11 : 0 ≤ t164
    ·rw [if_pos c11] at H
     have c11b0 := decide_eq_true c11
     clear c11
     by_cases c12 : t164 < (l0.length : Int)
     ·rw [if_pos c12] at H
      have c12b0 := decide_eq_true c12
      clear c12
      obtain ⟨ji13, hji13⟩ : ∃ j_ : Int, (wrap64 (t164 - 1)) = j_ := ⟨_, rfl⟩
      replace H : (if 0 ≤ (ji13) then (if (ji13) < (l0.length : Int) then (if 0 ≤ (wrap64 (t164 + 1)) then (if (wrap64 (t164 + 1)) < (l0.length : Int) then (if (wrap64 ((wrap64 ((wrap64 (2 * (rd l0 t164))) - (rd l0 (ji13)))) - (rd l0 (wrap64 (t164 + 1))))) ≤ 0 then ((line_fraction.f kj2 t164 1).bind fun bt170 => (some (bt170.1, bt170.2))) else ((line_fraction.f kj2 (wrap64 ((wrap64 ((wrap64 ((wrap64 (2 * (wrap64 ((wrap64 ((wrap64 (2 * (rd l0 t164))) - (rd l0 (ji13)))) - (rd l0 (wrap64 (t164 + 1))))))) * t164)) + (rd l0 (wrap64 (t164 + 1))))) - (rd l0 (ji13)))) (wrap64 (2 * (wrap64 ((wrap64 ((wrap64 (2 * (rd l0 t164))) - (rd l0 (ji13)))) - (rd l0 (wrap64 (t164 + 1)))))))).bind fun bt174 => (some (bt174.1, bt174.2)))) else (none)) else (none)) else (none)) else (none)) = some (r1, r2) := by first | (rw [hji13] at H; exact H) | (simp only [hji13] at H ⊢; exact H)
      have hji13w : (IntKind.i64.wrap (t164 - 1)) = ji13 := (i64_w _).trans hji13
      by_cases c14 : 0 ≤ (ji13)
      ·rw [if_pos c14] at H
       have c14b0 := decide_eq_true c14
       clear c14
       by_cases c15 : (ji13) < (l0.length : Int)
       ·rw [if_pos c15] at H
        have c15b0 := decide_eq_true c15
        clear c15
        obtain ⟨ji16, hji16⟩ : ∃ j_ : Int, (wrap64 (t164 + 1)) = j_ := ⟨_, rfl⟩
        replace H : (if 0 ≤ (ji16) then (if (ji16) < (l0.length : Int) then (if (wrap64 ((wrap64 ((wrap64 (2 * (rd l0 t164))) - (rd l0 (ji13)))) - (rd l0 (ji16)))) ≤ 0 then ((line_fraction.f kj2 t164 1).bind fun bt170 => (some (bt170.1, bt170.2))) else ((line_fraction.f kj2 (wrap64 ((wrap64 ((wrap64 ((wrap64 (2 * (wrap64 ((wrap64 ((wrap64 (2 * (rd l0 t164))) - (rd l0 (ji13)))) - (rd l0 (ji16)))))) * t164)) + (rd l0 (ji16)))) - (rd l0 (ji13)))) (wrap64 (2 * (wrap64 ((wrap64 ((wrap64 (2 * (rd l0 t164))) - (rd l0 (ji13)))) - (rd l0 (ji16))))))).bind fun bt174 => (some (bt174.1, bt174.2)))) else (none)) else (none)) = some (r1, r2) := by first | (rw [hji16] at H; exact H) | (simp only [hji16] at H ⊢; exact H)
        have hji16w : (IntKind.i64.wrap (t164 + 1)) = ji16 := (i64_w _).trans hji16
        by_cases c17 : 0 ≤ (ji16)
        ·rw [if_pos c17] at H
         have c17b0 := decide_eq_true c17
         clear c17
         by_cases c18 : (ji16) < (l0.length : Int)
         ·rw [if_pos c18] at H
          have c18b0 := decide_eq_true c18
          clear c18
          by_cases c19 : (wrap64 ((wrap64 ((wrap64 (2 * (rd l0 t164))) - (rd l0 (ji13)))) - (rd l0 (ji16)))) ≤ 0
          ·rw [if_pos c19] at H
           have c19b0 := decide_eq_true c19
           clear c19
           replace H := ob H
           obtain ⟨⟨t170, t171⟩, A200, H⟩ := H
           (try dsimp only at H)
           have A20 := m0 A200
           clear A200
           simp only [Option.some.injEq, Prod.mk.injEq] at H
           obtain ⟨rfl, rfl⟩ := H
           try go_wp2
           replace BK163 := bd BK163; replace HB := sd HB
           have p167 : 0 ≤ (t164 : Int) := of_decide_eq_true (by first | (with_reducible assumption) | assumption)
           have q167 : t164 < (l0.length : Int) := of_decide_eq_true (by first | (with_reducible assumption) | assumption)
           obtain ⟨ad167, e167, hx167_0⟩ := Kd.at_int HR0.out t164 p167 q167
           have hw167_0 := hx167_0
           cases e167
           replace hx167_0 := (HB.out.cell (World.block_lt_of_cell? w _ hx167_0)).trans hx167_0
           replace p167 := eq_true p167
           replace q167 := eq_true q167
           have p168 : 0 ≤ ((ji13) : Int) := of_decide_eq_true (by first | (with_reducible assumption) | assumption)
           have q168 : (ji13) < (l0.length : Int) := of_decide_eq_true (by first | (with_reducible assumption) | assumption)
           obtain ⟨ad168, e168, hx168_0⟩ := Kd.at_int HR0.out (ji13) p168 q168
           have hw168_0 := hx168_0
           obtain rfl : ad167 = ad168 := (by injection e168)
           replace hx168_0 := (HB.out.cell (World.block_lt_of_cell? w _ hx168_0)).trans hx168_0
           replace p168 := eq_true p168
           replace q168 := eq_true q168
           have p169 : 0 ≤ ((ji16) : Int) := of_decide_eq_true (by first | (with_reducible assumption) | assumption)
           have q169 : (ji16) < (l0.length : Int) := of_decide_eq_true (by first | (with_reducible assumption) | assumption)
           obtain ⟨ad169, e169, hx169_0⟩ := Kd.at_int HR0.out (ji16) p169 q169
           have hw169_0 := hx169_0
           obtain rfl : ad167 = ad169 := (by injection e169)
           replace hx169_0 := (HB.out.cell (World.block_lt_of_cell? w _ hx169_0)).trans hx169_0
           replace p169 := eq_true p169
           replace q169 := eq_true q169
           refine start_ (n := 18) (S := fun w' => w'.cell? (ad167.add (t164).toNat) = some (.int .i64 (rd l0 t164)) ∧ w'.cell? (ad167.add ((ji13)).toNat) = some (.int .i64 (rd l0 (ji13))) ∧ w'.cell? (ad167.add ((ji16)).toNat) = some (.int .i64 (rd l0 (ji16)))) (ds := []) #[false, false, false, false, false, false, false, false, false, false, false, false, false, false, false, false, false, false] (by kernel_rfl) rfl rfl ⟨((HB.out.cell (World.block_lt_of_cell? w _ hw167_0)).trans hw167_0), ((HB.out.cell (World.block_lt_of_cell? w _ hw168_0)).trans hw168_0), ((HB.out.cell (World.block_lt_of_cell? w _ hw169_0)).trans hw169_0)⟩ (fun hHeld => ?_); refine with_tabW Sp_parabola.tab4 Sp_parabola.bits4 (fun HT_ HW_ => ?_)
           generalize wc.drew = w21 at BK163 HB hx167_0 hx168_0 hx169_0 hHeld ⊢
           refine pureZ (i := 0) (N := some 18) (bs 18 1) HT_ ?_
           refine pureZ (i := 1) (N := some 19) (bs 18 3) HT_ ?_
           refine pureZ (i := 2) (N := some 20) (bs 18 7) HT_ ?_
           refine pureZ (i := 5) (N := some 23) (bs 18 39) HT_ ?_
           refine pureZ (i := 6) (N := some 24) (bs 18 103) HT_ ?_
           refine pureZ (i := 7) (N := some 25) (bs 18 231) HT_ ?_
           refine pureZ (i := 8) (N := some 26) (bs 18 487) HT_ ?_
           refine pureZ (i := 11) (N := some 29) (bs 18 2535) HT_ ?_
           refine pureZ (i := 12) (N := some 30) (bs 18 6631) HT_ ?_
           refine pureZ (i := 13) (N := some 31) (bs 18 14823) HT_ ?_
           refine pureZ (i := 14) (N := some 32) (bs 18 31207) HT_ ?_
           refine takeZ 3 (some 21) (bs 18 31215) (take_ofW HT_.out HW_.out (by kernel_rfl)) hHeld ?_
           refine pureZ (i := 4) (N := some 22) (bs 18 31231) HT_ ?_
           refine takeZ 9 (some 27) (bs 18 31743) (take_ofW HT_.out HW_.out (by kernel_rfl)) hHeld ?_
           refine pureZ (i := 10) (N := some 28) (bs 18 32767) HT_ ?_
           refine takeZ 15 (some 33) (bs 18 65535) (take_ofW HT_.out HW_.out (by kernel_rfl)) hHeld ?_
           refine pureZ (i := 16) (N := some 34) (bs 18 131071) HT_ ?_
           refine pureZ (i := 17) (N := some 4) (bs 18 262143) HT_ ?_
           refine done_ (done_of HT_.out (by kernel_rfl)) ?_
           try go_wp2_with (first | ((with_reducible refine gate_callee (f := 96) rfl ?_); refine gl (some 38) Tryd.func96 #[.int .i64 t164, .int .i64 1] ?_; (with_reducible refine (line_fraction.calls kj2 t164 1 t170 t171 _ A20.out).mono ?_); rintro e w22 ⟨rfl, hb⟩; refine ⟨_, rfl, ?_⟩; replace BK163 := bb BK163 hb; replace HB := sb HB hb; (try clear hb); obtain ⟨_, _, _, _⟩ := b2 BK163))
           refine bodyPost_ret (results_cell_row rfl _ _ gb163 26 #[.int .i64 t170, .int .i64 t171] (0, 0) _ rfl (bq BK163.out) Tryd.underlying26 rfl (by kernel_rfl)) rfl ?_
           exact ⟨by first | rfl | (simp [errW_none, errW_some] <;> rfl) | (simp only [← hji13, ← hji16]; first | rfl | (simp [errW_none, errW_some] <;> rfl)) | (simp [*, errW_none, errW_some] <;> rfl), by repeat (first | (with_reducible first | exact HB.out | apply below_alloc | apply pw_below_drewN | apply below_drew1 | refine below_set ?_ GE163.out) | exact HB.out)⟩
          ·rw [if_neg c19] at H
           have c19b0 := decide_eq_false c19
           clear c19
           replace H := ob H
           obtain ⟨⟨t174, t175⟩, A240, H⟩ := H
           (try dsimp only at H)
           have A24 := m0 A240
           clear A240
           simp only [Option.some.injEq, Prod.mk.injEq] at H
           obtain ⟨rfl, rfl⟩ := H
           try go_wp2
           replace BK163 := bd BK163; replace HB := sd HB
           have p167 : 0 ≤ (t164 : Int) := of_decide_eq_true (by first | (with_reducible assumption) | assumption)
           have q167 : t164 < (l0.length : Int) := of_decide_eq_true (by first | (with_reducible assumption) | assumption)
           obtain ⟨ad167, e167, hx167_0⟩ := Kd.at_int HR0.out t164 p167 q167
           have hw167_0 := hx167_0
           cases e167
           replace hx167_0 := (HB.out.cell (World.block_lt_of_cell? w _ hx167_0)).trans hx167_0
           replace p167 := eq_true p167
           replace q167 := eq_true q167
           have p168 : 0 ≤ ((ji13) : Int) := of_decide_eq_true (by first | (with_reducible assumption) | assumption)
           have q168 : (ji13) < (l0.length : Int) := of_decide_eq_true (by first | (with_reducible assumption) | assumption)
           obtain ⟨ad168, e168, hx168_0⟩ := Kd.at_int HR0.out (ji13) p168 q168
           have hw168_0 := hx168_0
           obtain rfl : ad167 = ad168 := (by injection e168)
           replace hx168_0 := (HB.out.cell (World.block_lt_of_cell? w _ hx168_0)).trans hx168_0
           replace p168 := eq_true p168
           replace q168 := eq_true q168
           have p169 : 0 ≤ ((ji16) : Int) := of_decide_eq_true (by first | (with_reducible assumption) | assumption)
           have q169 : (ji16) < (l0.length : Int) := of_decide_eq_true (by first | (with_reducible assumption) | assumption)
           obtain ⟨ad169, e169, hx169_0⟩ := Kd.at_int HR0.out (ji16) p169 q169
           have hw169_0 := hx169_0
           obtain rfl : ad167 = ad169 := (by injection e169)
           replace hx169_0 := (HB.out.cell (World.block_lt_of_cell? w _ hx169_0)).trans hx169_0
           replace p169 := eq_true p169
           replace q169 := eq_true q169
           refine start_ (n := 18) (S := fun w' => w'.cell? (ad167.add (t164).toNat) = some (.int .i64 (rd l0 t164)) ∧ w'.cell? (ad167.add ((ji13)).toNat) = some (.int .i64 (rd l0 (ji13))) ∧ w'.cell? (ad167.add ((ji16)).toNat) = some (.int .i64 (rd l0 (ji16)))) (ds := []) #[false, false, false, false, false, false, false, false, false, false, false, false, false, false, false, false, false, false] (by kernel_rfl) rfl rfl ⟨((HB.out.cell (World.block_lt_of_cell? w _ hw167_0)).trans hw167_0), ((HB.out.cell (World.block_lt_of_cell? w _ hw168_0)).trans hw168_0), ((HB.out.cell (World.block_lt_of_cell? w _ hw169_0)).trans hw169_0)⟩ (fun hHeld => ?_); refine with_tabW Sp_parabola.tab4 Sp_parabola.bits4 (fun HT_ HW_ => ?_)
           generalize wc.drew = w25 at BK163 HB hx167_0 hx168_0 hx169_0 hHeld ⊢
           refine pureZ (i := 0) (N := some 18) (bs 18 1) HT_ ?_
           refine pureZ (i := 1) (N := some 19) (bs 18 3) HT_ ?_
           refine pureZ (i := 2) (N := some 20) (bs 18 7) HT_ ?_
           refine pureZ (i := 5) (N := some 23) (bs 18 39) HT_ ?_
           refine pureZ (i := 6) (N := some 24) (bs 18 103) HT_ ?_
           refine pureZ (i := 7) (N := some 25) (bs 18 231) HT_ ?_
           refine pureZ (i := 8) (N := some 26) (bs 18 487) HT_ ?_
           refine pureZ (i := 11) (N := some 29) (bs 18 2535) HT_ ?_
           refine pureZ (i := 12) (N := some 30) (bs 18 6631) HT_ ?_
           refine pureZ (i := 13) (N := some 31) (bs 18 14823) HT_ ?_
           refine pureZ (i := 14) (N := some 32) (bs 18 31207) HT_ ?_
           refine takeZ 3 (some 21) (bs 18 31215) (take_ofW HT_.out HW_.out (by kernel_rfl)) hHeld ?_
           refine pureZ (i := 4) (N := some 22) (bs 18 31231) HT_ ?_
           refine takeZ 9 (some 27) (bs 18 31743) (take_ofW HT_.out HW_.out (by kernel_rfl)) hHeld ?_
           refine pureZ (i := 10) (N := some 28) (bs 18 32767) HT_ ?_
           refine takeZ 15 (some 33) (bs 18 65535) (take_ofW HT_.out HW_.out (by kernel_rfl)) hHeld ?_
           refine pureZ (i := 16) (N := some 34) (bs 18 131071) HT_ ?_
           refine pureZ (i := 17) (N := some 4) (bs 18 262143) HT_ ?_
           refine done_ (done_of HT_.out (by kernel_rfl)) ?_
           try go_wp2
           replace BK163 := bd BK163; replace HB := sd HB
           have p172 : 0 ≤ ((ji16) : Int) := of_decide_eq_true (by first | (with_reducible assumption) | assumption)
           have q172 : (ji16) < (l0.length : Int) := of_decide_eq_true (by first | (with_reducible assumption) | assumption)
           obtain ⟨ad172, e172, hx172_0⟩ := Kd.at_int HR0.out (ji16) p172 q172
           have hw172_0 := hx172_0
           obtain rfl : ad167 = ad172 := (by injection e172)
           replace hx172_0 := (HB.out.cell (World.block_lt_of_cell? w _ hx172_0)).trans hx172_0
           replace p172 := eq_true p172
           replace q172 := eq_true q172
           have p173 : 0 ≤ ((ji13) : Int) := of_decide_eq_true (by first | (with_reducible assumption) | assumption)
           have q173 : (ji13) < (l0.length : Int) := of_decide_eq_true (by first | (with_reducible assumption) | assumption)
           obtain ⟨ad173, e173, hx173_0⟩ := Kd.at_int HR0.out (ji13) p173 q173
           have hw173_0 := hx173_0
           obtain rfl : ad167 = ad173 := (by injection e173)
           replace hx173_0 := (HB.out.cell (World.block_lt_of_cell? w _ hx173_0)).trans hx173_0
           replace p173 := eq_true p173
           replace q173 := eq_true q173
           refine start_ (n := 20) (S := fun w' => w'.cell? (ad167.add ((ji16)).toNat) = some (.int .i64 (rd l0 (ji16))) ∧ w'.cell? (ad167.add ((ji13)).toNat) = some (.int .i64 (rd l0 (ji13)))) (ds := []) #[false, false, false, false, false, false, false, false, false, false, false, false, false, false, false, false, false, false, false, false] (by kernel_rfl) rfl rfl ⟨((HB.out.cell (World.block_lt_of_cell? w _ hw172_0)).trans hw172_0), ((HB.out.cell (World.block_lt_of_cell? w _ hw173_0)).trans hw173_0)⟩ (fun hHeld => ?_); refine with_tabW Sp_parabola.tab7 Sp_parabola.bits7 (fun HT_ HW_ => ?_)
           generalize w25.drew = w26 at BK163 HB hx172_0 hx173_0 hHeld ⊢
           refine pureZ (i := 0) (N := some 39) (bs 20 1) HT_ ?_
           refine pureZ (i := 1) (N := some 40) (bs 20 3) HT_ ?_
           refine pureZ (i := 2) (N := some 41) (bs 20 7) HT_ ?_
           refine pureZ (i := 3) (N := some 42) (bs 20 15) HT_ ?_
           refine pureZ (i := 4) (N := some 43) (bs 20 31) HT_ ?_
           refine pureZ (i := 5) (N := some 44) (bs 20 63) HT_ ?_
           refine pureZ (i := 6) (N := some 45) (bs 20 127) HT_ ?_
           refine pureZ (i := 7) (N := some 46) (bs 20 255) HT_ ?_
           refine pureZ (i := 10) (N := some 49) (bs 20 1279) HT_ ?_
           refine pureZ (i := 11) (N := some 50) (bs 20 3327) HT_ ?_
           refine pureZ (i := 12) (N := some 51) (bs 20 7423) HT_ ?_
           refine pureZ (i := 13) (N := some 52) (bs 20 15615) HT_ ?_
           refine pureZ (i := 16) (N := some 55) (bs 20 81151) HT_ ?_
           refine pureZ (i := 17) (N := some 56) (bs 20 212223) HT_ ?_
           refine takeZ 8 (some 47) (bs 20 212479) (take_ofW HT_.out HW_.out (by kernel_rfl)) hHeld ?_
           refine pureZ (i := 9) (N := some 48) (bs 20 212991) HT_ ?_
           refine takeZ 14 (some 53) (bs 20 229375) (take_ofW HT_.out HW_.out (by kernel_rfl)) hHeld ?_
           refine pureZ (i := 15) (N := some 54) (bs 20 262143) HT_ ?_
           refine oneZ 18 (some 57) (bs 20 524287) (one_of HT_.out (by kernel_rfl)) fun K hK => ?_
           refine goes_ Tryd.func96 (by kernel_rfl) rfl #[.int .i64 (wrap64 ((wrap64 ((wrap64 ((wrap64 (2 * (wrap64 ((wrap64 ((wrap64 (2 * (rd l0 t164))) - (rd l0 (ji13)))) - (rd l0 (ji16)))))) * t164)) + (rd l0 (ji16)))) - (rd l0 (ji13)))), .int .i64 (wrap64 (2 * (wrap64 ((wrap64 ((wrap64 (2 * (rd l0 t164))) - (rd l0 (ji13)))) - (rd l0 (ji16))))))] (by rfl) rfl rfl (by (try simp only [List.map_toArray, List.map_cons, List.map_nil]); first | done | (simp only [hji13, hji16]; rfl) | rfl | (simp only [List.length_drop, List.length_take]; rfl)) ?_
           with_reducible refine (line_fraction.calls kj2 (wrap64 ((wrap64 ((wrap64 ((wrap64 (2 * (wrap64 ((wrap64 ((wrap64 (2 * (rd l0 t164))) - (rd l0 (ji13)))) - (rd l0 (ji16)))))) * t164)) + (rd l0 (ji16)))) - (rd l0 (ji13)))) (wrap64 (2 * (wrap64 ((wrap64 ((wrap64 (2 * (rd l0 t164))) - (rd l0 (ji13)))) - (rd l0 (ji16)))))) t174 t175 _ A24.out).mono ?_
           rintro e w27 ⟨rfl, hb⟩
           refine ⟨_, rfl, ?_⟩
           replace BK163 := bb BK163 hb; replace HB := sb HB hb
           (try clear hb)
           refine hK.out _ _ ⟨((HB.out.cell (World.block_lt_of_cell? w _ hw172_0)).trans hw172_0), ((HB.out.cell (World.block_lt_of_cell? w _ hw173_0)).trans hw173_0)⟩ (fun hHeld => ?_)
           clear hK K
           refine norm_ (a' := ?_) ?_ ?_
           rotate_left
           ·show Act.put _ (some 57) _ = _
            exact pz
           refine oneZ 19 (none) (bs 20 1048575) (one_of HT_.out (by kernel_rfl)) fun K hK => ?_
           have hs28 : w27.cell? ⟨gb163, 0, none⟩ = some (.int .i64 0) := (blk_cell BK163.out 0).trans rfl
           have hfs28 := blk_frozen BK163.out 0
           have hs29 : w27.cell? ⟨gb163, 1, none⟩ = some (.int .i64 0) := (blk_cell BK163.out 1).trans rfl
           have hfs29 := blk_frozen BK163.out 1
           refine skip_ (w1 := ?_) (by rfl) rfl ?_ ?_
           rotate_left
           ·go_simp
            rfl
           refine hK.out _ _ ⟨((cell_far (p := ⟨gb163, _, none⟩) (by first | exact Nat.ne_of_lt (Nat.lt_of_lt_of_le (by have := World.block_lt_of_cell? _ _ hw172_0; first | rwa [add_block] at this | exact this) GW163.out) | (rw [add_block]; exact Nat.ne_of_lt (Nat.lt_of_lt_of_le (by have := World.block_lt_of_cell? _ _ hw172_0; first | rwa [add_block] at this | exact this) GW163.out)) | (show (Addr.add _ _).block ≠ _; rw [add_block]; exact Nat.ne_of_lt (Nat.lt_of_lt_of_le (by have := World.block_lt_of_cell? _ _ hw172_0; first | rwa [add_block] at this | exact this) GW163.out)) | (dsimp only; exact Nat.ne_of_lt (Nat.lt_of_lt_of_le (by have := World.block_lt_of_cell? _ _ hw172_0; first | rwa [add_block] at this | exact this) GW163.out))) _).trans (((cell_far (p := ⟨gb163, _, none⟩) (by first | exact Nat.ne_of_lt (Nat.lt_of_lt_of_le (by have := World.block_lt_of_cell? _ _ hw172_0; first | rwa [add_block] at this | exact this) GW163.out) | (rw [add_block]; exact Nat.ne_of_lt (Nat.lt_of_lt_of_le (by have := World.block_lt_of_cell? _ _ hw172_0; first | rwa [add_block] at this | exact this) GW163.out)) | (show (Addr.add _ _).block ≠ _; rw [add_block]; exact Nat.ne_of_lt (Nat.lt_of_lt_of_le (by have := World.block_lt_of_cell? _ _ hw172_0; first | rwa [add_block] at this | exact this) GW163.out)) | (dsimp only; exact Nat.ne_of_lt (Nat.lt_of_lt_of_le (by have := World.block_lt_of_cell? _ _ hw172_0; first | rwa [add_block] at this | exact this) GW163.out))) _).trans (hHeld.1)))), ((cell_far (p := ⟨gb163, _, none⟩) (by first | exact Nat.ne_of_lt (Nat.lt_of_lt_of_le (by have := World.block_lt_of_cell? _ _ hw173_0; first | rwa [add_block] at this | exact this) GW163.out) | (rw [add_block]; exact Nat.ne_of_lt (Nat.lt_of_lt_of_le (by have := World.block_lt_of_cell? _ _ hw173_0; first | rwa [add_block] at this | exact this) GW163.out)) | (show (Addr.add _ _).block ≠ _; rw [add_block]; exact Nat.ne_of_lt (Nat.lt_of_lt_of_le (by have := World.block_lt_of_cell? _ _ hw173_0; first | rwa [add_block] at this | exact this) GW163.out)) | (dsimp only; exact Nat.ne_of_lt (Nat.lt_of_lt_of_le (by have := World.block_lt_of_cell? _ _ hw173_0; first | rwa [add_block] at this | exact this) GW163.out))) _).trans (((cell_far (p := ⟨gb163, _, none⟩) (by first | exact Nat.ne_of_lt (Nat.lt_of_lt_of_le (by have := World.block_lt_of_cell? _ _ hw173_0; first | rwa [add_block] at this | exact this) GW163.out) | (rw [add_block]; exact Nat.ne_of_lt (Nat.lt_of_lt_of_le (by have := World.block_lt_of_cell? _ _ hw173_0; first | rwa [add_block] at this | exact this) GW163.out)) | (show (Addr.add _ _).block ≠ _; rw [add_block]; exact Nat.ne_of_lt (Nat.lt_of_lt_of_le (by have := World.block_lt_of_cell? _ _ hw173_0; first | rwa [add_block] at this | exact this) GW163.out)) | (dsimp only; exact Nat.ne_of_lt (Nat.lt_of_lt_of_le (by have := World.block_lt_of_cell? _ _ hw173_0; first | rwa [add_block] at this | exact this) GW163.out))) _).trans (hHeld.2))))⟩ (fun hHeld => ?_)
           clear hK K
           refine done_ (done_of HT_.out (by kernel_rfl)) ?_
           try go_wp2
           refine bodyPost_ret (results_cell_row rfl _ _ gb163 26 #[.int .i64 t174, .int .i64 t175] (0, 0) _ rfl (bq BK163.out) Tryd.underlying26 rfl (by kernel_rfl)) rfl ?_
           exact ⟨by first | rfl | (simp [errW_none, errW_some] <;> rfl) | (simp only [← hji13, ← hji16]; first | rfl | (simp [errW_none, errW_some] <;> rfl)) | (simp [*, errW_none, errW_some] <;> rfl), by repeat (first | (with_reducible first | exact HB.out | apply below_alloc | apply pw_below_drewN | apply below_drew1 | refine below_set ?_ GE163.out) | exact HB.out)⟩
         ·rw [if_neg c18] at H
          exact absurd H (by simp)
        ·rw [if_neg c17] at H
         exact absurd H (by simp)
       ·rw [if_neg c15] at H
        exact absurd H (by simp)
      ·rw [if_neg c14] at H
       exact absurd H (by simp)
     ·rw [if_neg c12] at H
      exact absurd H (by simp)
    ·rw [if_neg c11] at H
     exact absurd H (by simp)
end
section
def Sp_median.l0 : Nat → Int → Int → List Int → Int → Int → Option (Int × Int)
 | 0, _, _, _, _, _ => none
 | k + 1, x3, x4, x9, x10, x11 => if x11 < x10 then (if 0 ≤ x11 then (if x11 < (x9.length : Int) then (if (wrap64 (2 * (wrap64 (x4 + (rd x9 x11))))) ≥ x3 then ((line_fraction.f k x11 1).bind fun bt179 => (some (bt179.1, bt179.2))) else (Sp_median.l0 k x3 (wrap64 (x4 + (rd x9 x11))) x9 x10 (wrap64 (x11 + 1)))) else (none)) else (none)) else ((line_fraction.f k 0 1).bind fun bt181 => (some (bt181.1, bt181.2)))
def Sp_median.f (k : Nat) (l0 : List Int) : Option (Int × Int) := (line_sum.f k l0).bind fun t177 => (Sp_median.l0 k t177 0 l0 (l0.length : Int) 0)
theorem Sp_median.mono_l : ∀ k, (∀ y0 y1 y2 y3 y4, LeO (Sp_median.l0 k y0 y1 y2 y3 y4) (Sp_median.l0 (k + 1) y0 y1 y2 y3 y4))
 | 0 => fun _ _ _ _ _ r h => by simp [Sp_median.l0] at h
 | k + 1 => by
  have ih0 := Sp_median.mono_l k
  ·intro y0 y1 y2 y3 y4
   unfold Sp_median.l0
   repeat' first
   | (with_reducible exact ih0 _ _ _ _ _)
   | (with_reducible exact line_fraction.mono _ _ _)
   | (with_reducible exact line_sum.mono _ _)
   | (with_reducible exact LeO.refl _)
   | (with_reducible exact LeO.none _)
   | (with_reducible refine LeO.ite ?_ ?_)
   | (with_reducible refine LeO.bind ?_ (fun _ => ?_))
   | exact ih0 _ _ _ _ _
   | exact line_fraction.mono _ _ _
   | exact line_sum.mono _ _
   | exact LeO.none _
   | refine LeO.ite ?_ ?_
   | refine LeO.bind ?_ (fun _ => ?_)
theorem Sp_median.mono : ∀ a0 k, LeO (Sp_median.f k a0) (Sp_median.f (k + 1) a0) := by
 intro a0 k
 have ih0 := Sp_median.mono_l k
 unfold Sp_median.f
 repeat' first
   | (with_reducible exact ih0 _ _ _ _ _)
   | (with_reducible exact line_fraction.mono _ _ _)
   | (with_reducible exact line_sum.mono _ _)
   | (with_reducible exact LeO.refl _)
   | (with_reducible exact LeO.none _)
   | (with_reducible refine LeO.ite ?_ ?_)
   | (with_reducible refine LeO.bind ?_ (fun _ => ?_))
   | exact ih0 _ _ _ _ _
   | exact line_fraction.mono _ _ _
   | exact line_sum.mono _ _
   | exact LeO.none _
   | refine LeO.ite ?_ ?_
   | refine LeO.bind ?_ (fun _ => ?_)
theorem Sp_median.calls (k : Nat) (A0 : Option Addr) (c0 : Nat) (l0 : List Int) (r1 : Int) (r2 : Int) (w : World) (hr0 : Kd.C (Kd.int .i64) w A0 l0.length l0) (hc0 : l0.length ≤ c0) (h : Sp_median.f k l0 = some (r1, r2)) :
  Calls Tryd.prog 195 #[.slice A0 l0.length c0] w fun e w' => e = .returned (.agg #[.int .i64 r1, .int .i64 r2]) ∧ Below w.heap.size w w' := by
 have hu26 := Tryd.underlying26
 have HR0 := m0 hr0
 have HC0 := m0 hc0
 clear hr0 hc0
 have HB := m0 (Below.refl w.heap.size w)
 have H : ((line_sum.f k l0).bind fun t177 => (Sp_median.l0 k t177 0 l0 (l0.length : Int) 0)) = some (r1, r2) := h
 clear h
 replace H := ob H
 obtain ⟨t177, A20, H⟩ := H
 (try dsimp only at H)
 have A2 := m0 A20
 clear A20
 have H' := m0 H
 clear H
 go_enter Tryd.func195, Tryd.ntmps195
 go_wp2_with (first | ((with_reducible refine gate_dst (N := 2) rfl ?_); refine be 2 26 #[.int .i64 0, .int .i64 0] ?_; intro gb176 hg w3 hbox hb; have BK176 := m0 hbox; have GW176 := m0 (bg (n := w.heap.size) hg); have GE176 := m0 (bg (n := w.heap.size) hg); replace HB := sb HB hb; clear hb hbox hg) | ((with_reducible refine gate_callee (f := 125) rfl ?_); refine gl (some 8) Tryd.func125 #[.slice A0 l0.length c0] ?_; (with_reducible refine (line_sum.calls k _ _ l0 t177 _ ?side1 ?side2 A2.out).mono ?_); (case side1 => exact cb HR0 HB); (case side2 => exact HC0.out); rintro e w' ⟨rfl, ⟨nd, rfl⟩⟩; refine ⟨_, rfl, ?_⟩))
 go_loopg [4, 11] k (fun kq v4 v11 w' => ∃ (x4_1 : Int) (x11_1 : Int) (x177000_1 : Int) (x177001_1 : Int), v4 = .int .i64 x4_1 ∧ v11 = .int .i64 x11_1 ∧ Aside0 (Sp_median.l0 kq t177 x4_1 l0 (l0.length : Int) x11_1 = some (r1, r2)) ∧ Aside0 (kq ≤ k) ∧ Aside0 (w'.heap[gb176]? = some (.cells #[.int .i64 x177000_1, .int .i64 x177001_1] 26 (0, 0))) ∧ Aside0 (Below w.heap.size w w'))
 case atStart => exact ⟨(0), (0), (0), (0), (by first | rfl | (simp; done) | (simp [*]; done)), (by first | rfl | (simp; done) | (simp [*]; done)), H', ⟨Nat.le_refl _⟩, ⟨bk BK176.out⟩, ⟨bz⟩⟩
 case round =>
  clear H'
  try clear c1
  try clear p2
  obtain ⟨x4_1, x11_1, x177000_1, x177001_1, rfl, rfl, HA, HK1, BK176, HB⟩ := hrel
  cases gk with
  | zero => exact absurd HA.out (by simp [Sp_median.l0])
  | succ k1 =>
   have H := HA.out
   clear HA
   simp only [Sp_median.l0] at H
   by_cases c4 : x11_1 < (l0.length : Int)
   ·rw [if_pos c4] at H
    have c4b0 := decide_eq_true c4
    clear c4
    by_cases c5 : 0 ≤ x11_1
    ·rw [if_pos c5] at H
     have c5b0 := decide_eq_true c5
     clear c5
     by_cases c6 : x11_1 < (l0.length : Int)
     ·rw [if_pos c6] at H
      have c6b0 := decide_eq_true c6
      clear c6
      by_cases c7 : (wrap64 (2 * (wrap64 (x4_1 + (rd l0 x11_1))))) ≥ t177
      ·rw [if_pos c7] at H
       have c7b0 := decide_eq_true c7
       clear c7
       replace H := ob H
       obtain ⟨⟨t179, t180⟩, A80, H⟩ := H
       (try dsimp only at H)
       have A8 := m0 A80
       clear A80
       simp only [Option.some.injEq, Prod.mk.injEq] at H
       obtain ⟨rfl, rfl⟩ := H
       have p178 : 0 ≤ (x11_1 : Int) := of_decide_eq_true (by first | (with_reducible assumption) | assumption)
       have q178 : x11_1 < (l0.length : Int) := of_decide_eq_true (by first | (with_reducible assumption) | assumption)
       obtain ⟨ad178, e178, hx178_0⟩ := Kd.at_int HR0.out x11_1 p178 q178
       cases e178
       replace hx178_0 := (HB.out.cell (World.block_lt_of_cell? w _ hx178_0)).trans hx178_0
       replace p178 := eq_true p178
       replace q178 := eq_true q178
       go_wp2_with (first | ((with_reducible refine gate_callee (f := 96) rfl ?_); refine gl (some 24) Tryd.func96 #[.int .i64 x11_1, .int .i64 1] ?_; (with_reducible refine (line_fraction.calls k1 x11_1 1 t179 t180 _ A8.out).mono ?_); rintro e w9 ⟨rfl, hb⟩; refine ⟨_, rfl, ?_⟩; replace BK176 := bb BK176 hb; replace HB := sb HB hb; (try clear hb); obtain ⟨_, _, _, _⟩ := b2 BK176))
       refine bodyPost_ret (results_cell_row rfl _ _ gb176 26 #[.int .i64 t179, .int .i64 t180] (0, 0) _ rfl (bq BK176.out) Tryd.underlying26 rfl (by kernel_rfl)) rfl ?_
       exact ez
      ·rw [if_neg c7] at H
       have c7b0 := decide_eq_false c7
       clear c7
       have H' := m0 H
       clear H
       have p178 : 0 ≤ (x11_1 : Int) := of_decide_eq_true (by first | (with_reducible assumption) | assumption)
       have q178 : x11_1 < (l0.length : Int) := of_decide_eq_true (by first | (with_reducible assumption) | assumption)
       obtain ⟨ad178, e178, hx178_0⟩ := Kd.at_int HR0.out x11_1 p178 q178
       cases e178
       replace hx178_0 := (HB.out.cell (World.block_lt_of_cell? w _ hx178_0)).trans hx178_0
       replace p178 := eq_true p178
       replace q178 := eq_true q178
       go_wp2
       go_roundg k1
       case measure => have := HK1.out; omega
       case rel => exact ⟨(wrap64 (x4_1 + (rd l0 x11_1))), (wrap64 (x11_1 + 1)), (x177000_1), (x177001_1), (by first | rfl | (simp; done) | (simp [*]; done)), (by first | rfl | (simp; done) | (simp [*]; done)), H', ⟨by have := HK1.out; omega⟩, ⟨bk BK176.out⟩, ⟨bz⟩⟩
     ·rw [if_neg c6] at H
      exact absurd H (by simp)
    ·rw [if_neg c5] at H
     exact absurd H (by simp)
   ·rw [if_neg c4] at H
    have c4b0 := decide_eq_false c4
    clear c4
    replace H := ob H
    obtain ⟨⟨t181, t182⟩, A110, H⟩ := H
    (try dsimp only at H)
    have A11 := m0 A110
    clear A110
    simp only [Option.some.injEq, Prod.mk.injEq] at H
    obtain ⟨rfl, rfl⟩ := H
    go_wp2_with (first | ((with_reducible refine gate_callee (f := 96) rfl ?_); refine gl (some 26) Tryd.func96 #[.int .i64 0, .int .i64 1] ?_; (with_reducible refine (line_fraction.calls k1 0 1 t181 t182 _ A11.out).mono ?_); rintro e w12 ⟨rfl, hb⟩; refine ⟨_, rfl, ?_⟩; replace BK176 := bb BK176 hb; replace HB := sb HB hb; (try clear hb); obtain ⟨_, _, _, _⟩ := b2 BK176))
    refine bodyPost_ret (results_cell_row rfl _ _ gb176 26 #[.int .i64 t181, .int .i64 t182] (0, 0) _ rfl (bq BK176.out) Tryd.underlying26 rfl (by kernel_rfl)) rfl ?_
    exact ez
end
section
def Sp_estimate.f (k : Nat) (l0 : List Int) (a1 : Int) : Option (Int × Int) :=
 (Sp_int_106.f k l0).bind fun m => if m = 0 then line_fraction.f k 0 1 else if a1 = 0 then Sp_highest.f k l0 else if a1 = 1 then Sp_whole.f k l0 else if a1 = 2 then Sp_parabola.f k l0 else if a1 = 3 then Sp_median.f k l0 else none
theorem Sp_estimate.mono : ∀ a0 a1 k, LeO (Sp_estimate.f k a0 a1) (Sp_estimate.f (k + 1) a0 a1) := by
 intro a0 a1 k
 unfold Sp_estimate.f
 repeat' first
  | (with_reducible exact LeO.refl _)
  | (with_reducible exact LeO.none _)
  | (with_reducible refine LeO.ite ?_ ?_)
  | (with_reducible refine LeO.bind ?_ (fun _ => ?_))
  | exact Sp_int_106.mono _ _
  | exact line_fraction.mono _ _ _
  | exact Sp_highest.mono _ _
  | exact Sp_whole.mono _ _
  | exact Sp_parabola.mono _ _
  | exact Sp_median.mono _ _
theorem Sp_estimate.via (k : Nat) (A0 : Option Addr) (c0 : Nat) (l0 : List Int) (a1 : Int) (r1 r2 m : Int) (w : World) (g j : Nat) (hj : a1 = j) (hj4 : j < 4) (hm : Sp_int_106.f k l0 = some m) (hm0 : m ≠ 0)
  (hr0 : Kd.C (Kd.int .i64) w A0 l0.length l0) (hc0 : l0.length ≤ c0) (hg : w.cell? ⟨0, j, none⟩ = some (.func (.func g) #[] #[]))
  (eg : ∀ args w, (callFunc g args).run Tryd.prog w = .ok (.enter g args) w)
  (hcall : ∀ W : World, Below w.heap.size w W → Calls Tryd.prog g #[.slice A0 l0.length c0] W fun e w' => e = .returned (.agg #[.int .i64 r1, .int .i64 r2]) ∧ Below W.heap.size W w') :
  Calls Tryd.prog 95 #[.slice A0 l0.length c0, .int .i64 a1] w fun e w' => e = .returned (.agg #[.int .i64 r1, .int .i64 r2]) ∧ Below w.heap.size w w' := by
 have hu26 := Tryd.underlying26
 have HR0 := m0 hr0
 have HC0 := m0 hc0
 have HG := m0 hg
 have HM := m0 hm
 have HCALL := m0 hcall
 clear hr0 hc0 hg hm hcall
 have HB := m0 (Below.refl w.heap.size w)
 have t1 : (m == 0) = false := beq_eq_false_iff_ne.mpr hm0
 have ha0 : 0 ≤ a1 := by omega
 have ha4 : a1 < 4 := by omega
 have HJ := m0 (show a1.toNat = j by omega)
 clear hj hj4 hm0
 go_enter Tryd.func95, Tryd.ntmps95
 go_wp2_with (first | ((with_reducible refine gate_dst (N := 4) rfl ?_); refine be 4 26 #[.int .i64 0, .int .i64 0] ?_; intro gb hg w4 hbox hb; have n0_ := m0 (below_step HB.out hb); have n1_ := m0 hbox; have n2_ := m0 ((by rw [hg]; exact (below_size HB.out)) : w.heap.size ≤ gb); clear HB; have HB := n0_; have BK := n1_; have GE := n2_; clear n0_ n1_ n2_ hb hbox hg) | (go_at_call 106; (with_reducible refine (Sp_int_106.calls k _ _ l0 m _ ?side1 ?side2 HM.out).mono ?_); (case side1 => exact Kd.C_below HR0.out HB.out); (case side2 => exact HC0.out); rintro e w5 ⟨rfl, hb⟩; have n0_ := m0 (blk_below (g := gb) (o := .cells #[.int .i64 0, .int .i64 0] 26 (0, 0)) BK.out hb); have n1_ := m0 (below_step HB.out hb); clear BK; clear HB; have BK := n0_; have HB := n1_; clear n0_ n1_ hb; have hT : w5.cell? ⟨0, a1.toNat, none⟩ = some (.func (.func g) #[] #[]) := (by rw [HJ.out]; exact pw_cell_below HB.out HG.out)) | (go_at_fn g; refine (HCALL.out _ HB.out).mono ?_; rintro e w6 ⟨rfl, hb⟩; have n0_ := m0 (blk_below (g := gb) (o := .cells #[.int .i64 0, .int .i64 0] 26 (0, 0)) BK.out hb); have n1_ := m0 (below_step HB.out hb); clear BK; clear HB; have BK := n0_; have HB := n1_; clear n0_ n1_ hb; have hcz7_0 : w6.cell? ⟨gb, 0, none⟩ = some (.int .i64 0) := (blk_cell BK.out 0).trans rfl; have hcz7_1 : w6.cell? ⟨gb, 1, none⟩ = some (.int .i64 0) := (blk_cell BK.out 1).trans rfl; have hfz7_0 := blk_frozen BK.out 0; have hfz7_1 := blk_frozen BK.out 1))
 refine bodyPost_ret (results_cell_row rfl _ _ gb 26 #[.int .i64 r1, .int .i64 r2] (0, 0) _ rfl (by (with_reducible repeat (first | refine blk_drewN ?_ _ | refine blk_drew ?_ | refine blk_alloc ?_ _)); refine blk_put (cs := #[.int .i64 r1, .int .i64 0]) ?_ 1 _ rfl; (with_reducible repeat (first | refine blk_drewN ?_ _ | refine blk_drew ?_ | refine blk_alloc ?_ _)); refine blk_put (cs := #[.int .i64 0, .int .i64 0]) ?_ 0 _ rfl; (with_reducible repeat (first | refine blk_drewN ?_ _ | refine blk_drew ?_ | refine blk_alloc ?_ _)); exact BK.out) Tryd.underlying26 rfl (by kernel_rfl)) rfl ?_
 exact ⟨rfl, by repeat (first | (with_reducible first | exact HB.out | apply below_alloc | apply pw_below_drewN | apply below_drew1 | refine below_set ?_ GE.out) | exact HB.out)⟩
theorem Sp_estimate.flat (k : Nat) (A0 : Option Addr) (c0 : Nat) (l0 : List Int) (a1 : Int) (r1 r2 m : Int) (w : World) (hm : Sp_int_106.f k l0 = some m) (hm0 : m = 0)
  (hr0 : Kd.C (Kd.int .i64) w A0 l0.length l0) (hc0 : l0.length ≤ c0)
  (hcall : ∀ W : World, Below w.heap.size w W → Calls Tryd.prog 96 #[.int .i64 0, .int .i64 1] W fun e w' => e = .returned (.agg #[.int .i64 r1, .int .i64 r2]) ∧ Below W.heap.size W w') :
  Calls Tryd.prog 95 #[.slice A0 l0.length c0, .int .i64 a1] w fun e w' => e = .returned (.agg #[.int .i64 r1, .int .i64 r2]) ∧ Below w.heap.size w w' := by
 have hu26 := Tryd.underlying26
 have HR0 := m0 hr0
 have HC0 := m0 hc0
 have HM := m0 hm
 have HCALL := m0 hcall
 clear hr0 hc0 hm hcall
 have HB := m0 (Below.refl w.heap.size w)
 have t1 : (m == 0) = true := beq_iff_eq.mpr hm0
 clear hm0
 go_enter Tryd.func95, Tryd.ntmps95
 go_wp2_with (first | ((with_reducible refine gate_dst (N := 4) rfl ?_); refine be 4 26 #[.int .i64 0, .int .i64 0] ?_; intro gb hg w4 hbox hb; have n0_ := m0 (below_step HB.out hb); have n1_ := m0 hbox; have n2_ := m0 ((by rw [hg]; exact (below_size HB.out)) : w.heap.size ≤ gb); clear HB; have HB := n0_; have BK := n1_; have GE := n2_; clear n0_ n1_ n2_ hb hbox hg) | (go_at_call 106; (with_reducible refine (Sp_int_106.calls k _ _ l0 m _ ?side1 ?side2 HM.out).mono ?_); (case side1 => exact Kd.C_below HR0.out HB.out); (case side2 => exact HC0.out); rintro e w5 ⟨rfl, hb⟩; have n0_ := m0 (blk_below (g := gb) (o := .cells #[.int .i64 0, .int .i64 0] 26 (0, 0)) BK.out hb); have n1_ := m0 (below_step HB.out hb); clear BK; clear HB; have BK := n0_; have HB := n1_; clear n0_ n1_ hb) | (go_at_call 96; refine (HCALL.out _ HB.out).mono ?_; rintro e w6 ⟨rfl, hb⟩; have n0_ := m0 (blk_below (g := gb) (o := .cells #[.int .i64 0, .int .i64 0] 26 (0, 0)) BK.out hb); have n1_ := m0 (below_step HB.out hb); clear BK; clear HB; have BK := n0_; have HB := n1_; clear n0_ n1_ hb; have hcz7_0 : w6.cell? ⟨gb, 0, none⟩ = some (.int .i64 0) := (blk_cell BK.out 0).trans rfl; have hcz7_1 : w6.cell? ⟨gb, 1, none⟩ = some (.int .i64 0) := (blk_cell BK.out 1).trans rfl; have hfz7_0 := blk_frozen BK.out 0; have hfz7_1 := blk_frozen BK.out 1))
 refine bodyPost_ret (results_cell_row rfl _ _ gb 26 #[.int .i64 r1, .int .i64 r2] (0, 0) _ rfl (by (with_reducible repeat (first | refine blk_drewN ?_ _ | refine blk_drew ?_ | refine blk_alloc ?_ _)); refine blk_put (cs := #[.int .i64 r1, .int .i64 0]) ?_ 1 _ rfl; (with_reducible repeat (first | refine blk_drewN ?_ _ | refine blk_drew ?_ | refine blk_alloc ?_ _)); refine blk_put (cs := #[.int .i64 0, .int .i64 0]) ?_ 0 _ rfl; (with_reducible repeat (first | refine blk_drewN ?_ _ | refine blk_drew ?_ | refine blk_alloc ?_ _)); exact BK.out) Tryd.underlying26 rfl (by kernel_rfl)) rfl ?_
 exact ⟨rfl, by repeat (first | (with_reducible first | exact HB.out | apply below_alloc | apply pw_below_drewN | apply below_drew1 | refine below_set ?_ GE.out) | exact HB.out)⟩
theorem Sp_estimate.calls (k : Nat) (A0 : Option Addr) (c0 : Nat) (l0 : List Int) (a1 : Int) (r1 r2 : Int) (w : World) (hr0 : Kd.C (Kd.int .i64) w A0 l0.length l0) (hc0 : l0.length ≤ c0) (hG : EstG w) (h : Sp_estimate.f k l0 a1 = some (r1, r2)) :
  Calls Tryd.prog 95 #[.slice A0 l0.length c0, .int .i64 a1] w fun e w' => e = .returned (.agg #[.int .i64 r1, .int .i64 r2]) ∧ Below w.heap.size w w' := by
 unfold Sp_estimate.f at h
 obtain ⟨m, hm, h⟩ := Option.bind_eq_some_iff.mp h
 by_cases h0 : m = 0
 ·rw [if_pos h0] at h
  exact Sp_estimate.flat k A0 c0 l0 a1 r1 r2 m w hm h0 hr0 hc0 fun W _ => line_fraction.calls k 0 1 r1 r2 W h
 ·rw [if_neg h0] at h
  by_cases e0 : a1 = 0
  ·rw [if_pos e0] at h
   exact Sp_estimate.via k A0 c0 l0 a1 r1 r2 m w _ 0 e0 (by decide) hm h0 hr0 hc0 hG.1 (enters_of Tryd.func192 (by kernel_rfl) rfl) fun W hb => Sp_highest.calls k A0 c0 l0 r1 r2 W (Kd.C_below hr0 hb) hc0 h
  rw [if_neg e0] at h
  by_cases e1 : a1 = 1
  ·rw [if_pos e1] at h
   exact Sp_estimate.via k A0 c0 l0 a1 r1 r2 m w _ 1 e1 (by decide) hm h0 hr0 hc0 hG.2.1 (enters_of Tryd.func193 (by kernel_rfl) rfl) fun W hb => Sp_whole.calls k A0 c0 l0 r1 r2 W (Kd.C_below hr0 hb) hc0 h
  rw [if_neg e1] at h
  by_cases e2 : a1 = 2
  ·rw [if_pos e2] at h
   exact Sp_estimate.via k A0 c0 l0 a1 r1 r2 m w _ 2 e2 (by decide) hm h0 hr0 hc0 hG.2.2.1 (enters_of Tryd.func194 (by kernel_rfl) rfl) fun W hb => Sp_parabola.calls k A0 c0 l0 r1 r2 W (Kd.C_below hr0 hb) hc0 h
  rw [if_neg e2] at h
  by_cases e3 : a1 = 3
  ·rw [if_pos e3] at h
   exact Sp_estimate.via k A0 c0 l0 a1 r1 r2 m w _ 3 e3 (by decide) hm h0 hr0 hc0 hG.2.2.2 (enters_of Tryd.func195 (by kernel_rfl) rfl) fun W hb => Sp_median.calls k A0 c0 l0 r1 r2 W (Kd.C_below hr0 hb) hc0 h
  rw [if_neg e3] at h
  exact absurd h (by simp)
end
section
def line_miss.f (k : Nat) (l0 : List Int) (a1 : Int) (a2_0 : Int) (a2_1 : Int) : Option (Int × Int) := (Sp_estimate.f k l0 a1).bind fun bt208 => ((line_fraction.f k (mx (wrap64 ((wrap64 (bt208.1 * a2_1)) - (wrap64 (a2_0 * bt208.2)))) (wrap64 (-(wrap64 ((wrap64 (bt208.1 * a2_1)) - (wrap64 (a2_0 * bt208.2))))))) (wrap64 (bt208.2 * a2_1))).bind fun bt211 => (some (bt211.1, bt211.2)))
theorem line_miss.mono : ∀ a0 a1 a2 a3 k, LeO (line_miss.f k a0 a1 a2 a3) (line_miss.f (k + 1) a0 a1 a2 a3) := by
 intro a0 a1 a2 a3 k
 unfold line_miss.f
 repeat' first
   | (with_reducible exact line_fraction.mono _ _ _)
   | (with_reducible exact Sp_estimate.mono _ _ _)
   | (with_reducible exact LeO.refl _)
   | (with_reducible exact LeO.none _)
   | (with_reducible refine LeO.ite ?_ ?_)
   | (with_reducible refine LeO.bind ?_ (fun _ => ?_))
   | exact line_fraction.mono _ _ _
   | exact Sp_estimate.mono _ _ _
   | exact LeO.none _
   | refine LeO.ite ?_ ?_
   | refine LeO.bind ?_ (fun _ => ?_)
theorem line_miss.calls (k : Nat) (A0 : Option Addr) (c0 : Nat) (l0 : List Int) (a1 : Int) (a2_0 : Int) (a2_1 : Int) (r1 : Int) (r2 : Int) (w : World) (hr0 : Kd.C (Kd.int .i64) w A0 l0.length l0) (hc0 : l0.length ≤ c0) (hG : EstG w) (h : line_miss.f k l0 a1 a2_0 a2_1 = some (r1, r2)) :
  Calls Tryd.prog 128 #[.slice A0 l0.length c0, .int .i64 a1, .agg #[.int .i64 a2_0, .int .i64 a2_1]] w fun e w' => e = .returned (.agg #[.int .i64 r1, .int .i64 r2]) ∧ Below w.heap.size w w' := by
 have hu26 := Tryd.underlying26
 have HG := m0 hG
 clear hG
 have HR0 := m0 hr0
 have HC0 := m0 hc0
 clear hr0 hc0
 have HB := m0 (Below.refl w.heap.size w)
 have H : ((Sp_estimate.f k l0 a1).bind fun bt208 => ((line_fraction.f k (mx (wrap64 ((wrap64 (bt208.1 * a2_1)) - (wrap64 (a2_0 * bt208.2)))) (wrap64 (-(wrap64 ((wrap64 (bt208.1 * a2_1)) - (wrap64 (a2_0 * bt208.2))))))) (wrap64 (bt208.2 * a2_1))).bind fun bt211 => (some (bt211.1, bt211.2)))) = some (r1, r2) := h
 clear h
 replace H := ob H
 obtain ⟨⟨t208, t209⟩, A40, H⟩ := H
 (try dsimp only at H)
 have A4 := m0 A40
 clear A40
 obtain ⟨ji5, hji5⟩ : ∃ j_ : Int, (mx (wrap64 ((wrap64 (t208 * a2_1)) - (wrap64 (a2_0 * t209)))) (wrap64 (-(wrap64 ((wrap64 (t208 * a2_1)) - (wrap64 (a2_0 * t209))))))) = j_ := ⟨_, rfl⟩
 replace H : ((line_fraction.f k (ji5) (wrap64 (t209 * a2_1))).bind fun bt211 => (some (bt211.1, bt211.2))) = some (r1, r2) := by first | (rw [hji5] at H; exact H) | (simp only [hji5] at H ⊢; exact H)
 (try rw [hji5] at A4)
 have hji5_ : (if (wrap64 ((wrap64 (t208 * a2_1)) - (wrap64 (a2_0 * t209)))) < (wrap64 (-(wrap64 ((wrap64 (t208 * a2_1)) - (wrap64 (a2_0 * t209)))))) then (wrap64 (-(wrap64 ((wrap64 (t208 * a2_1)) - (wrap64 (a2_0 * t209)))))) else (wrap64 ((wrap64 (t208 * a2_1)) - (wrap64 (a2_0 * t209))))) = ji5 := hji5
 replace H := ob H
 obtain ⟨⟨t211, t212⟩, A60, H⟩ := H
 (try dsimp only at H)
 have A6 := m0 A60
 clear A60
 simp only [Option.some.injEq, Prod.mk.injEq] at H
 obtain ⟨rfl, rfl⟩ := H
 go_enter Tryd.func128, Tryd.ntmps128
 go_wp2_with (first | ((with_reducible refine gate_dst (N := 5) rfl ?_); refine be 5 26 #[.int .i64 a2_0, .int .i64 a2_1] ?_; intro gb206 hg w7 hbox hb; have BK206 := m0 hbox; have GW206 := m0 (bg (n := w.heap.size) hg); have GE206 := m0 (bg (n := w.heap.size) hg); replace HB := sb HB hb; clear hb hbox hg) | ((with_reducible refine gate_dst (N := 6) rfl ?_); refine be 6 26 #[.int .i64 0, .int .i64 0] ?_; intro gb207 hg w8 hbox hb; have BK207 := m0 hbox; have GW207 := m0 (bg (n := w.heap.size) hg); have GE207 := m0 (bg (n := w.heap.size) hg); replace HB := sb HB hb; have NB206_207 := nl BK206 hg; have NB207_206 := ng (nl BK206 hg); replace BK206 := bb BK206 hb; clear hb hbox hg) | ((with_reducible refine gate_callee (f := 95) rfl ?_); refine gl (some 11) Tryd.func95 #[.slice A0 l0.length c0, .int .i64 a1] ?_; (with_reducible refine (Sp_estimate.calls k _ _ l0 a1 t208 t209 _ ?side1 ?side2 ?side3 A4.out).mono ?_); (case side1 => exact cb HR0 HB); (case side2 => exact HC0.out); (case side3 => exact EstG.below HG.out bz); rintro e w9 ⟨rfl, hb⟩; refine ⟨_, rfl, ?_⟩; replace BK206 := bb BK206 hb; replace BK207 := bb BK207 hb; replace HB := sb HB hb; (try clear hb)) | ((with_reducible refine gate_dst (N := 7) rfl ?_); refine be 7 26 #[.int .i64 0, .int .i64 0] ?_; intro gb210 hg w10 hbox hb; have BK210 := m0 hbox; have GW210 := m0 (bg (n := w.heap.size) hg); have GE210 := m0 (bg (n := w.heap.size) hg); replace HB := sb HB hb; have NB206_210 := nl BK206 hg; have NB210_206 := ng (nl BK206 hg); replace BK206 := bb BK206 hb; have NB207_210 := nl BK207 hg; have NB210_207 := ng (nl BK207 hg); replace BK207 := bb BK207 hb; clear hb hbox hg; have hnb11 := NB210_206.out; have hnc11 := NB206_210.out; have hnb12 := NB210_207.out; have hnc12 := NB207_210.out; obtain ⟨_, _, _, _⟩ := b2 BK210; have hnb14 := NB206_207.out; have hnc14 := NB207_206.out; obtain ⟨_, _, _, _⟩ := b2 BK206) | ((with_reducible refine gate_callee (f := 96) rfl ?_); refine goesL_ (some 32) rfl rfl Tryd.func96 (by kernel_rfl) rfl #[.int .i64 ji5, .int .i64 (wrap64 (t209 * a2_1))] rfl (by (try simp only [List.map_toArray, List.map_cons, List.map_nil]); first | done | (simp only [hji5]; rfl) | rfl | (simp only [List.length_drop, List.length_take]; rfl)) ?_; (with_reducible refine (line_fraction.calls k ji5 (wrap64 (t209 * a2_1)) t211 t212 _ A6.out).mono ?_); rintro e w16 ⟨rfl, hb⟩; refine ⟨_, rfl, ?_⟩; replace BK206 := m0 (blk_below (g := gb206) (o := .cells #[.int .i64 a2_0, .int .i64 a2_1] 26 (0, 0)) (bq BK206.out) hb); replace BK207 := m0 (blk_below (g := gb207) (o := .cells #[.int .i64 0, .int .i64 0] 26 (0, 0)) (bq BK207.out) hb); replace BK210 := m0 (blk_below (g := gb210) (o := .cells #[.int .i64 t208, .int .i64 t209] 26 (0, 0)) (bq BK210.out) hb); replace HB := sb HB hb; (try clear hb); obtain ⟨_, _, _, _⟩ := b2 BK207))
 refine bodyPost_ret (results_cell_row rfl _ _ gb207 26 #[.int .i64 t211, .int .i64 t212] (0, 0) _ rfl (bq BK207.out) Tryd.underlying26 rfl (by kernel_rfl)) rfl ?_
 exact ⟨by first | rfl | (simp [errW_none, errW_some] <;> rfl) | (simp only [← hji5]; first | rfl | (simp [errW_none, errW_some] <;> rfl)) | (simp [*, errW_none, errW_some] <;> rfl), by repeat (first | (with_reducible first | exact HB.out | apply below_alloc | apply pw_below_drewN | apply below_drew1 | refine below_set ?_ GE206.out | refine below_set ?_ GE207.out | refine below_set ?_ GE210.out) | exact HB.out)⟩
end
section
def line_worst.step (k : Nat) (ls lv : List Int) (tn td kind : Int) (j : Nat) (s : Int × Int × Int) : Option (Int × Int × Int) :=
 (line_noisy.f k ls lv j).bind fun row => (line_miss.f k row kind tn td).bind fun m => (line_less.f s.1 s.2.1 m.1 m.2).bind fun b => some (if b = true then (m.1, m.2, (j : Int)) else s)
def line_worst.f (k : Nat) (l0_0 l0_1 : List Int) (a0_2 a0_3 a1 : Int) : Option (Int × Int × Int) :=
 (line_cases.f k l0_1 l0_0.length).bind fun c => if 0 ≤ c.1 then if c.1 ≤ 1000000 then iterN (line_worst.step k l0_0 l0_1 a0_2 a0_3 a1) c.1.toNat (-1, 1, 0) else none else none
theorem line_worst.mono : ∀ a0 a1 a2 a3 a4 k, LeO (line_worst.f k a0 a1 a2 a3 a4) (line_worst.f (k + 1) a0 a1 a2 a3 a4) := by
 intro a0 a1 a2 a3 a4 k
 unfold line_worst.f
 refine LeO.bind (line_cases.mono _ _ _) (fun c => ?_)
 refine LeO.ite (LeO.ite (iterN_mono (fun j s => ?_) _ _) (LeO.none _)) (LeO.none _)
 unfold line_worst.step
 exact LeO.bind (line_noisy.mono _ _ _ _) (fun row => LeO.bind (line_miss.mono _ _ _ _ _) (fun m => LeO.refl _))
attribute [local go_sem] Oper.semAt_some
theorem line_worst.calls (k : Nat) (A0_0 : Option Addr) (c0_0 : Nat) (l0_0 : List Int) (A0_1 : Option Addr) (c0_1 : Nat) (l0_1 : List Int) (a0_2 a0_3 a1 : Int) (r1 r2 r3 : Int) (w : World) (hr0_0 : Kd.C (Kd.int .i64) w A0_0 l0_0.length l0_0) (hc0_0 : l0_0.length ≤ c0_0) (hr0_1 : Kd.C (Kd.int .i64) w A0_1 l0_1.length l0_1) (hc0_1 : l0_1.length ≤ c0_1) (hG : EstG w) (h : line_worst.f k l0_0 l0_1 a0_2 a0_3 a1 = some (r1, r2, r3)) :
  Calls Tryd.prog 97 #[.agg #[.slice A0_0 l0_0.length c0_0, .slice A0_1 l0_1.length c0_1, .int .i64 a0_2, .int .i64 a0_3], .int .i64 a1] w fun e w' => e = .returned (.agg #[.int .i64 r1, .int .i64 r2, .int .i64 r3]) ∧ Below w.heap.size w w' := by
 unfold line_worst.f at h
 obtain ⟨⟨all, few⟩, hall, h⟩ := Option.bind_eq_some_iff.mp h
 by_cases h0 : 0 ≤ all
 case neg => rw [if_neg h0] at h; exact absurd h (by simp)
 rw [if_pos h0] at h
 by_cases hbig : all ≤ 1000000
 case neg => rw [if_neg hbig] at h; exact absurd h (by simp)
 rw [if_pos hbig] at h
 have hit : iterN (line_worst.step k l0_0 l0_1 a0_2 a0_3 a1) all.toNat (-1, 1, 0) = some (r1, r2, r3) := h
 clear h
 have hu26 := Tryd.underlying26
 have hu28 := Tryd.underlying28
 have hu36 := Tryd.underlying36
 refine (callsIn_wide (n := 9)).1 ?_
 refine callsIn_of_wp_marks Tryd.func97 rfl trivial ?_ rfl
 simp only [Tryd.ntmps97, List.size_toArray, List.length_cons, List.length_nil, Nat.reduceAdd, Nat.reduceSub, Array.replicate_succ, Array.replicate_zero, List.push_toArray, List.append_toArray, List.nil_append, List.cons_append]
 gi_wp2_with (first | (refine ⟨trivial, ?_⟩; gi_at_call 94; refine (callsIn_wide.2 (line_each.calls_own _ _ _ _ _ _ _)).mono ?_; rintro e w' ⟨rfl, rfl⟩))
 obtain ⟨W0, hW0⟩ : ∃ W0, ((((((w.alloc (.cells #[.slice A0_0 l0_0.length c0_0, .slice A0_1 l0_1.length c0_1, .int .i64 a0_2, .int .i64 a0_3] 28)).alloc (.cells #[.int .i64 a1] 3)).alloc (.cells #[.int .i64 0, .int .i64 0, .int .i64 0] 36)).alloc (.cells #[.int .i64 (-1), .int .i64 1, .int .i64 0] 36)).alloc (.cells #[.slice A0_0 l0_0.length c0_0] 22)).alloc (.cells #[.slice A0_1 l0_1.length c0_1] 24)) = W0 := ⟨_, rfl⟩
 have hz : W0.heap.size = w.heap.size + 6 := by rw [← hW0]; simp
 have hb0 : Below w.heap.size w W0 := by rw [← hW0]; repeat (first | exact Below.refl _ _ | apply below_alloc)
 have k0 : W0.heap[w.heap.size]? = some (.cells #[.slice A0_0 l0_0.length c0_0, .slice A0_1 l0_1.length c0_1, .int .i64 a0_2, .int .i64 a0_3] 28 (0, 0)) := by
  rw [← hW0]; iterate 5 apply blk_alloc
  have := blk_new w (.cells #[.slice A0_0 l0_0.length c0_0, .slice A0_1 l0_1.length c0_1, .int .i64 a0_2, .int .i64 a0_3] 28 (0, 0)); simpa using this
 have k1 : W0.heap[w.heap.size + 1]? = some (.cells #[.int .i64 a1] 3 (0, 0)) := by
  rw [← hW0]; iterate 4 apply blk_alloc
  have := blk_new (w.alloc (.cells #[.slice A0_0 l0_0.length c0_0, .slice A0_1 l0_1.length c0_1, .int .i64 a0_2, .int .i64 a0_3] 28)) (.cells #[.int .i64 a1] 3 (0, 0)); simpa using this
 have k2 : W0.heap[w.heap.size + 1 + 1]? = some (.cells #[.int .i64 0, .int .i64 0, .int .i64 0] 36 (0, 0)) := by
  rw [← hW0]; iterate 3 apply blk_alloc
  have := blk_new ((w.alloc (.cells #[.slice A0_0 l0_0.length c0_0, .slice A0_1 l0_1.length c0_1, .int .i64 a0_2, .int .i64 a0_3] 28)).alloc (.cells #[.int .i64 a1] 3)) (.cells #[.int .i64 0, .int .i64 0, .int .i64 0] 36 (0, 0)); simpa using this
 have k3 : W0.heap[w.heap.size + 1 + 1 + 1]? = some (.cells #[.int .i64 (-1), .int .i64 1, .int .i64 0] 36 (0, 0)) := by
  rw [← hW0]; iterate 2 apply blk_alloc
  have := blk_new (((w.alloc (.cells #[.slice A0_0 l0_0.length c0_0, .slice A0_1 l0_1.length c0_1, .int .i64 a0_2, .int .i64 a0_3] 28)).alloc (.cells #[.int .i64 a1] 3)).alloc (.cells #[.int .i64 0, .int .i64 0, .int .i64 0] 36)) (.cells #[.int .i64 (-1), .int .i64 1, .int .i64 0] 36 (0, 0)); simpa using this
 have k4 : W0.heap[w.heap.size + 1 + 1 + 1 + 1]? = some (.cells #[.slice A0_0 l0_0.length c0_0] 22 (0, 0)) := by
  rw [← hW0]; iterate 1 apply blk_alloc
  have := blk_new ((((w.alloc (.cells #[.slice A0_0 l0_0.length c0_0, .slice A0_1 l0_1.length c0_1, .int .i64 a0_2, .int .i64 a0_3] 28)).alloc (.cells #[.int .i64 a1] 3)).alloc (.cells #[.int .i64 0, .int .i64 0, .int .i64 0] 36)).alloc (.cells #[.int .i64 (-1), .int .i64 1, .int .i64 0] 36)) (.cells #[.slice A0_0 l0_0.length c0_0] 22 (0, 0)); simpa using this
 have k5 : W0.heap[w.heap.size + 1 + 1 + 1 + 1 + 1]? = some (.cells #[.slice A0_1 l0_1.length c0_1] 24 (0, 0)) := by
  rw [← hW0]; iterate 0 apply blk_alloc
  have := blk_new (((((w.alloc (.cells #[.slice A0_0 l0_0.length c0_0, .slice A0_1 l0_1.length c0_1, .int .i64 a0_2, .int .i64 a0_3] 28)).alloc (.cells #[.int .i64 a1] 3)).alloc (.cells #[.int .i64 0, .int .i64 0, .int .i64 0] 36)).alloc (.cells #[.int .i64 (-1), .int .i64 1, .int .i64 0] 36)).alloc (.cells #[.slice A0_0 l0_0.length c0_0] 22)) (.cells #[.slice A0_1 l0_1.length c0_1] 24 (0, 0)); simpa using this
 rw [hW0]
 clear hW0
 have hstep := fun (j : Nat) (hj : (j : Int) < all) => iterN_pre hit (show j ≤ all.toNat by omega)
 have hrow : ∀ j : Nat, (j : Int) < all → line_noisy.f k l0_0 l0_1 j = some ((line_noisy.f k l0_0 l0_1 j).getD []) := fun j hj => by
  obtain ⟨q, hq⟩ := hstep j hj
  obtain ⟨q', hq', _⟩ := iterN_at hit (show j < all.toNat by omega) hq
  obtain ⟨row, hr, _⟩ := Option.bind_eq_some_iff.mp hq'
  rw [hr]; rfl
 have hY := line_each.yields 8 k (by decide) A0_0 A0_1 c0_0 c0_1 l0_0 l0_1 all few (fun j => (line_noisy.f k l0_0 l0_1 j).getD []) w (w.heap.size + 1 + 1 + 1 + 1 + 1) (w.heap.size + 1 + 1 + 1 + 1) W0 hb0 ((blk_cell k5 0).trans rfl) ((blk_cell k4 0).trans rfl) hr0_0 hc0_0 hr0_1 hc0_1 hall h0 hbig hrow
 have HIT := m0 hit
 have HY := m0 hY
 have HG := m0 hG
 clear hit hstep hrow hY hG
 refine wpIn_rangeN rfl (by decide) (gf := 131) (lb := #[.pointer (some ⟨w.heap.size + 1 + 1 + 1 + 1 + 1, 0, none⟩), .pointer (some ⟨w.heap.size + 1 + 1 + 1 + 1, 0, none⟩)]) rfl trivial (enters_of Tryd.func131 (by kernel_rfl) rfl) HY.out
  (line_each.Rd_putObj) (fun h k => h.trans k) (fun W l o o' hl h hc hw => line_each.Kp_putObj (w := W0) (v1 := undef) (v2 := undef) (by omega) W l o o' hl h hc hw (by omega) (by omega)) (Below.refl _ _) (fun _ _ => rfl)
  (fun j W => (∃ s : Int × Int × Int, iterN (line_worst.step k l0_0 l0_1 a0_2 a0_3 a1) j (-1, 1, 0) = some s ∧ W.heap[w.heap.size + 1 + 1 + 1]? = some (.cells #[.int .i64 s.1, .int .i64 s.2.1, .int .i64 s.2.2] 36 (0, 0)) ∧ W.heap[w.heap.size]? = some (.cells #[.slice A0_0 l0_0.length c0_0, .slice A0_1 l0_1.length c0_1, .int .i64 a0_2, .int .i64 a0_3] 28 (0, 0)) ∧ W.heap[w.heap.size + 1]? = some (.cells #[.int .i64 a1] 3 (0, 0)) ∧ W.heap[w.heap.size + 1 + 1]? = some (.cells #[.int .i64 0, .int .i64 0, .int .i64 0] 36 (0, 0)) ∧ W0.heap.size ≤ W.heap.size) ∧ Below w.heap.size w W)
  (fun _ _ _ => False)
  (OwnFrom.and (fun j A B row hs hg hr => by
   obtain ⟨s, h1, h2, h3, h4, h5, h6⟩ := hs
   exact ⟨s, h1, blk_own h2 hg hr, blk_own h3 hg hr, blk_own h4 hg hr, blk_own h5 hg hr, Nat.le_trans h6 hg.size⟩) (ownFrom_below (Nat.le_refl _) (by omega)))
  (fun _ _ _ _ _ hs _ _ => hs)
  ⟨⟨(-1, 1, 0), rfl, k3, k0, k1, k2, Nat.le_refl _⟩, hb0⟩
  (fun j x => { tmps := #[.agg #[.slice A0_0 l0_0.length c0_0, .slice A0_1 l0_1.length c0_1, .int .i64 a0_2, .int .i64 a0_3], .int .i64 a1, .pointer (some ⟨w.heap.size, 0, none⟩), .pointer (some ⟨w.heap.size + 1, 0, none⟩), .pointer (some ⟨w.heap.size + 1 + 1, 0, none⟩), .pointer (some ⟨w.heap.size + 1 + 1 + 1, 0, none⟩), .int .i64 (j : Int), x, undef, .agg #[.int .i64 (-1), .int .i64 1], .agg #[.int .i64 (-1), .int .i64 1, .int .i64 0], .pointer (some ⟨w.heap.size, 0, none⟩), .slice A0_0 l0_0.length c0_0, .pointer (some ⟨w.heap.size, 1, none⟩), .agg #[.slice A0_1 l0_1.length c0_1], .func (.func 131) #[] #[.pointer (some ⟨w.heap.size + 1 + 1 + 1 + 1 + 1, 0, none⟩), .pointer (some ⟨w.heap.size + 1 + 1 + 1 + 1, 0, none⟩)], .int .i64 (j : Int), x, undef, undef, undef, undef, undef, undef, undef, undef, undef, undef, undef, undef, undef], defers := [] }) ?assign ?body ?done ?stop
 case assign =>
  intro l j x W K hK
  gi_wp2
  exact hK
 case stop =>
  rintro D c j W _ _ h _
  exact h.elim
 case body =>
  rintro l j x W ⟨⟨⟨s1, s2, s3⟩, hs, h3, hp0, h1, h2, h6⟩, hB⟩ ⟨A, c, hx, hc, hC, hm⟩ hj
  obtain ⟨q', hq', hq1⟩ := iterN_at HIT.out hj hs
  obtain ⟨row, hr, hq'⟩ := Option.bind_eq_some_iff.mp hq'
  obtain ⟨⟨m1, m2⟩, hmx, hq'⟩ := Option.bind_eq_some_iff.mp hq'
  obtain ⟨b, hls, hq'⟩ := Option.bind_eq_some_iff.mp hq'
  have er : (line_noisy.f k l0_0 l0_1 (j : Int)).getD [] = row := by rw [hr]; rfl
  simp only [er] at hx hc hC
  subst hx
  obtain rfl := Option.some.inj hq'
  replace hls : line_less.f s1 s2 m1 m2 = some b := hls
  have H3 := m0 h3
  have H0 := m0 hp0
  have H1 := m0 h1
  have H2 := m0 h2
  have HBB := m0 hB
  have H6 := m0 h6
  have HC := m0 hC
  have HCC := m0 hc
  have HM := m0 hm
  have HMX := m0 hmx
  have HLS := m0 hls
  have HQ1 := m0 hq1
  have HZ := m0 hz
  have HEST := m0 (EstG.below HG.out hB)
  have c1 : W.cell? ⟨w.heap.size + 1, 0, none⟩ = some (.int .i64 a1) := (blk_cell h1 0).trans rfl
  have c2 : W.cell? ⟨w.heap.size, 2, none⟩ = some (.int .i64 a0_2) := (blk_cell hp0 2).trans rfl
  have c3 : W.cell? ⟨w.heap.size, 3, none⟩ = some (.int .i64 a0_3) := (blk_cell hp0 3).trans rfl
  clear h1 h2 h3 hp0 hB h6 hC hc hm hmx hls hq1 hq' hs hr er hz k0 k1 k2 k3 k4 k5 hb0 hall HIT HY hr0_0 hr0_1 hc0_0 hc0_1 hj HG
  generalize hLEFT : leftN _ _ _ _ _ = LEFT
  have base : ∀ w7 : World, Below W.heap.size W w7 → w7.heap[w.heap.size]? = some (.cells #[.slice A0_0 l0_0.length c0_0, .slice A0_1 l0_1.length c0_1, .int .i64 a0_2, .int .i64 a0_3] 28 (0, 0)) ∧ w7.heap[w.heap.size + 1]? = some (.cells #[.int .i64 a1] 3 (0, 0)) ∧ w7.heap[w.heap.size + 1 + 1]? = some (.cells #[.int .i64 0, .int .i64 0, .int .i64 0] 36 (0, 0)) ∧ w7.heap[w.heap.size + 1 + 1 + 1]? = some (.cells #[.int .i64 s1, .int .i64 s2, .int .i64 s3] 36 (0, 0)) ∧ Below w.heap.size w w7 ∧ KeepsOthers W w7 ∧ line_each.Kp w.heap.size (w.heap.size + 1 + 1 + 1 + 1 + 1) (w.heap.size + 1 + 1 + 1 + 1) W w7 ∧ W0.heap.size ≤ w7.heap.size := fun w7 hb => by
   have ha := HZ.out
   have hb6 := H6.out
   have hsz := hb.size
   exact ⟨blk_below H0.out hb, blk_below H1.out hb, blk_below H2.out hb, blk_below H3.out hb, HBB.out.trans (hb.mono (by omega)), others_below hb, ⟨hb.mono (by omega), World.cell?_of_block (hb.block _ (by show w.heap.size + 1 + 1 + 1 + 1 + 1 < _; omega)), World.cell?_of_block (hb.block _ (by show w.heap.size + 1 + 1 + 1 + 1 < _; omega))⟩, by omega⟩
  have hyes : ∀ (w7 : World) (a : Act), Below W.heap.size W w7 → b = true → LEFT Exit.normal a (((w7.setCell ⟨w.heap.size + 1 + 1 + 1, 0, none⟩ (.int .i64 m1)).setCell ⟨w.heap.size + 1 + 1 + 1, 1, none⟩ (.int .i64 m2)).setCell ⟨w.heap.size + 1 + 1 + 1, 2, none⟩ (.int .i64 (j : Int))) := by
   intro w7 a hb ht
   obtain ⟨p0, p1, p2, p3, pB, pK, pKp, pz⟩ := base w7 hb
   rw [← hLEFT]
   refine ⟨((pK.trans (KeepsOthers.setCell _ _ _)).trans (KeepsOthers.setCell _ _ _)).trans (KeepsOthers.setCell _ _ _), ((pKp.setCell (by omega) (by omega) (by omega)).setCell (by omega) (by omega) (by omega)).setCell (by omega) (by omega) (by omega), ⟨_, HQ1.out, ?_, blk_ne_set (blk_ne_set (blk_ne_set p0 (by omega)) (by omega)) (by omega), blk_ne_set (blk_ne_set (blk_ne_set p1 (by omega)) (by omega)) (by omega), blk_ne_set (blk_ne_set (blk_ne_set p2 (by omega)) (by omega)) (by omega), ?_⟩, ((pB.setCell (p := ⟨w.heap.size + 1 + 1 + 1, 0, none⟩) (by show w.heap.size ≤ w.heap.size + 1 + 1 + 1; omega) _).setCell (p := ⟨w.heap.size + 1 + 1 + 1, 1, none⟩) (by show w.heap.size ≤ w.heap.size + 1 + 1 + 1; omega) _).setCell (p := ⟨w.heap.size + 1 + 1 + 1, 2, none⟩) (by show w.heap.size ≤ w.heap.size + 1 + 1 + 1; omega) _⟩
   ·rw [if_pos ht]; exact blk_put (blk_put (blk_put p3 0 _ rfl) 1 _ rfl) 2 _ rfl
   ·simpa [World.setCell] using pz
  have hno : ∀ (w7 : World) (a : Act), Below W.heap.size W w7 → b = false → LEFT Exit.normal a w7 := by
   intro w7 a hb ht
   obtain ⟨p0, p1, p2, p3, pB, pK, pKp, pz⟩ := base w7 hb
   rw [← hLEFT]
   refine ⟨pK, pKp, ⟨_, HQ1.out, ?_, p0, p1, p2, pz⟩, pB⟩
   rw [if_neg (by rw [ht]; decide)]; exact p3
  have HYES := m0 hyes
  have HNO := m0 hno
  clear hyes hno base hLEFT
  cases b
  all_goals
   gi_wp2_with (first | (refine ⟨trivial, ?_⟩; gi_at_call 128; refine (CallsIn.inRound l (callsIn_wide.2 (line_miss.calls k A c row a1 a0_2 a0_3 m1 m2 W HC.out HCC.out HEST.out HMX.out))).mono ?_; rintro e w5 ⟨rfl, hb5⟩; have g3 := blk_below H3.out hb5; have d0 : w5.cell? ⟨w.heap.size + 1 + 1 + 1, 0, none⟩ = some (.int .i64 s1) := (blk_cell g3 0).trans rfl; have d1 : w5.cell? ⟨w.heap.size + 1 + 1 + 1, 1, none⟩ = some (.int .i64 s2) := (blk_cell g3 1).trans rfl; have lt3 := blk_lt g3; have HB5 := m0 hb5; clear hb5 g3) | (refine ⟨trivial, ?_⟩; gi_at_call 126; refine (CallsIn.inRound l (callsIn_wide.2 (line_less.calls s1 s2 m1 m2 _ _ HLS.out))).mono ?_; rintro e w7 ⟨rfl, hb7⟩; have HB7 := m0 (below_then (below_alloc HB5.out _) (Nat.le_trans HB5.out.size (by simp)) hb7); have g8 := blk_below (blk_new w5 (.cells #[.int .i64 m1, .int .i64 m2] 26 (0, 0))) hb7; have e0 : w7.cell? ⟨w5.heap.size, 0, none⟩ = some (.int .i64 m1) := (blk_cell g8 0).trans rfl; have e1 : w7.cell? ⟨w5.heap.size, 1, none⟩ = some (.int .i64 m2) := (blk_cell g8 1).trans rfl; have g3 := blk_below H3.out HB7.out; have d20 : w7.cell? ⟨w.heap.size + 1 + 1 + 1, 0, none⟩ = some (.int .i64 s1) := (blk_cell g3 0).trans rfl; have d21 : w7.cell? ⟨w.heap.size + 1 + 1 + 1, 1, none⟩ = some (.int .i64 s2) := (blk_cell g3 1).trans rfl; have d22 : w7.cell? ⟨w.heap.size + 1 + 1 + 1, 2, none⟩ = some (.int .i64 s3) := (blk_cell g3 2).trans rfl; have f0 := blk_frozen g3 0; have f1 := blk_frozen g3 1; have f2 := blk_frozen g3 2; clear hb7 g8 g3))
   first | exact HYES.out _ _ HB7.out (by simp) | exact HNO.out _ _ HB7.out (by simp)
 case done =>
  rintro D W hD ⟨⟨s, hs, h3, hp0, h1, h2, h6⟩, hB⟩ hK
  rw [HIT.out] at hs
  cases hs
  have hZ := hz
  have c0 : W.cell? ⟨w.heap.size + 1 + 1 + 1, 0, none⟩ = some (.int .i64 r1) := (blk_cell h3 0).trans rfl
  have c1 : W.cell? ⟨w.heap.size + 1 + 1 + 1, 1, none⟩ = some (.int .i64 r2) := (blk_cell h3 1).trans rfl
  have c2 : W.cell? ⟨w.heap.size + 1 + 1 + 1, 2, none⟩ = some (.int .i64 r3) := (blk_cell h3 2).trans rfl
  have z0 : W.cell? ⟨w.heap.size + 1 + 1, 0, none⟩ = some (.int .i64 0) := (blk_cell h2 0).trans rfl
  have z1 : W.cell? ⟨w.heap.size + 1 + 1, 1, none⟩ = some (.int .i64 0) := (blk_cell h2 1).trans rfl
  have z2 : W.cell? ⟨w.heap.size + 1 + 1, 2, none⟩ = some (.int .i64 0) := (blk_cell h2 2).trans rfl
  have f0 := blk_frozen h2 0
  have f1 := blk_frozen h2 1
  have f2 := blk_frozen h2 2
  have H2 := m0 h2
  have HBB := m0 hB
  have HZ := m0 hz
  have HK := m0 hK
  have HD := m0 hD
  clear h1 h2 h3 hp0 hB h6 hz hZ k0 k1 k2 k3 k4 k5 hb0 hall HIT HY hr0_0 hr0_1 hc0_0 hc0_1 hK hD HG
  gi_wp2
  have hZ := HZ.out
  have hD := HD.out
  have hK6 : (((W.setCell ⟨w.heap.size + 1 + 1, 0, none⟩ (.int .i64 r1)).setCell ⟨w.heap.size + 1 + 1, 1, none⟩ (.int .i64 r2)).setCell ⟨w.heap.size + 1 + 1, 2, none⟩ (.int .i64 r3)).heap[D]? = some (.deferred (some [])) := blk_ne_set (blk_ne_set (blk_ne_set HK.out (by omega)) (by omega)) (by omega)
  refine ⟨by simp, .inl ⟨_, _, rfl, run_takeDeferred hK6, ?_⟩⟩
  have b1 : Below w.heap.size w (((W.setCell ⟨w.heap.size + 1 + 1, 0, none⟩ (.int .i64 r1)).setCell ⟨w.heap.size + 1 + 1, 1, none⟩ (.int .i64 r2)).setCell ⟨w.heap.size + 1 + 1, 2, none⟩ (.int .i64 r3)) :=
   ((HBB.out.setCell (p := ⟨w.heap.size + 1 + 1, 0, none⟩) (by show w.heap.size ≤ w.heap.size + 1 + 1; omega) _).setCell (p := ⟨w.heap.size + 1 + 1, 1, none⟩) (by show w.heap.size ≤ w.heap.size + 1 + 1; omega) _).setCell (p := ⟨w.heap.size + 1 + 1, 2, none⟩) (by show w.heap.size ≤ w.heap.size + 1 + 1; omega) _
  exact ⟨.agg #[.int .i64 r1, .int .i64 r2, .int .i64 r3], results_cell_row rfl _ _ (w.heap.size + 1 + 1) 36 #[.int .i64 r1, .int .i64 r2, .int .i64 r3] (0, 0) _ rfl ((World.putObj_heap_other (by omega)).trans (blk_put (blk_put (blk_put H2.out 0 _ rfl) 1 _ rfl) 2 _ rfl)) Tryd.underlying36 rfl (by kernel_rfl), rfl, b1.trans (belowK_b (w := w) (Nat.le_refl _) _ D _ _ (by omega) hK6 rfl rfl)⟩
end
section
def line_WorstOf.f (k : Nat) (l0_0 : List Int) (l0_1 : List Int) (a0_2 : Int) (a0_3 : Int) (a1 : Int) : Option (Int × Int × Int × Int) := (line_CheckCase.f k l0_0 l0_1 a0_2 a0_3).bind fun t215 => ((line_kindErr.f a1).bind fun t216 => ((line_first.f k (([t215, t216] : List Int))).bind fun t220 => (if t220 = 0 then ((line_worst.f k l0_0 l0_1 a0_2 a0_3 a1).bind fun bt221 => (some (bt221.1, bt221.2.1, bt221.2.2, 0))) else (some (0, 0, 0, t220)))))
theorem line_WorstOf.mono : ∀ a0 a1 a2 a3 a4 k, LeO (line_WorstOf.f k a0 a1 a2 a3 a4) (line_WorstOf.f (k + 1) a0 a1 a2 a3 a4) := by
 intro a0 a1 a2 a3 a4 k
 unfold line_WorstOf.f
 repeat' first
   | (with_reducible exact line_CheckCase.mono _ _ _ _ _)
   | (with_reducible exact line_first.mono _ _)
   | (with_reducible exact line_worst.mono _ _ _ _ _ _)
   | (with_reducible exact LeO.refl _)
   | (with_reducible exact LeO.none _)
   | (with_reducible refine LeO.ite ?_ ?_)
   | (with_reducible refine LeO.bind ?_ (fun _ => ?_))
   | exact line_CheckCase.mono _ _ _ _ _
   | exact line_first.mono _ _
   | exact line_worst.mono _ _ _ _ _ _
   | exact LeO.none _
   | refine LeO.ite ?_ ?_
   | refine LeO.bind ?_ (fun _ => ?_)
theorem line_WorstOf.calls (k : Nat) (A0_0 : Option Addr) (c0_0 : Nat) (l0_0 : List Int) (A0_1 : Option Addr) (c0_1 : Nat) (l0_1 : List Int) (a0_2 : Int) (a0_3 : Int) (a1 : Int) (r1 : Int) (r2 : Int) (r3 : Int) (r4 : Int) (w : World) (hr0_0 : Kd.C (Kd.int .i64) w A0_0 l0_0.length l0_0) (hc0_0 : l0_0.length ≤ c0_0) (hr0_1 : Kd.C (Kd.int .i64) w A0_1 l0_1.length l0_1) (hc0_1 : l0_1.length ≤ c0_1) (hG : EstG w) (h : line_WorstOf.f k l0_0 l0_1 a0_2 a0_3 a1 = some (r1, r2, r3, r4)) :
  Calls Tryd.prog 22 #[.agg #[.slice A0_0 l0_0.length c0_0, .slice A0_1 l0_1.length c0_1, .int .i64 a0_2, .int .i64 a0_3], .int .i64 a1] w fun e w' => e = .returned (.tuple #[.agg #[.int .i64 r1, .int .i64 r2, .int .i64 r3], .int .i64 r4]) ∧ Below w.heap.size w w' := by
 have hu28 := Tryd.underlying28
 have hu36 := Tryd.underlying36
 have HG := m0 hG
 clear hG
 have HR0_0 := m0 hr0_0
 have HC0_0 := m0 hc0_0
 clear hr0_0 hc0_0
 have HR0_1 := m0 hr0_1
 have HC0_1 := m0 hc0_1
 clear hr0_1 hc0_1
 have HB := m0 (Below.refl w.heap.size w)
 have H : ((line_CheckCase.f k l0_0 l0_1 a0_2 a0_3).bind fun t215 => ((line_kindErr.f a1).bind fun t216 => ((line_first.f k (([t215, t216] : List Int))).bind fun t220 => (if t220 = 0 then ((line_worst.f k l0_0 l0_1 a0_2 a0_3 a1).bind fun bt221 => (some (bt221.1, bt221.2.1, bt221.2.2, 0))) else (some (0, 0, 0, t220)))))) = some (r1, r2, r3, r4) := h
 clear h
 replace H := ob H
 obtain ⟨t215, A30, H⟩ := H
 (try dsimp only at H)
 have A3 := m0 A30
 clear A30
 replace H := ob H
 obtain ⟨t216, A40, H⟩ := H
 (try dsimp only at H)
 have A4 := m0 A40
 clear A40
 obtain ⟨y217, hy217⟩ : ∃ y_ : List Int, y_ = (([t215, t216] : List Int)) := ⟨_, rfl⟩
 replace H : ((line_first.f k y217).bind fun t220 => (if t220 = 0 then ((line_worst.f k l0_0 l0_1 a0_2 a0_3 a1).bind fun bt221 => (some (bt221.1, bt221.2.1, bt221.2.2, 0))) else (some (0, 0, 0, t220)))) = some (r1, r2, r3, r4) := by first | (rw [hy217]; with_reducible exact H) | (have H2_ := (Option.bind_some _ _).symm.trans H; rw [hy217]; with_reducible exact H2_) | (have H2_ := (Option.bind_some _ _).symm.trans H; with_reducible exact H2_) | with_reducible exact H | (rw [hy217]; exact H) | exact H
 have Ny217 := m0 hy217
 clear hy217
 replace H := ob H
 obtain ⟨t220, A50, H⟩ := H
 (try dsimp only at H)
 have A5 := m0 A50
 clear A50
 by_cases c6 : t220 = 0
 ·rw [if_pos c6] at H
  have c6b0 := beq_iff_eq.mpr c6
  have c6b1 := bne_eq_false_iff_eq.mpr c6
  clear c6
  replace H := ob H
  obtain ⟨⟨t221, t222, t223⟩, A70, H⟩ := H
  (try dsimp only at H)
  have A7 := m0 A70
  clear A70
  simp only [Option.some.injEq, Prod.mk.injEq] at H
  obtain ⟨rfl, rfl, rfl, rfl⟩ := H
  go_enter Tryd.func22, Tryd.ntmps22
  go_wp2_with (first | ((with_reducible refine gate_dst (N := 2) rfl ?_); refine be 2 28 #[.slice A0_0 l0_0.length c0_0, .slice A0_1 l0_1.length c0_1, .int .i64 a0_2, .int .i64 a0_3] ?_; intro gb213 hg w8 hbox hb; have BK213 := m0 hbox; have GW213 := m0 (bg (n := w.heap.size) hg); have GE213 := m0 (bg (n := w.heap.size) hg); replace HB := sb HB hb; clear hb hbox hg) | ((with_reducible refine gate_dst (N := 4) rfl ?_); refine be 4 36 #[.int .i64 0, .int .i64 0, .int .i64 0] ?_; intro gb214 hg w9 hbox hb; have BK214 := m0 hbox; have GW214 := m0 (bg (n := w.heap.size) hg); have GE214 := m0 (bg (n := w.heap.size) hg); replace HB := sb HB hb; have NB213_214 := nl BK213 hg; have NB214_213 := ng (nl BK213 hg); replace BK213 := bb BK213 hb; clear hb hbox hg; have hnb10 := NB213_214.out; have hnc10 := NB214_213.out; obtain ⟨_, _, _, _, _, _, _, _⟩ := b4 BK213) | ((with_reducible refine gate_callee (f := 53) rfl ?_); refine gl (some 8) Tryd.func53 #[.agg #[.slice A0_0 l0_0.length c0_0, .slice A0_1 l0_1.length c0_1, .int .i64 a0_2, .int .i64 a0_3]] ?_; (with_reducible refine (line_CheckCase.calls k _ _ l0_0 _ _ l0_1 a0_2 a0_3 t215 _ ?side1 ?side2 ?side3 ?side4 A3.out).mono ?_); (case side1 => exact cb HR0_0 HB); (case side2 => exact HC0_0.out); (case side3 => exact cb HR0_1 HB); (case side4 => exact HC0_1.out); rintro e w12 ⟨rfl, hb⟩; refine ⟨_, rfl, ?_⟩; replace BK213 := bb BK213 hb; replace BK214 := bb BK214 hb; replace HB := sb HB hb; (try clear hb)) | ((with_reducible refine gate_callee (f := 92) rfl ?_); refine gl (some 10) Tryd.func92 #[.int .i64 a1] ?_; (with_reducible refine (line_kindErr.calls a1 t216 _ A4.out).mono ?_); rintro e w' ⟨rfl, ⟨nd, rfl⟩⟩; refine ⟨_, rfl, ?_⟩; (try (rw [drewN_self w12]; generalize hq_ : World.drewN w12 _ = w12; replace BK213 := gd BK213 hq_; replace BK214 := gd BK214 hq_; replace HB := gs HB hq_; clear hq_))) | ((with_reducible refine gate_dst (N := 11) rfl ?_); refine Kd.R_lit (Kd.int .i64) _ 31 ?hg (N := 11) ?hd (xs := ([t215, t216] : List Int)) (inner := [.int .i64 t215, .int .i64 t216]) (ok := fun _ => True) (okp := fun _ => True) ?hr ?hp (fun _ hk => hk) trivial (Below.refl _ _) (Nat.le_refl _) (by simp) ?_; (case hd => rfl); (case hg => rfl); (case hr => first | (go_simp; done) | (go_simp; rfl)); (case hp => exact (Reps.one (show Kd.M (Kd.int .i64) _ _ _ t215 [.int .i64 t215] from rfl) (Reps.one (show Kd.M (Kd.int .i64) _ _ _ t216 [.int .i64 t216] from rfl) (Reps.none _ _)))); intro v218 w13 ho14 hb hg_ hnew_; clear hg_ hnew_; (first | rw [← Ny217.out] at ho14 | (simp only [Int.reduceToNat] at ho14; rw [← Ny217.out] at ho14)); have HO219 := m0 (Kd.R_lower ho14 (below_size bz)); replace BK213 := bb BK213 hb; replace BK214 := bb BK214 hb; replace HB := sb HB hb; clear hb ho14; obtain ⟨Ao15, co15, eo15⟩ := Kd.R_slice HO219.out; subst eo15) | ((with_reducible refine gate_callee (f := 91) rfl ?_); refine gl (some 12) Tryd.func91 #[.slice Ao15 y217.length co15] ?_; (with_reducible refine (line_first.calls k _ _ y217 t220 _ ?side1 ?side2 A5.out).mono ?_); (case side1 => exact bc (Kd.R_reads' HO219.out).2.2); (case side2 => exact (Kd.R_reads' HO219.out).2.1); rintro e w' ⟨rfl, ⟨nd, rfl⟩⟩; refine ⟨_, rfl, ?_⟩; (try (rw [drewN_self w13]; generalize hq_ : World.drewN w13 _ = w13; replace HO219 := gr HO219 hq_; replace BK213 := gd BK213 hq_; replace BK214 := gd BK214 hq_; replace HB := gs HB hq_; clear hq_)); obtain ⟨_, _, _, _, _, _, _, _⟩ := b4 BK213) | ((with_reducible refine gate_callee (f := 97) rfl ?_); refine gl (some 19) Tryd.func97 #[.agg #[.slice A0_0 l0_0.length c0_0, .slice A0_1 l0_1.length c0_1, .int .i64 a0_2, .int .i64 a0_3], .int .i64 a1] ?_; (with_reducible refine (line_worst.calls k _ _ l0_0 _ _ l0_1 a0_2 a0_3 a1 t221 t222 t223 _ ?side1 ?side2 ?side3 ?side4 ?side5 A7.out).mono ?_); (case side1 => exact cb HR0_0 HB); (case side2 => exact HC0_0.out); (case side3 => exact cb HR0_1 HB); (case side4 => exact HC0_1.out); (case side5 => exact EstG.below HG.out bz); rintro e w17 ⟨rfl, hb⟩; refine ⟨_, rfl, ?_⟩; replace HO219 := rb HO219 hb; replace BK213 := bb BK213 hb; replace BK214 := bb BK214 hb; replace HB := sb HB hb; (try clear hb); obtain ⟨_, _, _, _, _, _⟩ := b3 BK214))
  refine bodyPost_ret (results_ct rfl _ _ gb214 36 #[.int .i64 t221, .int .i64 t222, .int .i64 t223] (0, 0) _ rfl (bq BK214.out) Tryd.underlying36 rfl (by kernel_rfl)) rfl ?_
  exact ez
 ·rw [if_neg c6] at H
  have c6b0 := beq_eq_false_iff_ne.mpr c6
  have c6b1 := bne_iff_ne.mpr c6
  simp only [Option.some.injEq, Prod.mk.injEq] at H
  obtain ⟨rfl, rfl, rfl, rfl⟩ := H
  go_enter Tryd.func22, Tryd.ntmps22
  go_wp2_with (first | ((with_reducible refine gate_dst (N := 2) rfl ?_); refine be 2 28 #[.slice A0_0 l0_0.length c0_0, .slice A0_1 l0_1.length c0_1, .int .i64 a0_2, .int .i64 a0_3] ?_; intro gb213 hg w19 hbox hb; have BK213 := m0 hbox; have GW213 := m0 (bg (n := w.heap.size) hg); have GE213 := m0 (bg (n := w.heap.size) hg); replace HB := sb HB hb; clear hb hbox hg) | ((with_reducible refine gate_dst (N := 4) rfl ?_); refine be 4 36 #[.int .i64 0, .int .i64 0, .int .i64 0] ?_; intro gb214 hg w20 hbox hb; have BK214 := m0 hbox; have GW214 := m0 (bg (n := w.heap.size) hg); have GE214 := m0 (bg (n := w.heap.size) hg); replace HB := sb HB hb; have NB213_214 := nl BK213 hg; have NB214_213 := ng (nl BK213 hg); replace BK213 := bb BK213 hb; clear hb hbox hg; have hnb21 := NB213_214.out; have hnc21 := NB214_213.out; obtain ⟨_, _, _, _, _, _, _, _⟩ := b4 BK213) | ((with_reducible refine gate_callee (f := 53) rfl ?_); refine gl (some 8) Tryd.func53 #[.agg #[.slice A0_0 l0_0.length c0_0, .slice A0_1 l0_1.length c0_1, .int .i64 a0_2, .int .i64 a0_3]] ?_; (with_reducible refine (line_CheckCase.calls k _ _ l0_0 _ _ l0_1 a0_2 a0_3 t215 _ ?side1 ?side2 ?side3 ?side4 A3.out).mono ?_); (case side1 => exact cb HR0_0 HB); (case side2 => exact HC0_0.out); (case side3 => exact cb HR0_1 HB); (case side4 => exact HC0_1.out); rintro e w23 ⟨rfl, hb⟩; refine ⟨_, rfl, ?_⟩; replace BK213 := bb BK213 hb; replace BK214 := bb BK214 hb; replace HB := sb HB hb; (try clear hb)) | ((with_reducible refine gate_callee (f := 92) rfl ?_); refine gl (some 10) Tryd.func92 #[.int .i64 a1] ?_; (with_reducible refine (line_kindErr.calls a1 t216 _ A4.out).mono ?_); rintro e w' ⟨rfl, ⟨nd, rfl⟩⟩; refine ⟨_, rfl, ?_⟩; (try (rw [drewN_self w23]; generalize hq_ : World.drewN w23 _ = w23; replace BK213 := gd BK213 hq_; replace BK214 := gd BK214 hq_; replace HB := gs HB hq_; clear hq_))) | ((with_reducible refine gate_dst (N := 11) rfl ?_); refine Kd.R_lit (Kd.int .i64) _ 31 ?hg (N := 11) ?hd (xs := ([t215, t216] : List Int)) (inner := [.int .i64 t215, .int .i64 t216]) (ok := fun _ => True) (okp := fun _ => True) ?hr ?hp (fun _ hk => hk) trivial (Below.refl _ _) (Nat.le_refl _) (by simp) ?_; (case hd => rfl); (case hg => rfl); (case hr => first | (go_simp; done) | (go_simp; rfl)); (case hp => exact (Reps.one (show Kd.M (Kd.int .i64) _ _ _ t215 [.int .i64 t215] from rfl) (Reps.one (show Kd.M (Kd.int .i64) _ _ _ t216 [.int .i64 t216] from rfl) (Reps.none _ _)))); intro v218 w24 ho25 hb hg_ hnew_; clear hg_ hnew_; (first | rw [← Ny217.out] at ho25 | (simp only [Int.reduceToNat] at ho25; rw [← Ny217.out] at ho25)); have HO219 := m0 (Kd.R_lower ho25 (below_size bz)); replace BK213 := bb BK213 hb; replace BK214 := bb BK214 hb; replace HB := sb HB hb; clear hb ho25; obtain ⟨Ao26, co26, eo26⟩ := Kd.R_slice HO219.out; subst eo26) | ((with_reducible refine gate_callee (f := 91) rfl ?_); refine gl (some 12) Tryd.func91 #[.slice Ao26 y217.length co26] ?_; (with_reducible refine (line_first.calls k _ _ y217 t220 _ ?side1 ?side2 A5.out).mono ?_); (case side1 => exact bc (Kd.R_reads' HO219.out).2.2); (case side2 => exact (Kd.R_reads' HO219.out).2.1); rintro e w' ⟨rfl, ⟨nd, rfl⟩⟩; refine ⟨_, rfl, ?_⟩; (try (rw [drewN_self w24]; generalize hq_ : World.drewN w24 _ = w24; replace HO219 := gr HO219 hq_; replace BK213 := gd BK213 hq_; replace BK214 := gd BK214 hq_; replace HB := gs HB hq_; clear hq_)); obtain ⟨_, _, _, _, _, _⟩ := b3 BK214))
  refine bodyPost_ret (results_ct rfl _ _ gb214 36 #[.int .i64 0, .int .i64 0, .int .i64 0] (0, 0) _ rfl (bq BK214.out) Tryd.underlying36 rfl (by kernel_rfl)) rfl ?_
  exact ez
end
end Go.Proofs.YtjnkphmcndaijaaDoor.A
