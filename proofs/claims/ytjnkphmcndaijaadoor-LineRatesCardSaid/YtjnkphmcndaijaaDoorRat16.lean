/- Walks of the program's functions (printed, made shorter), each with what it computes. -/
import Derived.Test.YtjnkphmcndaijaaDoorRat04
import Derived.Test.YtjnkphmcndaijaaDoorRat15
import Derived.Test.YtjnkphmcndaijaaDoorRat03
namespace Go.Proofs.YtjnkphmcndaijaaDoor.A
set_option maxHeartbeats 8000000
set_option maxRecDepth 100000
open Go.RowKit Go.Proofs.YtjnkphmcndaijaaDoorW.PrintWords Go.Proofs.YtjnkphmcndaijaaDoorW.PrintLast Go.Proofs.YtjnkphmcndaijaaDoorW.PrintMore
attribute [local go_sem] max2_int min2_int max_two min_two max_three min_three max_four min_four
set_option linter.unusedVariables false
set_option linter.unusedSimpArgs false
def Rf_Threshold.l0 : Nat → Int → Int → Int → Int → List Int → Option (Int)
 | 0, _, _, _, _, _ => none
 | k + 1, x1, x2, x7, x8, x1944000 => if x8 < (x1944000.length : Int) then (if x8 ≥ 0 then (if 0 ≤ x8 then ((Rf_FalseRate.f k x1944000 x1 (wrap64 ((rd x1944000 x8) + 1))).bind fun bt1945 => (if (wrap64 (1000 * bt1945.1)) ≤ (wrap64 (x2 * bt1945.2)) then (if x7 < 0 then (Rf_Threshold.l0 k x1 x2 (wrap64 ((rd x1944000 x8) + 1)) (wrap64 (x8 + 1)) x1944000) else (if (wrap64 ((rd x1944000 x8) + 1)) < x7 then (Rf_Threshold.l0 k x1 x2 (wrap64 ((rd x1944000 x8) + 1)) (wrap64 (x8 + 1)) x1944000) else (Rf_Threshold.l0 k x1 x2 x7 (wrap64 (x8 + 1)) x1944000))) else (Rf_Threshold.l0 k x1 x2 x7 (wrap64 (x8 + 1)) x1944000))) else (none)) else ((Rf_FalseRate.f k x1944000 x1 0).bind fun bt1948 => (if (wrap64 (1000 * bt1948.1)) ≤ (wrap64 (x2 * bt1948.2)) then (if x7 < 0 then (Rf_Threshold.l0 k x1 x2 0 (wrap64 (x8 + 1)) x1944000) else (if 0 < x7 then (Rf_Threshold.l0 k x1 x2 0 (wrap64 (x8 + 1)) x1944000) else (Rf_Threshold.l0 k x1 x2 x7 (wrap64 (x8 + 1)) x1944000))) else (Rf_Threshold.l0 k x1 x2 x7 (wrap64 (x8 + 1)) x1944000)))) else (some x7)
def Rf_Threshold.f (k : Nat) (l0_0 : List Int) (a1 : Int) (a2 : Int) : Option (Int) := Rf_Threshold.l0 k a1 a2 (-1) (-1) l0_0
theorem Rf_Threshold.mono_l : ∀ k, (∀ y0 y1 y2 y3 y4, LeO (Rf_Threshold.l0 k y0 y1 y2 y3 y4) (Rf_Threshold.l0 (k + 1) y0 y1 y2 y3 y4))
 | 0 => fun _ _ _ _ _ r h => by simp [Rf_Threshold.l0] at h
 | k + 1 => by
  have ih0 := Rf_Threshold.mono_l k
  ·intro y0 y1 y2 y3 y4
   unfold Rf_Threshold.l0
   repeat' first
   | (with_reducible exact ih0 _ _ _ _ _)
   | (with_reducible exact Rf_FalseRate.mono _ _ _ _)
   | (with_reducible exact LeO.refl _)
   | (with_reducible exact LeO.none _)
   | (with_reducible refine LeO.ite ?_ ?_)
   | (with_reducible refine LeO.bind ?_ (fun _ => ?_))
   | exact ih0 _ _ _ _ _
   | exact Rf_FalseRate.mono _ _ _ _
   | exact LeO.none _
   | refine LeO.ite ?_ ?_
   | refine LeO.bind ?_ (fun _ => ?_)
theorem Rf_Threshold.mono : ∀ a0 a1 a2 k, LeO (Rf_Threshold.f k a0 a1 a2) (Rf_Threshold.f (k + 1) a0 a1 a2) := by
 intro a0 a1 a2 k
 have ih0 := Rf_Threshold.mono_l k
 unfold Rf_Threshold.f
 repeat' first
   | (with_reducible exact ih0 _ _ _ _ _)
   | (with_reducible exact Rf_FalseRate.mono _ _ _ _)
   | (with_reducible exact LeO.refl _)
   | (with_reducible exact LeO.none _)
   | (with_reducible refine LeO.ite ?_ ?_)
   | (with_reducible refine LeO.bind ?_ (fun _ => ?_))
   | exact ih0 _ _ _ _ _
   | exact Rf_FalseRate.mono _ _ _ _
   | exact LeO.none _
   | refine LeO.ite ?_ ?_
   | refine LeO.bind ?_ (fun _ => ?_)
theorem Rf_Threshold.calls (k : Nat) (A0_0 : Option Addr) (c0_0 : Nat) (l0_0 : List Int) (a1 : Int) (a2 : Int) (r : Int) (w : World) (hr0_0 : Kd.C (Kd.int .i64) w A0_0 l0_0.length l0_0) (hc0_0 : l0_0.length ≤ c0_0) (h : Rf_Threshold.f k l0_0 a1 a2 = some r) :
  Calls Tryd.prog 87 #[.agg #[.slice A0_0 l0_0.length c0_0], .int .i64 a1, .int .i64 a2] w fun e w' => e = .returned (.int .i64 r) ∧ Below w.heap.size w w' := by
 have hu24 := Tryd.underlying24
 have hu26 := Tryd.underlying26
 have HR0_0 := m0 hr0_0
 have HC0_0 := m0 hc0_0
 clear hr0_0 hc0_0
 have HB := m0 (Below.refl w.heap.size w)
 have H : (Rf_Threshold.l0 k a1 a2 (-1) (-1) l0_0) = some r := h
 clear h
 have H' := m0 H
 clear H
 go_enter Tryd.func87, Tryd.ntmps87
 go_wp2_with (first | ((with_reducible refine gate_dst (N := 3) rfl ?_); refine be 3 24 #[.slice A0_0 l0_0.length c0_0] ?_; intro gb1943 hg w4 hbox hb; have BK1943 := m0 hbox; have GW1943 := m0 (bg (n := w.heap.size) hg); have GE1943 := m0 (bg (n := w.heap.size) hg); replace HB := sb HB hb; clear hb hbox hg))
 go_loopg [7, 8] k (fun kq v7 v8 w' => ∃ (x7_1 : Int) (x8_1 : Int), v7 = .int .i64 x7_1 ∧ v8 = .int .i64 x8_1 ∧ Aside0 (Rf_Threshold.l0 kq a1 a2 x7_1 x8_1 l0_0 = some r) ∧ Aside0 (kq ≤ k) ∧ Aside0 (w'.heap[gb1943]? = some (.cells #[(.slice A0_0 l0_0.length c0_0)] 24 (0, 0))) ∧ Aside0 (Below w.heap.size w w'))
 case atStart => exact ⟨((-1)), ((-1)), (by first | rfl | (simp; done) | (simp [*]; done)), (by first | rfl | (simp; done) | (simp [*]; done)), H', ⟨Nat.le_refl _⟩, ⟨bk BK1943.out⟩, ⟨bz⟩⟩
 case round =>
  clear H'
  try clear p2
  obtain ⟨x7_1, x8_1, rfl, rfl, HA, HK1, BK1943, HB⟩ := hrel
  cases gk with
  | zero => exact absurd HA.out (by simp [Rf_Threshold.l0])
  | succ k1 =>
   have H := HA.out
   clear HA
   simp only [Rf_Threshold.l0] at H
   by_cases c5 : x8_1 < (l0_0.length : Int)
   ·rw [if_pos c5] at H
    have c5b0 := decide_eq_true c5
    clear c5
    by_cases c6 : x8_1 ≥ 0
    ·rw [if_pos c6] at H
     have c6b0 := decide_eq_true c6
     clear c6
     by_cases c7 : 0 ≤ x8_1
     ·rw [if_pos c7] at H
      have c7b0 := decide_eq_true c7
      clear c7
      replace H := ob H
      obtain ⟨⟨t1945, t1946⟩, A80, H⟩ := H
      (try dsimp only at H)
      have A8 := m0 A80
      clear A80
      by_cases c9 : (wrap64 (1000 * t1945)) ≤ (wrap64 (a2 * t1946))
      ·rw [if_pos c9] at H
       have c9b0 := decide_eq_true c9
       clear c9
       by_cases c10 : x7_1 < 0
       ·rw [if_pos c10] at H
        have c10b0 := decide_eq_true c10
        clear c10
        have H' := m0 H
        clear H
        obtain ⟨_, _⟩ := b1 BK1943
        have p1944 : 0 ≤ (x8_1 : Int) := of_decide_eq_true (by first | (with_reducible assumption) | assumption)
        have q1944 : x8_1 < (l0_0.length : Int) := of_decide_eq_true (by first | (with_reducible assumption) | assumption)
        obtain ⟨ad1944, e1944, hx1944_0⟩ := Kd.at_int HR0_0.out x8_1 p1944 q1944
        cases e1944
        replace hx1944_0 := (HB.out.cell (World.block_lt_of_cell? w _ hx1944_0)).trans hx1944_0
        replace p1944 := eq_true p1944
        replace q1944 := eq_true q1944
        go_wp2_with (first | ((with_reducible refine gate_callee (f := 86) rfl ?_); refine gl (some 29) Tryd.func86 #[.agg #[.slice (some ad1944) l0_0.length c0_0], .int .i64 a1, .int .i64 (wrap64 ((rd l0_0 x8_1) + 1))] ?_; (with_reducible refine (Rf_FalseRate.calls k1 _ _ l0_0 a1 (wrap64 ((rd l0_0 x8_1) + 1)) t1945 t1946 _ ?side1 ?side2 A8.out).mono ?_); (case side1 => exact cb HR0_0 HB); (case side2 => exact HC0_0.out); rintro e w12 ⟨rfl, hb⟩; refine ⟨_, rfl, ?_⟩; replace BK1943 := bb BK1943 hb; replace HB := sb HB hb; (try clear hb)) | ((with_reducible refine gate_dst (N := 10) rfl ?_); refine be 10 26 #[.int .i64 0, .int .i64 0] ?_; intro gb1947 hg w13 hbox hb; have BK1947 := m0 hbox; have GW1947 := m0 (bg (n := w.heap.size) hg); have GE1947 := m0 (bg (n := w.heap.size) hg); replace HB := sb HB hb; have NB1943_1947 := nl BK1943 hg; have NB1947_1943 := ng (nl BK1943 hg); replace BK1943 := bb BK1943 hb; clear hb hbox hg; have hnb14 := NB1947_1943.out; have hnc14 := NB1943_1947.out; obtain ⟨_, _, _, _⟩ := b2 BK1947))
        go_roundg k1
        case measure => have := HK1.out; omega
        case rel => exact ⟨(wrap64 ((rd l0_0 x8_1) + 1)), (wrap64 (x8_1 + 1)), (by first | rfl | (simp; done) | (simp [*]; done)), (by first | rfl | (simp; done) | (simp [*]; done)), H', ⟨by have := HK1.out; omega⟩, ⟨bq BK1943.out⟩, ⟨bz⟩⟩
       ·rw [if_neg c10] at H
        have c10b0 := decide_eq_false c10
        clear c10
        by_cases c16 : (wrap64 ((rd l0_0 x8_1) + 1)) < x7_1
        ·rw [if_pos c16] at H
         have c16b0 := decide_eq_true c16
         clear c16
         have H' := m0 H
         clear H
         obtain ⟨_, _⟩ := b1 BK1943
         have p1944 : 0 ≤ (x8_1 : Int) := of_decide_eq_true (by first | (with_reducible assumption) | assumption)
         have q1944 : x8_1 < (l0_0.length : Int) := of_decide_eq_true (by first | (with_reducible assumption) | assumption)
         obtain ⟨ad1944, e1944, hx1944_0⟩ := Kd.at_int HR0_0.out x8_1 p1944 q1944
         cases e1944
         replace hx1944_0 := (HB.out.cell (World.block_lt_of_cell? w _ hx1944_0)).trans hx1944_0
         replace p1944 := eq_true p1944
         replace q1944 := eq_true q1944
         go_wp2_with (first | ((with_reducible refine gate_callee (f := 86) rfl ?_); refine gl (some 29) Tryd.func86 #[.agg #[.slice (some ad1944) l0_0.length c0_0], .int .i64 a1, .int .i64 (wrap64 ((rd l0_0 x8_1) + 1))] ?_; (with_reducible refine (Rf_FalseRate.calls k1 _ _ l0_0 a1 (wrap64 ((rd l0_0 x8_1) + 1)) t1945 t1946 _ ?side1 ?side2 A8.out).mono ?_); (case side1 => exact cb HR0_0 HB); (case side2 => exact HC0_0.out); rintro e w18 ⟨rfl, hb⟩; refine ⟨_, rfl, ?_⟩; replace BK1943 := bb BK1943 hb; replace HB := sb HB hb; (try clear hb)) | ((with_reducible refine gate_dst (N := 10) rfl ?_); refine be 10 26 #[.int .i64 0, .int .i64 0] ?_; intro gb1947 hg w19 hbox hb; have BK1947 := m0 hbox; have GW1947 := m0 (bg (n := w.heap.size) hg); have GE1947 := m0 (bg (n := w.heap.size) hg); replace HB := sb HB hb; have NB1943_1947 := nl BK1943 hg; have NB1947_1943 := ng (nl BK1943 hg); replace BK1943 := bb BK1943 hb; clear hb hbox hg; have hnb20 := NB1947_1943.out; have hnc20 := NB1943_1947.out; obtain ⟨_, _, _, _⟩ := b2 BK1947))
         go_roundg k1
         case measure => have := HK1.out; omega
         case rel => exact ⟨(wrap64 ((rd l0_0 x8_1) + 1)), (wrap64 (x8_1 + 1)), (by first | rfl | (simp; done) | (simp [*]; done)), (by first | rfl | (simp; done) | (simp [*]; done)), H', ⟨by have := HK1.out; omega⟩, ⟨bq BK1943.out⟩, ⟨bz⟩⟩
        ·rw [if_neg c16] at H
         have c16b0 := decide_eq_false c16
         clear c16
         have H' := m0 H
         clear H
         obtain ⟨_, _⟩ := b1 BK1943
         have p1944 : 0 ≤ (x8_1 : Int) := of_decide_eq_true (by first | (with_reducible assumption) | assumption)
         have q1944 : x8_1 < (l0_0.length : Int) := of_decide_eq_true (by first | (with_reducible assumption) | assumption)
         obtain ⟨ad1944, e1944, hx1944_0⟩ := Kd.at_int HR0_0.out x8_1 p1944 q1944
         cases e1944
         replace hx1944_0 := (HB.out.cell (World.block_lt_of_cell? w _ hx1944_0)).trans hx1944_0
         replace p1944 := eq_true p1944
         replace q1944 := eq_true q1944
         go_wp2_with (first | ((with_reducible refine gate_callee (f := 86) rfl ?_); refine gl (some 29) Tryd.func86 #[.agg #[.slice (some ad1944) l0_0.length c0_0], .int .i64 a1, .int .i64 (wrap64 ((rd l0_0 x8_1) + 1))] ?_; (with_reducible refine (Rf_FalseRate.calls k1 _ _ l0_0 a1 (wrap64 ((rd l0_0 x8_1) + 1)) t1945 t1946 _ ?side1 ?side2 A8.out).mono ?_); (case side1 => exact cb HR0_0 HB); (case side2 => exact HC0_0.out); rintro e w23 ⟨rfl, hb⟩; refine ⟨_, rfl, ?_⟩; replace BK1943 := bb BK1943 hb; replace HB := sb HB hb; (try clear hb)) | ((with_reducible refine gate_dst (N := 10) rfl ?_); refine be 10 26 #[.int .i64 0, .int .i64 0] ?_; intro gb1947 hg w24 hbox hb; have BK1947 := m0 hbox; have GW1947 := m0 (bg (n := w.heap.size) hg); have GE1947 := m0 (bg (n := w.heap.size) hg); replace HB := sb HB hb; have NB1943_1947 := nl BK1943 hg; have NB1947_1943 := ng (nl BK1943 hg); replace BK1943 := bb BK1943 hb; clear hb hbox hg; have hnb25 := NB1947_1943.out; have hnc25 := NB1943_1947.out; obtain ⟨_, _, _, _⟩ := b2 BK1947))
         go_roundg k1
         case measure => have := HK1.out; omega
         case rel => exact ⟨(x7_1), (wrap64 (x8_1 + 1)), (by first | rfl | (simp; done) | (simp [*]; done)), (by first | rfl | (simp; done) | (simp [*]; done)), H', ⟨by have := HK1.out; omega⟩, ⟨bq BK1943.out⟩, ⟨bz⟩⟩
      ·rw [if_neg c9] at H
       have c9b0 := decide_eq_false c9
       clear c9
       have H' := m0 H
       clear H
       obtain ⟨_, _⟩ := b1 BK1943
       have p1944 : 0 ≤ (x8_1 : Int) := of_decide_eq_true (by first | (with_reducible assumption) | assumption)
       have q1944 : x8_1 < (l0_0.length : Int) := of_decide_eq_true (by first | (with_reducible assumption) | assumption)
       obtain ⟨ad1944, e1944, hx1944_0⟩ := Kd.at_int HR0_0.out x8_1 p1944 q1944
       cases e1944
       replace hx1944_0 := (HB.out.cell (World.block_lt_of_cell? w _ hx1944_0)).trans hx1944_0
       replace p1944 := eq_true p1944
       replace q1944 := eq_true q1944
       go_wp2_with (first | ((with_reducible refine gate_callee (f := 86) rfl ?_); refine gl (some 29) Tryd.func86 #[.agg #[.slice (some ad1944) l0_0.length c0_0], .int .i64 a1, .int .i64 (wrap64 ((rd l0_0 x8_1) + 1))] ?_; (with_reducible refine (Rf_FalseRate.calls k1 _ _ l0_0 a1 (wrap64 ((rd l0_0 x8_1) + 1)) t1945 t1946 _ ?side1 ?side2 A8.out).mono ?_); (case side1 => exact cb HR0_0 HB); (case side2 => exact HC0_0.out); rintro e w28 ⟨rfl, hb⟩; refine ⟨_, rfl, ?_⟩; replace BK1943 := bb BK1943 hb; replace HB := sb HB hb; (try clear hb)) | ((with_reducible refine gate_dst (N := 10) rfl ?_); refine be 10 26 #[.int .i64 0, .int .i64 0] ?_; intro gb1947 hg w29 hbox hb; have BK1947 := m0 hbox; have GW1947 := m0 (bg (n := w.heap.size) hg); have GE1947 := m0 (bg (n := w.heap.size) hg); replace HB := sb HB hb; have NB1943_1947 := nl BK1943 hg; have NB1947_1943 := ng (nl BK1943 hg); replace BK1943 := bb BK1943 hb; clear hb hbox hg; have hnb30 := NB1947_1943.out; have hnc30 := NB1943_1947.out; obtain ⟨_, _, _, _⟩ := b2 BK1947))
       go_roundg k1
       case measure => have := HK1.out; omega
       case rel => exact ⟨(x7_1), (wrap64 (x8_1 + 1)), (by first | rfl | (simp; done) | (simp [*]; done)), (by first | rfl | (simp; done) | (simp [*]; done)), H', ⟨by have := HK1.out; omega⟩, ⟨bq BK1943.out⟩, ⟨bz⟩⟩
     ·rw [if_neg c7] at H
      exact absurd H (by simp)
    ·rw [if_neg c6] at H
     have c6b0 := decide_eq_false c6
     clear c6
     replace H := ob H
     obtain ⟨⟨t1948, t1949⟩, A320, H⟩ := H
     (try dsimp only at H)
     have A32 := m0 A320
     clear A320
     by_cases c33 : (wrap64 (1000 * t1948)) ≤ (wrap64 (a2 * t1949))
     ·rw [if_pos c33] at H
      have c33b0 := decide_eq_true c33
      clear c33
      by_cases c34 : x7_1 < 0
      ·rw [if_pos c34] at H
       have c34b0 := decide_eq_true c34
       clear c34
       have H' := m0 H
       clear H
       obtain ⟨_, _⟩ := b1 BK1943
       go_wp2_with (first | ((with_reducible refine gate_callee (f := 86) rfl ?_); refine gl (some 29) Tryd.func86 #[.agg #[.slice A0_0 l0_0.length c0_0], .int .i64 a1, .int .i64 0] ?_; (with_reducible refine (Rf_FalseRate.calls k1 _ _ l0_0 a1 0 t1948 t1949 _ ?side1 ?side2 A32.out).mono ?_); (case side1 => exact cb HR0_0 HB); (case side2 => exact HC0_0.out); rintro e w36 ⟨rfl, hb⟩; refine ⟨_, rfl, ?_⟩; replace BK1943 := bb BK1943 hb; replace HB := sb HB hb; (try clear hb)) | ((with_reducible refine gate_dst (N := 10) rfl ?_); refine be 10 26 #[.int .i64 0, .int .i64 0] ?_; intro gb1950 hg w37 hbox hb; have BK1950 := m0 hbox; have GW1950 := m0 (bg (n := w.heap.size) hg); have GE1950 := m0 (bg (n := w.heap.size) hg); replace HB := sb HB hb; have NB1943_1950 := nl BK1943 hg; have NB1950_1943 := ng (nl BK1943 hg); replace BK1943 := bb BK1943 hb; clear hb hbox hg; have hnb38 := NB1950_1943.out; have hnc38 := NB1943_1950.out; obtain ⟨_, _, _, _⟩ := b2 BK1950))
       go_roundg k1
       case measure => have := HK1.out; omega
       case rel => exact ⟨(0), (wrap64 (x8_1 + 1)), (by first | rfl | (simp; done) | (simp [*]; done)), (by first | rfl | (simp; done) | (simp [*]; done)), H', ⟨by have := HK1.out; omega⟩, ⟨bq BK1943.out⟩, ⟨bz⟩⟩
      ·rw [if_neg c34] at H
       have c34b0 := decide_eq_false c34
       clear c34
       by_cases c40 : 0 < x7_1
       ·rw [if_pos c40] at H
        have c40b0 := decide_eq_true c40
        clear c40
        have H' := m0 H
        clear H
        obtain ⟨_, _⟩ := b1 BK1943
        go_wp2_with (first | ((with_reducible refine gate_callee (f := 86) rfl ?_); refine gl (some 29) Tryd.func86 #[.agg #[.slice A0_0 l0_0.length c0_0], .int .i64 a1, .int .i64 0] ?_; (with_reducible refine (Rf_FalseRate.calls k1 _ _ l0_0 a1 0 t1948 t1949 _ ?side1 ?side2 A32.out).mono ?_); (case side1 => exact cb HR0_0 HB); (case side2 => exact HC0_0.out); rintro e w42 ⟨rfl, hb⟩; refine ⟨_, rfl, ?_⟩; replace BK1943 := bb BK1943 hb; replace HB := sb HB hb; (try clear hb)) | ((with_reducible refine gate_dst (N := 10) rfl ?_); refine be 10 26 #[.int .i64 0, .int .i64 0] ?_; intro gb1950 hg w43 hbox hb; have BK1950 := m0 hbox; have GW1950 := m0 (bg (n := w.heap.size) hg); have GE1950 := m0 (bg (n := w.heap.size) hg); replace HB := sb HB hb; have NB1943_1950 := nl BK1943 hg; have NB1950_1943 := ng (nl BK1943 hg); replace BK1943 := bb BK1943 hb; clear hb hbox hg; have hnb44 := NB1950_1943.out; have hnc44 := NB1943_1950.out; obtain ⟨_, _, _, _⟩ := b2 BK1950))
        go_roundg k1
        case measure => have := HK1.out; omega
        case rel => exact ⟨(0), (wrap64 (x8_1 + 1)), (by first | rfl | (simp; done) | (simp [*]; done)), (by first | rfl | (simp; done) | (simp [*]; done)), H', ⟨by have := HK1.out; omega⟩, ⟨bq BK1943.out⟩, ⟨bz⟩⟩
       ·rw [if_neg c40] at H
        have c40b0 := decide_eq_false c40
        clear c40
        have H' := m0 H
        clear H
        obtain ⟨_, _⟩ := b1 BK1943
        go_wp2_with (first | ((with_reducible refine gate_callee (f := 86) rfl ?_); refine gl (some 29) Tryd.func86 #[.agg #[.slice A0_0 l0_0.length c0_0], .int .i64 a1, .int .i64 0] ?_; (with_reducible refine (Rf_FalseRate.calls k1 _ _ l0_0 a1 0 t1948 t1949 _ ?side1 ?side2 A32.out).mono ?_); (case side1 => exact cb HR0_0 HB); (case side2 => exact HC0_0.out); rintro e w47 ⟨rfl, hb⟩; refine ⟨_, rfl, ?_⟩; replace BK1943 := bb BK1943 hb; replace HB := sb HB hb; (try clear hb)) | ((with_reducible refine gate_dst (N := 10) rfl ?_); refine be 10 26 #[.int .i64 0, .int .i64 0] ?_; intro gb1950 hg w48 hbox hb; have BK1950 := m0 hbox; have GW1950 := m0 (bg (n := w.heap.size) hg); have GE1950 := m0 (bg (n := w.heap.size) hg); replace HB := sb HB hb; have NB1943_1950 := nl BK1943 hg; have NB1950_1943 := ng (nl BK1943 hg); replace BK1943 := bb BK1943 hb; clear hb hbox hg; have hnb49 := NB1950_1943.out; have hnc49 := NB1943_1950.out; obtain ⟨_, _, _, _⟩ := b2 BK1950))
        go_roundg k1
        case measure => have := HK1.out; omega
        case rel => exact ⟨(x7_1), (wrap64 (x8_1 + 1)), (by first | rfl | (simp; done) | (simp [*]; done)), (by first | rfl | (simp; done) | (simp [*]; done)), H', ⟨by have := HK1.out; omega⟩, ⟨bq BK1943.out⟩, ⟨bz⟩⟩
     ·rw [if_neg c33] at H
      have c33b0 := decide_eq_false c33
      clear c33
      have H' := m0 H
      clear H
      obtain ⟨_, _⟩ := b1 BK1943
      go_wp2_with (first | ((with_reducible refine gate_callee (f := 86) rfl ?_); refine gl (some 29) Tryd.func86 #[.agg #[.slice A0_0 l0_0.length c0_0], .int .i64 a1, .int .i64 0] ?_; (with_reducible refine (Rf_FalseRate.calls k1 _ _ l0_0 a1 0 t1948 t1949 _ ?side1 ?side2 A32.out).mono ?_); (case side1 => exact cb HR0_0 HB); (case side2 => exact HC0_0.out); rintro e w52 ⟨rfl, hb⟩; refine ⟨_, rfl, ?_⟩; replace BK1943 := bb BK1943 hb; replace HB := sb HB hb; (try clear hb)) | ((with_reducible refine gate_dst (N := 10) rfl ?_); refine be 10 26 #[.int .i64 0, .int .i64 0] ?_; intro gb1950 hg w53 hbox hb; have BK1950 := m0 hbox; have GW1950 := m0 (bg (n := w.heap.size) hg); have GE1950 := m0 (bg (n := w.heap.size) hg); replace HB := sb HB hb; have NB1943_1950 := nl BK1943 hg; have NB1950_1943 := ng (nl BK1943 hg); replace BK1943 := bb BK1943 hb; clear hb hbox hg; have hnb54 := NB1950_1943.out; have hnc54 := NB1943_1950.out; obtain ⟨_, _, _, _⟩ := b2 BK1950))
      go_roundg k1
      case measure => have := HK1.out; omega
      case rel => exact ⟨(x7_1), (wrap64 (x8_1 + 1)), (by first | rfl | (simp; done) | (simp [*]; done)), (by first | rfl | (simp; done) | (simp [*]; done)), H', ⟨by have := HK1.out; omega⟩, ⟨bq BK1943.out⟩, ⟨bz⟩⟩
   ·rw [if_neg c5] at H
    have c5b0 := decide_eq_false c5
    clear c5
    obtain rfl := Option.some.inj H
    obtain ⟨_, _⟩ := b1 BK1943
    go_wp2
    go_ret
    exact ez
end Go.Proofs.YtjnkphmcndaijaaDoor.A
