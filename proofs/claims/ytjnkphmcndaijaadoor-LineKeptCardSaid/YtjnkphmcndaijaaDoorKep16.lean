/- Walks of the program's functions (printed, made shorter), each with what it computes. -/
import Derived.Sort.OwnSortedInts
import Derived.Test.YtjnkphmcndaijaaDoorKep04
import Derived.Test.YtjnkphmcndaijaaDoorKep15
import Derived.Test.YtjnkphmcndaijaaDoorKep03
import Derived.Test.YtjnkphmcndaijaaDoorKep06
import Derived.Test.YtjnkphmcndaijaaDoorKep13
namespace Go.Proofs.YtjnkphmcndaijaaDoor.A
set_option maxHeartbeats 8000000
set_option maxRecDepth 100000
open Go.RowKit Go.Proofs.YtjnkphmcndaijaaDoorW.PrintWords Go.Proofs.YtjnkphmcndaijaaDoorW.PrintLast Go.Proofs.YtjnkphmcndaijaaDoorW.PrintMore
attribute [local go_sem] max2_int min2_int max_two min_two max_three min_three max_four min_four
set_option linter.unusedVariables false
set_option linter.unusedSimpArgs false
section
def slices_Sort_int_int.f (l0 : List Int) : Option (List Int) := if l0.length < 4611686018427387904 then some (l0.mergeSort fun x y => decide (x ≤ y)) else none
theorem slices_Sort_int_int.calls (P0_ : Nat → Prop) (u9000_ : Value) (l0 : List Int) (r : List Int) (w0 w : World) (hB : Below w0.heap.size w0 w) (ho0 : Kd.R (Kd.int .i64) 3 w w0.heap.size P0_ u9000_ l0) (h : slices_Sort_int_int.f l0 = some r) :
  Calls Tryd.prog 130 #[u9000_] w fun e w' => e = .returned (.tuple #[]) ∧ Kd.R (Kd.int .i64) 3 w' w0.heap.size (fun k_ => (P0_ k_ ∨ w.heap.size ≤ k_)) u9000_ r ∧ Below w0.heap.size w0 w' ∧ Kept w w' (fun k_ => P0_ k_) := by
 unfold slices_Sort_int_int.f at h
 by_cases hsz : l0.length < 4611686018427387904
 case neg => simp [hsz] at h
 rw [if_pos hsz] at h
 obtain rfl : (l0.mergeSort fun x y => decide (x ≤ y)) = r := Option.some.inj h
 have hok := ho0.1
 have ho := Kd.own_of_R ho0
 have hl : (l0.mergeSort fun x y => decide (x ≤ y)).length = l0.length := List.length_mergeSort _
 obtain ⟨hi, ⟨rfl, h0⟩ | ⟨g, cap, cur, rfl, hbase, hb, h1, h2, h3, h4⟩⟩ := ho
 ·obtain rfl : l0 = [] := List.length_eq_zero_iff.1 h0
  refine (Any.slices_Sort_int_none Tryd.lays189 none 0 w).mono ?_
  rintro e w' ⟨rfl, rfl⟩
  exact ⟨rfl, by rw [List.mergeSort_nil]; exact Kd.R_nil _ _ _ _ _, hB, Kept.refl _ _⟩
 ·have hg : g < w.heap.size := (Array.getElem?_eq_some_iff.1 hb).1
  have h4' : cur.toList.take l0.length = l0.map (Value.int .i64) := by simpa [encs] using h4
  refine (Any.slices_Sort_int Tryd.lays189 g 0 cap l0 w (holds_of_blockI hb h4') hg hsz).mono ?_
  rintro e w' ⟨rfl, n, os, rfl⟩
  have hgb := grownBy_sortedI (w := w) (g := g) (n := n) (os := os) (l0.mergeSort fun x y => decide (x ≤ y)).toArray
  refine ⟨rfl, ?_, ?_, Kept.of_grown hgb (Kept.refl _ _) (fun k hk => .inl (hok k (by rw [← hk]; rfl)))⟩
  ·have hown := ownsRow_sortedI (n := n) (os := os) (ts := l0.mergeSort fun x y => decide (x ≤ y)) hl hbase hb h1 h2 h3
   refine Kd.R_of_own (enc := Value.int .i64) ?_ (fun k hk => .inl (hok k hk))
   rw [hl]
   simpa [encs] using hown
  ·exact ⟨hB.os, hB.tape, hB.output, Nat.le_trans hB.size hgb.size, fun k hk => (hgb.block k (Nat.lt_of_lt_of_le hk hB.size) (fun e => by cases e; omega)).trans (hB.block k hk)⟩
end
section
mutual
def line_ThresholdFor.l0 : Nat → Int → List Int → List Int → List Int → Int → Int → List Int → Option (Int × Int)
  | 0, _, _, _, _, _, _, _ => none
  | k + 1, x2, x8, x10, x33, x34, x35, x1911000 => if x35 < x34 then (if 0 ≤ x35 then (if x35 < (x33.length : Int) then (if x10.length < 17592186044416 then (line_ThresholdFor.l0 k x2 x8 (x10 ++ [wrap64 ((rd x33 x35) + 1)]) x33 x34 (wrap64 (x35 + 1)) x1911000) else (none)) else (none)) else (none)) else ((slices_Sort_int_int.f x10).bind fun t1928 => (line_ThresholdFor.l1 k x2 x8 t1928 (x10.length : Int) 0 x1911000))
def line_ThresholdFor.l1 : Nat → Int → List Int → List Int → Int → Int → List Int → Option (Int × Int)
  | 0, _, _, _, _, _, _ => none
  | k + 1, x2, x8, x47, x48, x49, x1911000 => if x49 < x48 then (if 0 ≤ x49 then (if x49 < (x47.length : Int) then ((line_rate.f k x8 x1911000 (rd x47 x49)).bind fun bt1930 => (if (wrap64 (1000 * bt1930.1)) ≤ (wrap64 (x2 * bt1930.2)) then (some (rd x47 x49, 0)) else (line_ThresholdFor.l1 k x2 x8 x47 x48 (wrap64 (x49 + 1)) x1911000))) else (none)) else (none)) else (some (0, 12))
end
def line_ThresholdFor.f (k : Nat) (l0_0 : List Int) (a1 : Int) (a2 : Int) : Option (Int × Int) := (line_openNoise.f k l0_0 a1).bind fun bt1911 => ((line_within.f a2 0 1000).bind fun t1915 => ((line_unless.f t1915 2).bind fun t1916 => ((line_first.f k (([bt1911.2, t1916] : List Int))).bind fun t1920 => (if t1920 = 0 then (line_ThresholdFor.l0 k a2 bt1911.1 (([0] : List Int)) l0_0 (l0_0.length : Int) 0 l0_0) else (some (0, t1920))))))
theorem line_ThresholdFor.mono_l : ∀ k, (∀ y0 y1 y2 y3 y4 y5 y6, LeO (line_ThresholdFor.l0 k y0 y1 y2 y3 y4 y5 y6) (line_ThresholdFor.l0 (k + 1) y0 y1 y2 y3 y4 y5 y6)) ∧ (∀ y0 y1 y2 y3 y4 y5, LeO (line_ThresholdFor.l1 k y0 y1 y2 y3 y4 y5) (line_ThresholdFor.l1 (k + 1) y0 y1 y2 y3 y4 y5))
  | 0 => ⟨fun _ _ _ _ _ _ _ r h => by simp [line_ThresholdFor.l0] at h, fun _ _ _ _ _ _ r h => by simp [line_ThresholdFor.l1] at h⟩
  | k + 1 => by
    obtain ⟨ih0, ih1⟩ := line_ThresholdFor.mono_l k
    refine ⟨?_, ?_⟩
    · intro y0 y1 y2 y3 y4 y5 y6
      unfold line_ThresholdFor.l0
      repeat' first
      | (with_reducible exact ih0 _ _ _ _ _ _ _)
      | (with_reducible exact ih1 _ _ _ _ _ _)
      | (with_reducible exact line_first.mono _ _)
      | (with_reducible exact line_openNoise.mono _ _ _)
      | (with_reducible exact line_rate.mono _ _ _ _)
      | (with_reducible exact LeO.refl _)
      | (with_reducible exact LeO.none _)
      | (with_reducible refine LeO.ite ?_ ?_)
      | (with_reducible refine LeO.bind ?_ (fun _ => ?_))
      | exact ih0 _ _ _ _ _ _ _
      | exact ih1 _ _ _ _ _ _
      | exact line_first.mono _ _
      | exact line_openNoise.mono _ _ _
      | exact line_rate.mono _ _ _ _
      | exact LeO.none _
      | refine LeO.ite ?_ ?_
      | refine LeO.bind ?_ (fun _ => ?_)
    · intro y0 y1 y2 y3 y4 y5
      unfold line_ThresholdFor.l1
      repeat' first
      | (with_reducible exact ih0 _ _ _ _ _ _ _)
      | (with_reducible exact ih1 _ _ _ _ _ _)
      | (with_reducible exact line_first.mono _ _)
      | (with_reducible exact line_openNoise.mono _ _ _)
      | (with_reducible exact line_rate.mono _ _ _ _)
      | (with_reducible exact LeO.refl _)
      | (with_reducible exact LeO.none _)
      | (with_reducible refine LeO.ite ?_ ?_)
      | (with_reducible refine LeO.bind ?_ (fun _ => ?_))
      | exact ih0 _ _ _ _ _ _ _
      | exact ih1 _ _ _ _ _ _
      | exact line_first.mono _ _
      | exact line_openNoise.mono _ _ _
      | exact line_rate.mono _ _ _ _
      | exact LeO.none _
      | refine LeO.ite ?_ ?_
      | refine LeO.bind ?_ (fun _ => ?_)
theorem line_ThresholdFor.mono : ∀ a0 a1 a2 k, LeO (line_ThresholdFor.f k a0 a1 a2) (line_ThresholdFor.f (k + 1) a0 a1 a2) := by
  intro a0 a1 a2 k
  obtain ⟨ih0, ih1⟩ := line_ThresholdFor.mono_l k
  unfold line_ThresholdFor.f
  repeat' first
      | (with_reducible exact ih0 _ _ _ _ _ _ _)
      | (with_reducible exact ih1 _ _ _ _ _ _)
      | (with_reducible exact line_first.mono _ _)
      | (with_reducible exact line_openNoise.mono _ _ _)
      | (with_reducible exact line_rate.mono _ _ _ _)
      | (with_reducible exact LeO.refl _)
      | (with_reducible exact LeO.none _)
      | (with_reducible refine LeO.ite ?_ ?_)
      | (with_reducible refine LeO.bind ?_ (fun _ => ?_))
      | exact ih0 _ _ _ _ _ _ _
      | exact ih1 _ _ _ _ _ _
      | exact line_first.mono _ _
      | exact line_openNoise.mono _ _ _
      | exact line_rate.mono _ _ _ _
      | exact LeO.none _
      | refine LeO.ite ?_ ?_
      | refine LeO.bind ?_ (fun _ => ?_)
theorem line_ThresholdFor.calls (k : Nat) (A0_0 : Option Addr) (c0_0 : Nat) (l0_0 : List Int) (a1 : Int) (a2 : Int) (r1 : Int) (r2 : Int) (w : World) (hr0_0 : Kd.C (Kd.int .i64) w A0_0 l0_0.length l0_0) (hc0_0 : l0_0.length ≤ c0_0) (h : line_ThresholdFor.f k l0_0 a1 a2 = some (r1, r2)) :
    Calls Tryd.prog 84 #[.agg #[.slice A0_0 l0_0.length c0_0], .int .i64 a1, .int .i64 a2] w fun e w' => e = .returned (.tuple #[.int .i64 r1, .int .i64 r2]) ∧ Below w.heap.size w w' := by
  have hu24 := Tryd.underlying24
  have hu26 := Tryd.underlying26
  have HR0_0 := m0 hr0_0
  have HC0_0 := m0 hc0_0
  clear hr0_0 hc0_0
  have HB := m0 (Below.refl w.heap.size w)
  have H : ((line_openNoise.f k l0_0 a1).bind fun bt1911 => ((line_within.f a2 0 1000).bind fun t1915 => ((line_unless.f t1915 2).bind fun t1916 => ((line_first.f k (([bt1911.2, t1916] : List Int))).bind fun t1920 => (if t1920 = 0 then (line_ThresholdFor.l0 k a2 bt1911.1 (([0] : List Int)) l0_0 (l0_0.length : Int) 0 l0_0) else (some (0, t1920))))))) = some (r1, r2) := h
  clear h
  replace H := ob H
  obtain ⟨⟨t1911, t1914⟩, A40, H⟩ := H
  (try dsimp only at H)
  have A4 := m0 A40
  clear A40
  replace H := ob H
  obtain ⟨t1915, A50, H⟩ := H
  (try dsimp only at H)
  have A5 := m0 A50
  clear A50
  replace H := ob H
  obtain ⟨t1916, A60, H⟩ := H
  (try dsimp only at H)
  have A6 := m0 A60
  clear A60
  obtain ⟨y1917, hy1917⟩ : ∃ y_ : List Int, y_ = (([t1914, t1916] : List Int)) := ⟨_, rfl⟩
  replace H : ((line_first.f k y1917).bind fun t1920 => (if t1920 = 0 then (line_ThresholdFor.l0 k a2 t1911 (([0] : List Int)) l0_0 (l0_0.length : Int) 0 l0_0) else (some (0, t1920)))) = some (r1, r2) := by first | (rw [hy1917]; with_reducible exact H) | (have H2_ := (Option.bind_some _ _).symm.trans H; rw [hy1917]; with_reducible exact H2_) | (have H2_ := (Option.bind_some _ _).symm.trans H; with_reducible exact H2_) | with_reducible exact H | (rw [hy1917]; exact H) | exact H
  have Ny1917 := m0 hy1917
  clear hy1917
  replace H := ob H
  obtain ⟨t1920, A70, H⟩ := H
  (try dsimp only at H)
  have A7 := m0 A70
  clear A70
  by_cases c8 : t1920 = 0
  · rw [if_pos c8] at H
    have c8b0 := beq_iff_eq.mpr c8
    have c8b1 := bne_eq_false_iff_eq.mpr c8
    clear c8
    obtain ⟨y1921, hy1921⟩ : ∃ y_ : List Int, y_ = (([0] : List Int)) := ⟨_, rfl⟩
    replace H : (line_ThresholdFor.l0 k a2 t1911 y1921 l0_0 (l0_0.length : Int) 0 l0_0) = some (r1, r2) := by first | (rw [hy1921]; with_reducible exact H) | (have H2_ := (Option.bind_some _ _).symm.trans H; rw [hy1921]; with_reducible exact H2_) | (have H2_ := (Option.bind_some _ _).symm.trans H; with_reducible exact H2_) | with_reducible exact H | (rw [hy1921]; exact H) | exact H
    have Ny1921 := m0 hy1921
    clear hy1921
    have H' := m0 H
    clear H
    go_enter Tryd.func84, Tryd.ntmps84
    go_wp2_with (first | ((with_reducible refine gate_dst (N := 3) rfl ?_); refine be 3 24 #[.slice A0_0 l0_0.length c0_0] ?_; intro gb1910 hg w9 hbox hb; have BK1910 := m0 hbox; have GW1910 := m0 (bg (n := w.heap.size) hg); have GE1910 := m0 (bg (n := w.heap.size) hg); replace HB := sb HB hb; clear hb hbox hg; obtain ⟨hcz10_0, hfz10_0⟩ := b1 BK1910) | ((with_reducible refine gate_callee (f := 129) rfl ?_); refine gl (some 19) Tryd.func129 #[.agg #[.slice A0_0 l0_0.length c0_0], .int .i64 a1] ?_; (with_reducible refine (line_openNoise.calls k _ _ l0_0 a1 t1911 t1914 _ ?side1 ?side2 A4.out).mono ?_); (case side1 => exact cb HR0_0 HB); (case side2 => exact HC0_0.out); rintro e w11 ⟨v1912, rfl, ho0, hb⟩; refine ⟨_, rfl, ?_⟩; have HO1913 := m0 (Kd.R_lower ho0 (below_size bz)); replace BK1910 := bb BK1910 hb; replace HB := sb HB hb; (try clear hb); (try clear ho0)) | ((with_reducible refine gate_callee (f := 105) rfl ?_); refine gl (some 24) Tryd.func105 #[.int .i64 a2, .int .i64 0, .int .i64 1000] ?_; (with_reducible refine (line_within.calls a2 0 1000 t1915 _ A5.out).mono ?_); rintro e w' ⟨rfl, ⟨nd, rfl⟩⟩; refine ⟨_, rfl, ?_⟩) | ((with_reducible refine gate_callee (f := 93) rfl ?_); refine gl (some 25) Tryd.func93 #[.bool t1915, .int .i64 2] ?_; (with_reducible refine (line_unless.calls t1915 2 t1916 _ A6.out).mono ?_); rintro e w' ⟨rfl, ⟨nd, rfl⟩⟩; refine ⟨_, rfl, ?_⟩) | ((with_reducible refine gate_dst (N := 26) rfl ?_); refine Kd.R_lit (Kd.int .i64) _ 31 ?hg (N := 26) ?hd (xs := ([t1914, t1916] : List Int)) (inner := [.int .i64 t1914, .int .i64 t1916]) (ok := fun _ => True) (okp := fun _ => True) ?hr ?hp (fun _ hk => hk) trivial (Below.refl _ _) (Nat.le_refl _) (by simp) ?_; (case hd => rfl); (case hg => rfl); (case hr => first | (go_simp; done) | (go_simp; rfl)); (case hp => exact (Reps.one (show Kd.M (Kd.int .i64) _ _ _ t1914 [.int .i64 t1914] from rfl) (Reps.one (show Kd.M (Kd.int .i64) _ _ _ t1916 [.int .i64 t1916] from rfl) (Reps.none _ _)))); intro v1918 w12 ho13 hb hg_ hnew_; clear hg_ hnew_; (first | rw [← Ny1917.out] at ho13 | (simp only [Int.reduceToNat] at ho13; rw [← Ny1917.out] at ho13)); replace HO1913 := rb HO1913 hb; have HO1919 := m0 (Kd.R_lower ho13 (below_size bz)); replace BK1910 := bb BK1910 hb; replace HB := sb HB hb; clear hb ho13; obtain ⟨Ao14, co14, eo14⟩ := Kd.R_slice HO1919.out; subst eo14) | ((with_reducible refine gate_callee (f := 91) rfl ?_); refine gl (some 27) Tryd.func91 #[.slice Ao14 y1917.length co14] ?_; (with_reducible refine (line_first.calls k _ _ y1917 t1920 _ ?side1 ?side2 A7.out).mono ?_); (case side1 => exact bc (Kd.R_reads' HO1919.out).2.2); (case side2 => exact (Kd.R_reads' HO1919.out).2.1); rintro e w' ⟨rfl, ⟨nd, rfl⟩⟩; refine ⟨_, rfl, ?_⟩) | ((with_reducible refine gate_dst (N := 31) rfl ?_); refine Kd.R_lit (Kd.int .i64) _ 3 ?hg (N := 31) ?hd (xs := ([0] : List Int)) (inner := [.int .i64 0]) (ok := fun _ => True) (okp := fun _ => True) ?hr ?hp (fun _ hk => hk) trivial (Below.refl _ _) (Nat.le_refl _) (by simp) ?_; (case hd => rfl); (case hg => rfl); (case hr => first | (go_simp; done) | (go_simp; rfl)); (case hp => exact (Reps.one (show Kd.M (Kd.int .i64) _ _ _ 0 [.int .i64 0] from rfl) (Reps.none _ _))); intro v1922 w15 ho16 hb hg_ hnew_; clear hg_ hnew_; (first | rw [← Ny1921.out] at ho16 | (simp only [Int.reduceToNat] at ho16; rw [← Ny1921.out] at ho16)); replace HO1919 := rb HO1919 hb; have HO1923 := m0 (Kd.R_lower (Kd.R_new' ho16 (Kd.R_lt (br HO1913.out))) (below_size bz)); replace HO1913 := m0 (Kd.R_elder' (br HO1913.out) (Kd.R_base ho16) hb); replace BK1910 := bb BK1910 hb; replace HB := sb HB hb; clear hb ho16; obtain ⟨hcz17_0, hfz17_0⟩ := b1 BK1910))
    go_loopg [10, 35] k (fun kq v10 v35 w' => ∃ (x10_1 : List Int) (x35_1 : Int), v35 = .int .i64 x35_1 ∧ Aside0 (line_ThresholdFor.l0 kq a2 t1911 x10_1 l0_0 (l0_0.length : Int) x35_1 l0_0 = some (r1, r2)) ∧ Aside0 (kq ≤ k) ∧ Aside0 (Kd.R (Kd.int .i64) 3 w' w.heap.size (fun k_ => some k_ ≠ (v10 : Value).ownBlock) v1912 t1911) ∧ Aside0 (Kd.R (Kd.int .i64) 3 w' w.heap.size (fun k_ => some k_ ≠ (v1912 : Value).ownBlock) v10 x10_1) ∧ Aside0 (w'.heap[gb1910]? = some (.cells #[(.slice A0_0 l0_0.length c0_0)] 24 (0, 0))) ∧ Aside0 (Below w.heap.size w w'))
    case atStart => exact ⟨(y1921), (0), (by first | rfl | (simp; done) | (simp [*]; done)), H', ⟨Nat.le_refl _⟩, ⟨by (with_reducible repeat (first | apply Kd.R_alloc | apply Kd.R_drewN | apply Kd.R_drew)); exact Kd.R_mono HO1913.out (fun _ hk => hk.2)⟩, ⟨by (with_reducible repeat (first | apply Kd.R_alloc | apply Kd.R_drewN | apply Kd.R_drew)); exact Kd.R_mono HO1923.out (fun _ hk => hk.2)⟩, ⟨bk BK1910.out⟩, ⟨bz⟩⟩
    case round =>
      clear H'
      try clear c1
      try clear p2
      try clear c8
      try clear c8b0
      try clear c8b1
      try clear c9
      try clear c10
      try clear c12
      try clear hcz10_0
      try clear hcz17_0
      try clear hfz10_0
      try clear hfz17_0
      obtain ⟨x10_1, x35_1, rfl, HA, HK1, HO_8, HO_10, BK1910, HB⟩ := hrel
      cases gk with
      | zero => exact absurd HA.out (by simp [line_ThresholdFor.l0])
      | succ k1 =>
        have H := HA.out
        clear HA
        simp only [line_ThresholdFor.l0] at H
        by_cases c18 : x35_1 < (l0_0.length : Int)
        · rw [if_pos c18] at H
          have c18b0 := decide_eq_true c18
          clear c18
          by_cases c19 : 0 ≤ x35_1
          · rw [if_pos c19] at H
            have c19b0 := decide_eq_true c19
            clear c19
            by_cases c20 : x35_1 < (l0_0.length : Int)
            · rw [if_pos c20] at H
              have c20b0 := decide_eq_true c20
              clear c20
              by_cases c21 : x10_1.length < 17592186044416
              · rw [if_pos c21] at H
                have LMc21 := m0 c21
                clear c21
                obtain ⟨y1925, hy1925⟩ : ∃ y_ : List Int, y_ = (x10_1 ++ [wrap64 ((rd l0_0 x35_1) + 1)]) := ⟨_, rfl⟩
                replace H : (line_ThresholdFor.l0 k1 a2 t1911 y1925 l0_0 (l0_0.length : Int) (wrap64 (x35_1 + 1)) l0_0) = some (r1, r2) := by first | (rw [hy1925]; with_reducible exact H) | (have H2_ := (Option.bind_some _ _).symm.trans H; rw [hy1925]; with_reducible exact H2_) | (have H2_ := (Option.bind_some _ _).symm.trans H; with_reducible exact H2_) | with_reducible exact H | (rw [hy1925]; exact H) | exact H
                have Ny1925 := m0 hy1925
                clear hy1925
                have H' := m0 H
                clear H
                have p1924 : 0 ≤ (x35_1 : Int) := of_decide_eq_true (by first | (with_reducible assumption) | assumption)
                have q1924 : x35_1 < (l0_0.length : Int) := of_decide_eq_true (by first | (with_reducible assumption) | assumption)
                obtain ⟨ad1924, e1924, hx1924_0⟩ := Kd.at_int HR0_0.out x35_1 p1924 q1924
                cases e1924
                replace hx1924_0 := (HB.out.cell (World.block_lt_of_cell? w _ hx1924_0)).trans hx1924_0
                replace p1924 := eq_true p1924
                replace q1924 := eq_true q1924
                go_wp2_with (first | ((with_reducible refine gate_builtin (b := .append) (xs := #[.tmp 39, .tmp 42]) rfl ?_); at_builtin; refine Kd.R_append (Kd.int .i64) (w0 := w) w.heap.size rfl (.tmp 39) (.tmp 42) 22 3 (.int .i64 0) 8 rfl Tryd.underlying22 info3 rfl (by decide) (by omega) u10 x10_1 (wrap64 ((rd l0_0 x35_1) + 1)) [.int .i64 (wrap64 ((rd l0_0 x35_1) + 1))] (fun k_ => some k_ ≠ (v1912 : Value).ownBlock) (fun _ => False) rfl rfl ?aP (fun _ hk => hk.elim) ?aF ?aO ?aB ?aS ?aL ?_; (case aP => exact rfl); (case aB => exact bz); (case aF => exact (fun k_ hk => Kd.fresh' (Kd.R_lt (br HO_8.out)) k_ hk)); (case aO => exact (br HO_10.out)); (case aS => exact (below_size bz)); (case aL => have := LMc21.out; omega); intro v1926 w22 ho hb hg hat; rw [← Ny1925.out] at ho; have n0_ := m0 (Kd.R_after (ok := (fun _ => True)) (by (with_reducible repeat (first | apply Kd.R_alloc | apply Kd.R_drewN | apply Kd.R_drew)); exact Kd.R_mono HO_8.out (fun _ hk => ⟨trivial, hk⟩)) hg hat); have n1_ := m0 (blk_grown (g := gb1910) (o := .cells #[.slice (some ad1924) l0_0.length c0_0] 24 (0, 0)) (bk BK1910.out) hg (Kd.R_ne HO_10.out BK1910.out (by decide))); have n2_ := m0 (hb); have n3_ := m0 (ho); clear HO_8; clear BK1910; clear HB; clear HO_10; have HO_8 := n0_; have BK1910 := n1_; have HB := n2_; have HO1927 := n3_; clear n0_ n1_ n2_ n3_; clear ho hb hg hat))
                go_roundg k1
                case measure => have := HK1.out; omega
                case rel => exact ⟨(y1925), (wrap64 (x35_1 + 1)), (by first | rfl | (simp; done) | (simp [*]; done)), H', ⟨by have := HK1.out; omega⟩, ⟨by (with_reducible repeat (first | apply Kd.R_alloc | apply Kd.R_drewN | apply Kd.R_drew)); exact Kd.R_mono HO_8.out (fun _ hk => hk.2)⟩, ⟨br HO1927.out⟩, ⟨bk BK1910.out⟩, ⟨bz⟩⟩
              · rw [if_neg c21] at H
                exact absurd H (by simp)
            · rw [if_neg c20] at H
              exact absurd H (by simp)
          · rw [if_neg c19] at H
            exact absurd H (by simp)
        · rw [if_neg c18] at H
          have c18b0 := decide_eq_false c18
          clear c18
          replace H := ob H
          obtain ⟨t1928, A230, H⟩ := H
          (try dsimp only at H)
          have A23 := m0 A230
          clear A230
          have H' := m0 H
          clear H
          obtain ⟨Ao24, co24, eo24⟩ := Kd.R_slice HO_10.out
          subst eo24
          go_wp2_with (first | ((with_reducible refine gate_callee (f := 130) rfl ?_); refine gl (some 46) Tryd.func130 #[.slice Ao24 x10_1.length co24] ?_; (with_reducible refine (slices_Sort_int_int.calls (fun k_ => some k_ = (.slice Ao24 x10_1.length co24 : Value).ownBlock) (.slice Ao24 x10_1.length co24) x10_1 t1928 w _ ?side1 ?side2 A23.out).mono ?_); (case side1 => repeat (first | (with_reducible first | exact HB.out | apply below_alloc | apply pw_below_drewN | apply below_drew1 | refine below_set ?_ GE1910.out) | exact HB.out)); (case side2 => exact Kd.R_tight rfl HO_10.out); rintro e w25 ⟨rfl, hy0, hb, hkp⟩; refine ⟨_, rfl, ?_⟩; replace HO_8 := m0 (Kd.R_mono (ok' := fun k_ => some k_ ≠ (.slice Ao24 x10_1.length co24 : Value).ownBlock) (Kd.R_keptB (HO_8.out) hkp (fun k_ hk_ hs_ => (hk_) hs_)) (fun k_ hk_ => hk_.1)); replace BK1910 := m0 (blk_kept (bk BK1910.out) hkp (fun hs_ => (fun e_ => (Kd.R_ne HO_10.out BK1910.out (by decide)) e_) hs_)); replace HO_10 := m0 (Kd.R_reok rfl hy0 (fun k_ e_ => HO_10.out.1 k_ e_)); replace HB := m0 (hb); (try clear hb); (try clear hkp); (try clear hy0)))
          go_loopg [49] k1 (fun kq v49 w' => ∃ (x49_2 : Int), v49 = .int .i64 x49_2 ∧ Aside0 (line_ThresholdFor.l1 kq a2 t1911 t1928 (x10_1.length : Int) x49_2 l0_0 = some (r1, r2)) ∧ Aside0 (kq ≤ k1) ∧ Aside0 (Kd.R (Kd.int .i64) 3 w' w.heap.size (fun k_ => some k_ ≠ ((.slice Ao24 x10_1.length co24) : Value).ownBlock) v1912 t1911) ∧ Aside0 (Kd.R (Kd.int .i64) 3 w' w.heap.size (fun k_ => some k_ ≠ (v1912 : Value).ownBlock) (.slice Ao24 x10_1.length co24) t1928) ∧ Aside0 (w'.heap[gb1910]? = some (.cells #[(.slice A0_0 l0_0.length c0_0)] 24 (0, 0))) ∧ Aside0 (Below w.heap.size w w'))
          case atStart => exact ⟨(0), (by first | rfl | (simp; done) | (simp [*]; done)), H', ⟨Nat.le_refl _⟩, ⟨br HO_8.out⟩, ⟨br HO_10.out⟩, ⟨bk BK1910.out⟩, ⟨bz⟩⟩
          case round =>
            clear H'
            try clear c1
            try clear p1
            try clear q1
            try clear hx1
            try clear c2
            try clear p2
            try clear p6
            try clear c8
            try clear c8b0
            try clear c8b1
            try clear c9
            try clear c10
            try clear c12
            try clear c13
            try clear c18
            try clear c18b0
            try clear c19
            try clear c19b0
            try clear p19
            try clear q19
            try clear hx19
            try clear c20
            try clear c20b0
            try clear c21
            try clear hcz10_0
            try clear hcz17_0
            try clear hfz10_0
            try clear hfz17_0
            try clear hx1924_0
            try clear p1924
            try clear p2
            try clear q1924
            obtain ⟨x49_2, rfl, HA, HK2, HO_8, HO_47, BK1910, HB⟩ := hrel
            have hl47_2 := (Kd.R_reads' HO_47.out).1
            rw [hl47_2] at HO_47
            (try simp only [hl47_2])
            (try simp only [hl47_2] at BK1910)
            (try simp only [hl47_2] at HO_8)
            cases gk with
            | zero => exact absurd HA.out (by simp [line_ThresholdFor.l1])
            | succ k2 =>
              have H := HA.out
              clear HA
              simp only [line_ThresholdFor.l1] at H
              by_cases c26 : x49_2 < (x10_1.length : Int)
              · rw [if_pos c26] at H
                have c26b0 := decide_eq_true c26
                clear c26
                by_cases c27 : 0 ≤ x49_2
                · rw [if_pos c27] at H
                  have c27b0 := decide_eq_true c27
                  clear c27
                  by_cases c28 : x49_2 < (t1928.length : Int)
                  · rw [if_pos c28] at H
                    have c28b0 := decide_eq_true c28
                    clear c28
                    replace H := ob H
                    obtain ⟨⟨t1930, t1931⟩, A290, H⟩ := H
                    (try dsimp only at H)
                    have A29 := m0 A290
                    clear A290
                    by_cases c30 : (wrap64 (1000 * t1930)) ≤ (wrap64 (a2 * t1931))
                    · rw [if_pos c30] at H
                      have c30b0 := decide_eq_true c30
                      clear c30
                      simp only [Option.some.injEq, Prod.mk.injEq] at H
                      obtain ⟨rfl, rfl⟩ := H
                      have p1929 : 0 ≤ (x49_2 : Int) := of_decide_eq_true (by first | (with_reducible assumption) | assumption)
                      have q1929 : x49_2 < (t1928.length : Int) := of_decide_eq_true (by first | (with_reducible assumption) | assumption)
                      obtain ⟨ad1929, e1929, hx1929_0⟩ := Kd.at_int (Kd.R_reads' HO_47.out).2.2 x49_2 p1929 q1929
                      cases e1929
                      replace p1929 := eq_true p1929
                      replace q1929 := eq_true q1929
                      obtain ⟨_, _⟩ := b1 BK1910
                      obtain ⟨Ao32, co32, eo32⟩ := Kd.R_slice HO_8.out
                      subst eo32
                      go_wp2_with (first | ((with_reducible refine gate_callee (f := 101) rfl ?_); refine gl (some 56) Tryd.func101 #[.slice Ao32 t1911.length co32, .agg #[.slice A0_0 l0_0.length c0_0], .int .i64 (rd t1928 x49_2)] ?_; (with_reducible refine (line_rate.calls k2 _ _ t1911 _ _ l0_0 (rd t1928 x49_2) t1930 t1931 _ ?side1 ?side2 ?side3 ?side4 A29.out).mono ?_); (case side1 => exact bc (Kd.R_reads' HO_8.out).2.2); (case side2 => exact (Kd.R_reads' HO_8.out).2.1); (case side3 => exact cb HR0_0 HB); (case side4 => exact HC0_0.out); rintro e w33 ⟨rfl, hb⟩; refine ⟨_, rfl, ?_⟩; replace HO_8 := rb HO_8 hb; replace HO_47 := rb HO_47 hb; replace BK1910 := bb BK1910 hb; replace HB := sb HB hb; (try clear hb)) | ((with_reducible refine gate_dst (N := 15) rfl ?_); refine be 15 26 #[.int .i64 0, .int .i64 0] ?_; intro gb1932 hg w34 hbox hb; replace HO_8 := rb HO_8 hb; replace HO_47 := rb HO_47 hb; have BK1932 := m0 hbox; have GW1932 := m0 (bg (n := w.heap.size) hg); have GE1932 := m0 (bg (n := w.heap.size) hg); replace HB := sb HB hb; have NB1910_1932 := nl BK1910 hg; have NB1932_1910 := ng (nl BK1910 hg); replace BK1910 := bb BK1910 hb; clear hb hbox hg; have hnb35 := NB1932_1910.out; have hnc35 := NB1910_1932.out; obtain ⟨_, _, _, _⟩ := b2 BK1932))
                      go_ret2
                      exact ez
                    · rw [if_neg c30] at H
                      have c30b0 := decide_eq_false c30
                      clear c30
                      have H' := m0 H
                      clear H
                      have p1929 : 0 ≤ (x49_2 : Int) := of_decide_eq_true (by first | (with_reducible assumption) | assumption)
                      have q1929 : x49_2 < (t1928.length : Int) := of_decide_eq_true (by first | (with_reducible assumption) | assumption)
                      obtain ⟨ad1929, e1929, hx1929_0⟩ := Kd.at_int (Kd.R_reads' HO_47.out).2.2 x49_2 p1929 q1929
                      cases e1929
                      replace p1929 := eq_true p1929
                      replace q1929 := eq_true q1929
                      obtain ⟨_, _⟩ := b1 BK1910
                      obtain ⟨Ao38, co38, eo38⟩ := Kd.R_slice HO_8.out
                      subst eo38
                      go_wp2_with (first | ((with_reducible refine gate_callee (f := 101) rfl ?_); refine gl (some 56) Tryd.func101 #[.slice Ao38 t1911.length co38, .agg #[.slice A0_0 l0_0.length c0_0], .int .i64 (rd t1928 x49_2)] ?_; (with_reducible refine (line_rate.calls k2 _ _ t1911 _ _ l0_0 (rd t1928 x49_2) t1930 t1931 _ ?side1 ?side2 ?side3 ?side4 A29.out).mono ?_); (case side1 => exact bc (Kd.R_reads' HO_8.out).2.2); (case side2 => exact (Kd.R_reads' HO_8.out).2.1); (case side3 => exact cb HR0_0 HB); (case side4 => exact HC0_0.out); rintro e w39 ⟨rfl, hb⟩; refine ⟨_, rfl, ?_⟩; replace HO_8 := rb HO_8 hb; replace HO_47 := rb HO_47 hb; replace BK1910 := bb BK1910 hb; replace HB := sb HB hb; (try clear hb)) | ((with_reducible refine gate_dst (N := 15) rfl ?_); refine be 15 26 #[.int .i64 0, .int .i64 0] ?_; intro gb1932 hg w40 hbox hb; replace HO_8 := rb HO_8 hb; replace HO_47 := rb HO_47 hb; have BK1932 := m0 hbox; have GW1932 := m0 (bg (n := w.heap.size) hg); have GE1932 := m0 (bg (n := w.heap.size) hg); replace HB := sb HB hb; have NB1910_1932 := nl BK1910 hg; have NB1932_1910 := ng (nl BK1910 hg); replace BK1910 := bb BK1910 hb; clear hb hbox hg; have hnb41 := NB1932_1910.out; have hnc41 := NB1910_1932.out; obtain ⟨_, _, _, _⟩ := b2 BK1932))
                      (try simp only [← hl47_2])
                      go_roundg k2
                      case measure => have := HK1.out; have := HK2.out; omega
                      case rel => exact ⟨(wrap64 (x49_2 + 1)), (by first | rfl | (simp; done) | (simp [*]; done)), H', ⟨by have := HK1.out; have := HK2.out; omega⟩, ⟨by (try simp only [hl47_2]); (with_reducible repeat (first | apply Kd.R_alloc | apply Kd.R_drewN | apply Kd.R_drew)); exact Kd.R_mono (Kd.R_far (p := ⟨gb1932, 1, none⟩) (Kd.R_far (p := ⟨gb1932, 0, none⟩) (Kd.R_types HO_8.out BK1932.out (by decide)) (fun _ hk => hk.2) (.int .i64 t1930)) (fun _ hk => hk.2) (.int .i64 t1931)) (fun _ hk => hk.1)⟩, ⟨by (try simp only [hl47_2]); (with_reducible repeat (first | apply Kd.R_alloc | apply Kd.R_drewN | apply Kd.R_drew)); exact Kd.R_mono (Kd.R_far (p := ⟨gb1932, 1, none⟩) (Kd.R_far (p := ⟨gb1932, 0, none⟩) (Kd.R_types HO_47.out BK1932.out (by decide)) (fun _ hk => hk.2) (.int .i64 t1930)) (fun _ hk => hk.2) (.int .i64 t1931)) (fun _ hk => hk.1)⟩, ⟨by (try simp only [hl47_2]); (with_reducible repeat (first | refine blk_drewN ?_ _ | refine blk_drew ?_ | refine blk_alloc ?_ _)); refine blk_far ?_ NB1910_1932.out _; (with_reducible repeat (first | refine blk_drewN ?_ _ | refine blk_drew ?_ | refine blk_alloc ?_ _)); refine blk_far ?_ NB1910_1932.out _; (with_reducible repeat (first | refine blk_drewN ?_ _ | refine blk_drew ?_ | refine blk_alloc ?_ _)); exact BK1910.out⟩, ⟨bz⟩⟩
                  · rw [if_neg c28] at H
                    exact absurd H (by simp)
                · rw [if_neg c27] at H
                  exact absurd H (by simp)
              · rw [if_neg c26] at H
                have c26b0 := decide_eq_false c26
                simp only [hl47_2] at c26b0
                clear c26
                simp only [Option.some.injEq, Prod.mk.injEq] at H
                obtain ⟨rfl, rfl⟩ := H
                go_wp2
                go_ret2
                exact ez
  · rw [if_neg c8] at H
    have c8b0 := beq_eq_false_iff_ne.mpr c8
    have c8b1 := bne_iff_ne.mpr c8
    simp only [Option.some.injEq, Prod.mk.injEq] at H
    obtain ⟨rfl, rfl⟩ := H
    go_enter Tryd.func84, Tryd.ntmps84
    go_wp2_with (first | ((with_reducible refine gate_dst (N := 3) rfl ?_); refine be 3 24 #[.slice A0_0 l0_0.length c0_0] ?_; intro gb1910 hg w43 hbox hb; have BK1910 := m0 hbox; have GW1910 := m0 (bg (n := w.heap.size) hg); have GE1910 := m0 (bg (n := w.heap.size) hg); replace HB := sb HB hb; clear hb hbox hg; obtain ⟨_, _⟩ := b1 BK1910) | ((with_reducible refine gate_callee (f := 129) rfl ?_); refine gl (some 19) Tryd.func129 #[.agg #[.slice A0_0 l0_0.length c0_0], .int .i64 a1] ?_; (with_reducible refine (line_openNoise.calls k _ _ l0_0 a1 t1911 t1914 _ ?side1 ?side2 A4.out).mono ?_); (case side1 => exact cb HR0_0 HB); (case side2 => exact HC0_0.out); rintro e w45 ⟨v1912, rfl, ho0, hb⟩; refine ⟨_, rfl, ?_⟩; have HO1913 := m0 (Kd.R_lower ho0 (below_size bz)); replace BK1910 := bb BK1910 hb; replace HB := sb HB hb; (try clear hb); (try clear ho0)) | ((with_reducible refine gate_callee (f := 105) rfl ?_); refine gl (some 24) Tryd.func105 #[.int .i64 a2, .int .i64 0, .int .i64 1000] ?_; (with_reducible refine (line_within.calls a2 0 1000 t1915 _ A5.out).mono ?_); rintro e w' ⟨rfl, ⟨nd, rfl⟩⟩; refine ⟨_, rfl, ?_⟩) | ((with_reducible refine gate_callee (f := 93) rfl ?_); refine gl (some 25) Tryd.func93 #[.bool t1915, .int .i64 2] ?_; (with_reducible refine (line_unless.calls t1915 2 t1916 _ A6.out).mono ?_); rintro e w' ⟨rfl, ⟨nd, rfl⟩⟩; refine ⟨_, rfl, ?_⟩) | ((with_reducible refine gate_dst (N := 26) rfl ?_); refine Kd.R_lit (Kd.int .i64) _ 31 ?hg (N := 26) ?hd (xs := ([t1914, t1916] : List Int)) (inner := [.int .i64 t1914, .int .i64 t1916]) (ok := fun _ => True) (okp := fun _ => True) ?hr ?hp (fun _ hk => hk) trivial (Below.refl _ _) (Nat.le_refl _) (by simp) ?_; (case hd => rfl); (case hg => rfl); (case hr => first | (go_simp; done) | (go_simp; rfl)); (case hp => exact (Reps.one (show Kd.M (Kd.int .i64) _ _ _ t1914 [.int .i64 t1914] from rfl) (Reps.one (show Kd.M (Kd.int .i64) _ _ _ t1916 [.int .i64 t1916] from rfl) (Reps.none _ _)))); intro v1918 w46 ho47 hb hg_ hnew_; clear hg_ hnew_; (first | rw [← Ny1917.out] at ho47 | (simp only [Int.reduceToNat] at ho47; rw [← Ny1917.out] at ho47)); replace HO1913 := rb HO1913 hb; have HO1919 := m0 (Kd.R_lower ho47 (below_size bz)); replace BK1910 := bb BK1910 hb; replace HB := sb HB hb; clear hb ho47; obtain ⟨Ao48, co48, eo48⟩ := Kd.R_slice HO1919.out; subst eo48) | ((with_reducible refine gate_callee (f := 91) rfl ?_); refine gl (some 27) Tryd.func91 #[.slice Ao48 y1917.length co48] ?_; (with_reducible refine (line_first.calls k _ _ y1917 t1920 _ ?side1 ?side2 A7.out).mono ?_); (case side1 => exact bc (Kd.R_reads' HO1919.out).2.2); (case side2 => exact (Kd.R_reads' HO1919.out).2.1); rintro e w' ⟨rfl, ⟨nd, rfl⟩⟩; refine ⟨_, rfl, ?_⟩))
    go_ret2
    exact ez
end
section
def Lw_part.f (k : Nat) (a0_0 : Int) (a0_1 : Int) : Option (Bool) := (Bs_IsLowest.f k a0_0 a0_1).bind fun t1979 => (if t1979 = true then ((Bs_IsSmall.f a0_0 a0_1).bind fun t1980 => (if t1980 = true then ((Bs_Within.f a0_0 0 a0_1).bind fun t1981 => (some t1981)) else (some false))) else (some false))
theorem Lw_part.mono : ∀ a0 a1 k, LeO (Lw_part.f k a0 a1) (Lw_part.f (k + 1) a0 a1) := by
 intro a0 a1 k
 unfold Lw_part.f
 repeat' first
   | (with_reducible exact Bs_IsLowest.mono _ _ _)
   | (with_reducible exact LeO.refl _)
   | (with_reducible exact LeO.none _)
   | (with_reducible refine LeO.ite ?_ ?_)
   | (with_reducible refine LeO.bind ?_ (fun _ => ?_))
   | exact Bs_IsLowest.mono _ _ _
   | exact LeO.none _
   | refine LeO.ite ?_ ?_
   | refine LeO.bind ?_ (fun _ => ?_)
theorem Lw_part.calls (k : Nat) (a0_0 : Int) (a0_1 : Int) (r : Bool) (w : World) (h : Lw_part.f k a0_0 a0_1 = some r) :
  Calls Tryd.prog 88 #[.agg #[.int .i64 a0_0, .int .i64 a0_1]] w fun e w' => e = .returned (.bool r) ∧ Below w.heap.size w w' := by
 have hu26 := Tryd.underlying26
 have HB := m0 (Below.refl w.heap.size w)
 have H : ((Bs_IsLowest.f k a0_0 a0_1).bind fun t1979 => (if t1979 = true then ((Bs_IsSmall.f a0_0 a0_1).bind fun t1980 => (if t1980 = true then ((Bs_Within.f a0_0 0 a0_1).bind fun t1981 => (some t1981)) else (some false))) else (some false))) = some r := h
 clear h
 replace H := ob H
 obtain ⟨t1979, A20, H⟩ := H
 (try dsimp only at H)
 have A2 := m0 A20
 clear A20
 by_cases c3 : t1979 = true
 ·subst c3
  rw [if_pos rfl] at H
  replace H := ob H
  obtain ⟨t1980, A40, H⟩ := H
  (try dsimp only at H)
  have A4 := m0 A40
  clear A40
  by_cases c5 : t1980 = true
  ·subst c5
   rw [if_pos rfl] at H
   replace H := ob H
   obtain ⟨t1981, A60, H⟩ := H
   (try dsimp only at H)
   have A6 := m0 A60
   clear A60
   obtain rfl := Option.some.inj H
   go_enter Tryd.func88, Tryd.ntmps88
   go_wp2_with (first | ((with_reducible refine gate_dst (N := 1) rfl ?_); refine be 1 26 #[.int .i64 a0_0, .int .i64 a0_1] ?_; intro gb1978 hg w7 hbox hb; have BK1978 := m0 hbox; have GW1978 := m0 (bg (n := w.heap.size) hg); have GE1978 := m0 (bg (n := w.heap.size) hg); replace HB := sb HB hb; clear hb hbox hg; obtain ⟨_, _, _, _⟩ := b2 BK1978) | ((with_reducible refine gate_callee (f := 35) rfl ?_); refine gl (some 4) Tryd.func35 #[.agg #[.int .i64 a0_0, .int .i64 a0_1]] ?_; (with_reducible refine (Bs_IsLowest.calls k a0_0 a0_1 true _ A2.out).mono ?_); rintro e w9 ⟨rfl, hb⟩; refine ⟨_, rfl, ?_⟩; replace BK1978 := bb BK1978 hb; replace HB := sb HB hb; (try clear hb); obtain ⟨_, _, _, _⟩ := b2 BK1978) | (go_at_call 36; (with_reducible refine (Bs_IsSmall.calls a0_0 a0_1 true _ A4.out).mono ?_); rintro e w11 ⟨rfl, hb⟩; replace BK1978 := bb BK1978 hb; replace HB := sb HB hb; (try clear hb); obtain ⟨_, _, _, _⟩ := b2 BK1978) | (go_at_call 31; (with_reducible refine (Bs_Within.calls a0_0 0 a0_1 t1981 _ A6.out).mono ?_); rintro e w' ⟨rfl, ⟨nd, rfl⟩⟩))
   go_ret
   exact ez
  ·replace c5 := Bool.eq_false_iff.mpr c5
   subst c5
   rw [if_neg (show ¬ (false = true) by decide)] at H
   obtain rfl := Option.some.inj H
   go_enter Tryd.func88, Tryd.ntmps88
   go_wp2_with (first | ((with_reducible refine gate_dst (N := 1) rfl ?_); refine be 1 26 #[.int .i64 a0_0, .int .i64 a0_1] ?_; intro gb1978 hg w13 hbox hb; have BK1978 := m0 hbox; have GW1978 := m0 (bg (n := w.heap.size) hg); have GE1978 := m0 (bg (n := w.heap.size) hg); replace HB := sb HB hb; clear hb hbox hg; obtain ⟨_, _, _, _⟩ := b2 BK1978) | ((with_reducible refine gate_callee (f := 35) rfl ?_); refine gl (some 4) Tryd.func35 #[.agg #[.int .i64 a0_0, .int .i64 a0_1]] ?_; (with_reducible refine (Bs_IsLowest.calls k a0_0 a0_1 true _ A2.out).mono ?_); rintro e w15 ⟨rfl, hb⟩; refine ⟨_, rfl, ?_⟩; replace BK1978 := bb BK1978 hb; replace HB := sb HB hb; (try clear hb); obtain ⟨_, _, _, _⟩ := b2 BK1978) | (go_at_call 36; (with_reducible refine (Bs_IsSmall.calls a0_0 a0_1 false _ A4.out).mono ?_); rintro e w17 ⟨rfl, hb⟩; replace BK1978 := bb BK1978 hb; replace HB := sb HB hb; (try clear hb)))
   go_ret
   exact ez
 ·replace c3 := Bool.eq_false_iff.mpr c3
  subst c3
  rw [if_neg (show ¬ (false = true) by decide)] at H
  obtain rfl := Option.some.inj H
  go_enter Tryd.func88, Tryd.ntmps88
  go_wp2_with (first | ((with_reducible refine gate_dst (N := 1) rfl ?_); refine be 1 26 #[.int .i64 a0_0, .int .i64 a0_1] ?_; intro gb1978 hg w18 hbox hb; have BK1978 := m0 hbox; have GW1978 := m0 (bg (n := w.heap.size) hg); have GE1978 := m0 (bg (n := w.heap.size) hg); replace HB := sb HB hb; clear hb hbox hg; obtain ⟨_, _, _, _⟩ := b2 BK1978) | ((with_reducible refine gate_callee (f := 35) rfl ?_); refine gl (some 4) Tryd.func35 #[.agg #[.int .i64 a0_0, .int .i64 a0_1]] ?_; (with_reducible refine (Bs_IsLowest.calls k a0_0 a0_1 false _ A2.out).mono ?_); rintro e w20 ⟨rfl, hb⟩; refine ⟨_, rfl, ?_⟩; replace BK1978 := bb BK1978 hb; replace HB := sb HB hb; (try clear hb)))
  go_ret
  exact ez
end
end Go.Proofs.YtjnkphmcndaijaaDoor.A
