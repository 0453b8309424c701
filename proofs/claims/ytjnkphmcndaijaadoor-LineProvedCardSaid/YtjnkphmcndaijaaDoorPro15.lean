/- Walks of the program's functions (printed, made shorter), each with what it computes. -/
import Derived.Test.YtjnkphmcndaijaaDoorPro04
import Derived.Test.YtjnkphmcndaijaaDoorPro03
import Derived.Test.YtjnkphmcndaijaaDoorPro09
namespace Go.Proofs.YtjnkphmcndaijaaDoor.A
set_option maxHeartbeats 8000000
set_option maxRecDepth 100000
open Go.RowKit Go.Proofs.YtjnkphmcndaijaaDoorW.PrintWords Go.Proofs.YtjnkphmcndaijaaDoorW.PrintLast Go.Proofs.YtjnkphmcndaijaaDoorW.PrintMore
attribute [local go_sem] max2_int min2_int max_two min_two max_three min_three max_four min_four
set_option linter.unusedVariables false
set_option linter.unusedSimpArgs false
section
def Bs_Cmp.f (a0_0 : Int) (a0_1 : Int) (a1_0 : Int) (a1_1 : Int) : Option (Int) := if (wrap64 (a0_0 * a1_1)) < (wrap64 (a1_0 * a0_1)) then (some (-1)) else (if (wrap64 (a0_0 * a1_1)) > (wrap64 (a1_0 * a0_1)) then (some 1) else (some 0))
theorem Bs_Cmp.calls (a0_0 : Int) (a0_1 : Int) (a1_0 : Int) (a1_1 : Int) (r : Int) (w : World) (h : Bs_Cmp.f a0_0 a0_1 a1_0 a1_1 = some r) :
  Calls Tryd.prog 37 #[.agg #[.int .i64 a0_0, .int .i64 a0_1], .agg #[.int .i64 a1_0, .int .i64 a1_1]] w fun e w' => e = .returned (.int .i64 r) ∧ Below w.heap.size w w' := by
 have hu26 := Tryd.underlying26
 have HB := m0 (Below.refl w.heap.size w)
 have H : (if (wrap64 (a0_0 * a1_1)) < (wrap64 (a1_0 * a0_1)) then (some (-1)) else (if (wrap64 (a0_0 * a1_1)) > (wrap64 (a1_0 * a0_1)) then (some 1) else (some 0))) = some r := h
 clear h
 by_cases c3 : (wrap64 (a0_0 * a1_1)) < (wrap64 (a1_0 * a0_1))
 ·rw [if_pos c3] at H
  have c3b0 := decide_eq_true c3
  clear c3
  obtain rfl := Option.some.inj H
  go_enter Tryd.func37, Tryd.ntmps37
  go_wp2_with (first | ((with_reducible refine gate_dst (N := 2) rfl ?_); refine be 2 26 #[.int .i64 a0_0, .int .i64 a0_1] ?_; intro gb460 hg w4 hbox hb; have BK460 := m0 hbox; have GW460 := m0 (bg (n := w.heap.size) hg); have GE460 := m0 (bg (n := w.heap.size) hg); replace HB := sb HB hb; clear hb hbox hg) | ((with_reducible refine gate_dst (N := 3) rfl ?_); refine be 3 26 #[.int .i64 a1_0, .int .i64 a1_1] ?_; intro gb461 hg w5 hbox hb; have BK461 := m0 hbox; have GW461 := m0 (bg (n := w.heap.size) hg); have GE461 := m0 (bg (n := w.heap.size) hg); replace HB := sb HB hb; have NB460_461 := nl BK460 hg; have NB461_460 := ng (nl BK460 hg); replace BK460 := bb BK460 hb; clear hb hbox hg; have hnb6 := NB460_461.out; have hnc6 := NB461_460.out; obtain ⟨hcz7_0, hcz7_1, hfz7_0, hfz7_1⟩ := b2 BK460; obtain ⟨hcz8_0, hcz8_1, hfz8_0, hfz8_1⟩ := b2 BK461))
  repeat (go_quiet (first | ((with_reducible refine gate_dst (N := 2) rfl ?_); refine be 2 26 #[.int .i64 a0_0, .int .i64 a0_1] ?_; intro gb460 hg w4 hbox hb; have BK460 := m0 hbox; have GW460 := m0 (bg (n := w.heap.size) hg); have GE460 := m0 (bg (n := w.heap.size) hg); replace HB := sb HB hb; clear hb hbox hg) | ((with_reducible refine gate_dst (N := 3) rfl ?_); refine be 3 26 #[.int .i64 a1_0, .int .i64 a1_1] ?_; intro gb461 hg w5 hbox hb; have BK461 := m0 hbox; have GW461 := m0 (bg (n := w.heap.size) hg); have GE461 := m0 (bg (n := w.heap.size) hg); replace HB := sb HB hb; have NB460_461 := nl BK460 hg; have NB461_460 := ng (nl BK460 hg); replace BK460 := bb BK460 hb; clear hb hbox hg; have hnb6 := NB460_461.out; have hnc6 := NB461_460.out; obtain ⟨hcz7_0, hcz7_1, hfz7_0, hfz7_1⟩ := b2 BK460; obtain ⟨hcz8_0, hcz8_1, hfz8_0, hfz8_1⟩ := b2 BK461)); try go_wp2_with (first | ((with_reducible refine gate_dst (N := 2) rfl ?_); refine be 2 26 #[.int .i64 a0_0, .int .i64 a0_1] ?_; intro gb460 hg w4 hbox hb; have BK460 := m0 hbox; have GW460 := m0 (bg (n := w.heap.size) hg); have GE460 := m0 (bg (n := w.heap.size) hg); replace HB := sb HB hb; clear hb hbox hg) | ((with_reducible refine gate_dst (N := 3) rfl ?_); refine be 3 26 #[.int .i64 a1_0, .int .i64 a1_1] ?_; intro gb461 hg w5 hbox hb; have BK461 := m0 hbox; have GW461 := m0 (bg (n := w.heap.size) hg); have GE461 := m0 (bg (n := w.heap.size) hg); replace HB := sb HB hb; have NB460_461 := nl BK460 hg; have NB461_460 := ng (nl BK460 hg); replace BK460 := bb BK460 hb; clear hb hbox hg; have hnb6 := NB460_461.out; have hnc6 := NB461_460.out; obtain ⟨hcz7_0, hcz7_1, hfz7_0, hfz7_1⟩ := b2 BK460; obtain ⟨hcz8_0, hcz8_1, hfz8_0, hfz8_1⟩ := b2 BK461)))
  go_ret
  exact ez
 ·rw [if_neg c3] at H
  have c3b0 := decide_eq_false c3
  clear c3
  by_cases c9 : (wrap64 (a0_0 * a1_1)) > (wrap64 (a1_0 * a0_1))
  ·rw [if_pos c9] at H
   have c9b0 := decide_eq_true c9
   clear c9
   obtain rfl := Option.some.inj H
   go_enter Tryd.func37, Tryd.ntmps37
   go_wp2_with (first | ((with_reducible refine gate_dst (N := 2) rfl ?_); refine be 2 26 #[.int .i64 a0_0, .int .i64 a0_1] ?_; intro gb460 hg w10 hbox hb; have BK460 := m0 hbox; have GW460 := m0 (bg (n := w.heap.size) hg); have GE460 := m0 (bg (n := w.heap.size) hg); replace HB := sb HB hb; clear hb hbox hg) | ((with_reducible refine gate_dst (N := 3) rfl ?_); refine be 3 26 #[.int .i64 a1_0, .int .i64 a1_1] ?_; intro gb461 hg w11 hbox hb; have BK461 := m0 hbox; have GW461 := m0 (bg (n := w.heap.size) hg); have GE461 := m0 (bg (n := w.heap.size) hg); replace HB := sb HB hb; have NB460_461 := nl BK460 hg; have NB461_460 := ng (nl BK460 hg); replace BK460 := bb BK460 hb; clear hb hbox hg; have hnb12 := NB460_461.out; have hnc12 := NB461_460.out; obtain ⟨hcz13_0, hcz13_1, hfz13_0, hfz13_1⟩ := b2 BK460; obtain ⟨hcz14_0, hcz14_1, hfz14_0, hfz14_1⟩ := b2 BK461))
   repeat (go_quiet (first | ((with_reducible refine gate_dst (N := 2) rfl ?_); refine be 2 26 #[.int .i64 a0_0, .int .i64 a0_1] ?_; intro gb460 hg w10 hbox hb; have BK460 := m0 hbox; have GW460 := m0 (bg (n := w.heap.size) hg); have GE460 := m0 (bg (n := w.heap.size) hg); replace HB := sb HB hb; clear hb hbox hg) | ((with_reducible refine gate_dst (N := 3) rfl ?_); refine be 3 26 #[.int .i64 a1_0, .int .i64 a1_1] ?_; intro gb461 hg w11 hbox hb; have BK461 := m0 hbox; have GW461 := m0 (bg (n := w.heap.size) hg); have GE461 := m0 (bg (n := w.heap.size) hg); replace HB := sb HB hb; have NB460_461 := nl BK460 hg; have NB461_460 := ng (nl BK460 hg); replace BK460 := bb BK460 hb; clear hb hbox hg; have hnb12 := NB460_461.out; have hnc12 := NB461_460.out; obtain ⟨hcz13_0, hcz13_1, hfz13_0, hfz13_1⟩ := b2 BK460; obtain ⟨hcz14_0, hcz14_1, hfz14_0, hfz14_1⟩ := b2 BK461)); try go_wp2_with (first | ((with_reducible refine gate_dst (N := 2) rfl ?_); refine be 2 26 #[.int .i64 a0_0, .int .i64 a0_1] ?_; intro gb460 hg w10 hbox hb; have BK460 := m0 hbox; have GW460 := m0 (bg (n := w.heap.size) hg); have GE460 := m0 (bg (n := w.heap.size) hg); replace HB := sb HB hb; clear hb hbox hg) | ((with_reducible refine gate_dst (N := 3) rfl ?_); refine be 3 26 #[.int .i64 a1_0, .int .i64 a1_1] ?_; intro gb461 hg w11 hbox hb; have BK461 := m0 hbox; have GW461 := m0 (bg (n := w.heap.size) hg); have GE461 := m0 (bg (n := w.heap.size) hg); replace HB := sb HB hb; have NB460_461 := nl BK460 hg; have NB461_460 := ng (nl BK460 hg); replace BK460 := bb BK460 hb; clear hb hbox hg; have hnb12 := NB460_461.out; have hnc12 := NB461_460.out; obtain ⟨hcz13_0, hcz13_1, hfz13_0, hfz13_1⟩ := b2 BK460; obtain ⟨hcz14_0, hcz14_1, hfz14_0, hfz14_1⟩ := b2 BK461)))
   go_ret
   exact ez
  ·rw [if_neg c9] at H
   have c9b0 := decide_eq_false c9
   clear c9
   obtain rfl := Option.some.inj H
   go_enter Tryd.func37, Tryd.ntmps37
   go_wp2_with (first | ((with_reducible refine gate_dst (N := 2) rfl ?_); refine be 2 26 #[.int .i64 a0_0, .int .i64 a0_1] ?_; intro gb460 hg w15 hbox hb; have BK460 := m0 hbox; have GW460 := m0 (bg (n := w.heap.size) hg); have GE460 := m0 (bg (n := w.heap.size) hg); replace HB := sb HB hb; clear hb hbox hg) | ((with_reducible refine gate_dst (N := 3) rfl ?_); refine be 3 26 #[.int .i64 a1_0, .int .i64 a1_1] ?_; intro gb461 hg w16 hbox hb; have BK461 := m0 hbox; have GW461 := m0 (bg (n := w.heap.size) hg); have GE461 := m0 (bg (n := w.heap.size) hg); replace HB := sb HB hb; have NB460_461 := nl BK460 hg; have NB461_460 := ng (nl BK460 hg); replace BK460 := bb BK460 hb; clear hb hbox hg; have hnb17 := NB460_461.out; have hnc17 := NB461_460.out; obtain ⟨hcz18_0, hcz18_1, hfz18_0, hfz18_1⟩ := b2 BK460; obtain ⟨hcz19_0, hcz19_1, hfz19_0, hfz19_1⟩ := b2 BK461))
   repeat (go_quiet (first | ((with_reducible refine gate_dst (N := 2) rfl ?_); refine be 2 26 #[.int .i64 a0_0, .int .i64 a0_1] ?_; intro gb460 hg w15 hbox hb; have BK460 := m0 hbox; have GW460 := m0 (bg (n := w.heap.size) hg); have GE460 := m0 (bg (n := w.heap.size) hg); replace HB := sb HB hb; clear hb hbox hg) | ((with_reducible refine gate_dst (N := 3) rfl ?_); refine be 3 26 #[.int .i64 a1_0, .int .i64 a1_1] ?_; intro gb461 hg w16 hbox hb; have BK461 := m0 hbox; have GW461 := m0 (bg (n := w.heap.size) hg); have GE461 := m0 (bg (n := w.heap.size) hg); replace HB := sb HB hb; have NB460_461 := nl BK460 hg; have NB461_460 := ng (nl BK460 hg); replace BK460 := bb BK460 hb; clear hb hbox hg; have hnb17 := NB460_461.out; have hnc17 := NB461_460.out; obtain ⟨hcz18_0, hcz18_1, hfz18_0, hfz18_1⟩ := b2 BK460; obtain ⟨hcz19_0, hcz19_1, hfz19_0, hfz19_1⟩ := b2 BK461)); try go_wp2_with (first | ((with_reducible refine gate_dst (N := 2) rfl ?_); refine be 2 26 #[.int .i64 a0_0, .int .i64 a0_1] ?_; intro gb460 hg w15 hbox hb; have BK460 := m0 hbox; have GW460 := m0 (bg (n := w.heap.size) hg); have GE460 := m0 (bg (n := w.heap.size) hg); replace HB := sb HB hb; clear hb hbox hg) | ((with_reducible refine gate_dst (N := 3) rfl ?_); refine be 3 26 #[.int .i64 a1_0, .int .i64 a1_1] ?_; intro gb461 hg w16 hbox hb; have BK461 := m0 hbox; have GW461 := m0 (bg (n := w.heap.size) hg); have GE461 := m0 (bg (n := w.heap.size) hg); replace HB := sb HB hb; have NB460_461 := nl BK460 hg; have NB461_460 := ng (nl BK460 hg); replace BK460 := bb BK460 hb; clear hb hbox hg; have hnb17 := NB460_461.out; have hnc17 := NB461_460.out; obtain ⟨hcz18_0, hcz18_1, hfz18_0, hfz18_1⟩ := b2 BK460; obtain ⟨hcz19_0, hcz19_1, hfz19_0, hfz19_1⟩ := b2 BK461)))
   go_ret
   exact ez
end
section
def Rf_Noisy.l0 : Nat → List Int → Int → List Int → Int → List Int → Option (List Int)
 | 0, _, _, _, _, _ => none
 | k + 1, x0, x2, x7, x8, x463000 => if x8 < (x0.length : Int) then (if 0 ≤ x8 then (if (x463000.length : Int) = 0 then (none) else (if 0 ≤ (Int.tmod x2 (x463000.length : Int)) then (if (Int.tmod x2 (x463000.length : Int)) < (x463000.length : Int) then (if x7.length < 17592186044416 then (Rf_Noisy.l0 k x0 (wrap64 (Int.tdiv x2 (x463000.length : Int))) (x7 ++ [wrap64 ((rd x0 x8) + (rd x463000 (Int.tmod x2 (x463000.length : Int))))]) (wrap64 (x8 + 1)) x463000) else (none)) else (none)) else (none))) else (none)) else (some x7)
def Rf_Noisy.f (k : Nat) (l0 : List Int) (l1_0 : List Int) (a2 : Int) : Option (List Int) := Rf_Noisy.l0 k l0 a2 ([] : List Int) 0 l1_0
theorem Rf_Noisy.mono_l : ∀ k, (∀ y0 y1 y2 y3 y4, LeO (Rf_Noisy.l0 k y0 y1 y2 y3 y4) (Rf_Noisy.l0 (k + 1) y0 y1 y2 y3 y4))
 | 0 => fun _ _ _ _ _ r h => by simp [Rf_Noisy.l0] at h
 | k + 1 => by
  have ih0 := Rf_Noisy.mono_l k
  ·intro y0 y1 y2 y3 y4
   unfold Rf_Noisy.l0
   repeat' first
   | (with_reducible exact ih0 _ _ _ _ _)
   | (with_reducible exact LeO.refl _)
   | (with_reducible exact LeO.none _)
   | (with_reducible refine LeO.ite ?_ ?_)
   | (with_reducible refine LeO.bind ?_ (fun _ => ?_))
   | exact ih0 _ _ _ _ _
   | exact LeO.none _
   | refine LeO.ite ?_ ?_
   | refine LeO.bind ?_ (fun _ => ?_)
theorem Rf_Noisy.mono : ∀ a0 a1 a2 k, LeO (Rf_Noisy.f k a0 a1 a2) (Rf_Noisy.f (k + 1) a0 a1 a2) := by
 intro a0 a1 a2 k
 have ih0 := Rf_Noisy.mono_l k
 unfold Rf_Noisy.f
 repeat' first
   | (with_reducible exact ih0 _ _ _ _ _)
   | (with_reducible exact LeO.refl _)
   | (with_reducible exact LeO.none _)
   | (with_reducible refine LeO.ite ?_ ?_)
   | (with_reducible refine LeO.bind ?_ (fun _ => ?_))
   | exact ih0 _ _ _ _ _
   | exact LeO.none _
   | refine LeO.ite ?_ ?_
   | refine LeO.bind ?_ (fun _ => ?_)
def Rf_Noisy.T5 : Bool × List (List Nat × List Nat) := (true, [([], []), ([], []), ([], []), ([1, 2], [1, 2]), ([3], [3]), ([], []), ([5], [5]), ([], []), ([], []), ([8], [8]), ([9], [9]), ([7, 10], [7, 10]), ([6, 11], [6, 11]), ([12], [12]), ([4, 13], [4, 13]), ([14], [14]), ([0, 15], [0, 15]), ([16, 16, 0, 1, 2, 3, 4, 5, 6, 7, 8, 9, 10, 11, 12, 13, 14, 15, 16], [0, 16])])
def Rf_Noisy.B5 : List Nat := [0, 0, 0, 6, 14, 0, 32, 0, 0, 256, 768, 1920, 4064, 8160, 16382, 32766, 65535, 131071]
theorem Rf_Noisy.tab5 : rtab .any (opsOf Tryd.f58 5) = Rf_Noisy.T5 := by kernel_rfl
theorem Rf_Noisy.bits5 : waitsOk Rf_Noisy.T5.2 Rf_Noisy.B5 = true := by kernel_rfl
theorem Rf_Noisy.calls (k : Nat) (A0 : Option Addr) (c0 : Nat) (l0 : List Int) (A1_0 : Option Addr) (c1_0 : Nat) (l1_0 : List Int) (a2 : Int) (r : List Int) (w : World) (hr0 : Kd.C (Kd.int .i64) w A0 l0.length l0) (hc0 : l0.length ≤ c0) (hr1_0 : Kd.C (Kd.int .i64) w A1_0 l1_0.length l1_0) (hc1_0 : l1_0.length ≤ c1_0) (h : Rf_Noisy.f k l0 l1_0 a2 = some r) :
  Calls Tryd.prog 58 #[.slice A0 l0.length c0, .agg #[.slice A1_0 l1_0.length c1_0], .int .i64 a2] w fun e w' => ∃ v0_ : Value, e = .returned (v0_) ∧ Kd.R (Kd.int .i64) 3 w' w.heap.size (fun _ => True) v0_ r ∧ Below w.heap.size w w' := by
 have hu24 := Tryd.underlying24
 have HR0 := m0 hr0
 have HC0 := m0 hc0
 clear hr0 hc0
 have HR1_0 := m0 hr1_0
 have HC1_0 := m0 hc1_0
 clear hr1_0 hc1_0
 have HB := m0 (Below.refl w.heap.size w)
 have H : (Rf_Noisy.l0 k l0 a2 ([] : List Int) 0 l1_0) = some r := h
 clear h
 have H' := m0 H
 clear H
 go_enter Tryd.func58, Tryd.ntmps58
 go_wp2_with (first | ((with_reducible refine gate_dst (N := 4) rfl ?_); refine be 4 24 #[.slice A1_0 l1_0.length c1_0] ?_; intro gb462 hg w4 hbox hb; have BK462 := m0 hbox; have GW462 := m0 (bg (n := w.heap.size) hg); have GE462 := m0 (bg (n := w.heap.size) hg); replace HB := sb HB hb; clear hb hbox hg))
 go_loopg [2, 7, 8] k (fun kq v2 v7 v8 w' => ∃ (x2_1 : Int) (x7_1 : List Int) (x8_1 : Int), v2 = .int .i64 x2_1 ∧ v8 = .int .i64 x8_1 ∧ Aside0 (Rf_Noisy.l0 kq l0 x2_1 x7_1 x8_1 l1_0 = some r) ∧ Aside0 (kq ≤ k) ∧ Aside0 (Kd.R (Kd.int .i64) 3 w' w.heap.size (fun _ => True) v7 x7_1) ∧ Aside0 (w'.heap[gb462]? = some (.cells #[(.slice A1_0 l1_0.length c1_0)] 24 (0, 0))) ∧ Aside0 (Below w.heap.size w w'))
 case atStart => exact ⟨(a2), (([] : List Int)), (0), (by first | rfl | (simp; done) | (simp [*]; done)), (by first | rfl | (simp; done) | (simp [*]; done)), H', ⟨Nat.le_refl _⟩, ⟨by first | exact Kd.R_nil _ _ _ _ _ | exact Kd.N_nil _ _ _ _ _ | exact Kd.V_nil _ _ _ _ _ | exact Kd.Q_nil _ _ _ _ _ | exact Kd.S_nil _ _ _ _ _⟩, ⟨bk BK462.out⟩, ⟨bz⟩⟩
 case round =>
  clear H'
  try clear c1
  try clear p2
  obtain ⟨x2_1, x7_1, x8_1, rfl, rfl, HA, HK1, HO_7, BK462, HB⟩ := hrel
  cases gk with
  | zero => exact absurd HA.out (by simp [Rf_Noisy.l0])
  | succ k1 =>
   have H := HA.out
   clear HA
   simp only [Rf_Noisy.l0] at H
   by_cases c5 : x8_1 < (l0.length : Int)
   ·rw [if_pos c5] at H
    have c5b0 := decide_eq_true c5
    clear c5
    by_cases c6 : 0 ≤ x8_1
    ·rw [if_pos c6] at H
     have c6b0 := decide_eq_true c6
     clear c6
     by_cases c7 : (l1_0.length : Int) = 0
     ·rw [if_pos c7] at H
      exact absurd H (by simp)
     ·rw [if_neg c7] at H
      have c7b0 := beq_eq_false_iff_ne.mpr c7
      have c7b1 := bne_iff_ne.mpr c7
      have c7b2 : ¬ (l1_0 = []) := fun h_ => c7 (by rw [h_]; rfl)
      obtain ⟨ji8, hji8⟩ : ∃ j_ : Int, (Int.tmod x2_1 (l1_0.length : Int)) = j_ := ⟨_, rfl⟩
      replace H : (if 0 ≤ (ji8) then (if (ji8) < (l1_0.length : Int) then (if x7_1.length < 17592186044416 then (Rf_Noisy.l0 k1 l0 (wrap64 (Int.tdiv x2_1 (l1_0.length : Int))) (x7_1 ++ [wrap64 ((rd l0 x8_1) + (rd l1_0 (ji8)))]) (wrap64 (x8_1 + 1)) l1_0) else (none)) else (none)) else (none)) = some r := by first | (rw [hji8] at H; exact H) | (simp only [hji8] at H ⊢; exact H)
      by_cases c9 : 0 ≤ (ji8)
      ·rw [if_pos c9] at H
       have c9b0 := decide_eq_true c9
       clear c9
       by_cases c10 : (ji8) < (l1_0.length : Int)
       ·rw [if_pos c10] at H
        have c10b0 := decide_eq_true c10
        clear c10
        by_cases c11 : x7_1.length < 17592186044416
        ·rw [if_pos c11] at H
         have LMc11 := m0 c11
         clear c11
         obtain ⟨y465, hy465⟩ : ∃ y_ : List Int, y_ = (x7_1 ++ [wrap64 ((rd l0 x8_1) + (rd l1_0 (ji8)))]) := ⟨_, rfl⟩
         replace H : (Rf_Noisy.l0 k1 l0 (wrap64 (Int.tdiv x2_1 (l1_0.length : Int))) y465 (wrap64 (x8_1 + 1)) l1_0) = some r := by first | (rw [hy465]; with_reducible exact H) | (have H2_ := (Option.bind_some _ _).symm.trans H; rw [hy465]; with_reducible exact H2_) | (have H2_ := (Option.bind_some _ _).symm.trans H; with_reducible exact H2_) | with_reducible exact H | (rw [hy465]; exact H) | exact H
         have Ny465 := m0 hy465
         clear hy465
         have H' := m0 H
         clear H
         try go_wp2
         replace HO_7 := m0 (Kd.R_drew HO_7.out); replace BK462 := bd BK462; replace HB := sd HB
         have p463 : 0 ≤ (x8_1 : Int) := of_decide_eq_true (by first | (with_reducible assumption) | assumption)
         have q463 : x8_1 < (l0.length : Int) := of_decide_eq_true (by first | (with_reducible assumption) | assumption)
         obtain ⟨ad463, e463, hx463_0⟩ := Kd.at_int HR0.out x8_1 p463 q463
         have hw463_0 := hx463_0
         cases e463
         replace hx463_0 := (HB.out.cell (World.block_lt_of_cell? w _ hx463_0)).trans hx463_0
         replace p463 := eq_true p463
         replace q463 := eq_true q463
         have p464 : 0 ≤ ((ji8) : Int) := of_decide_eq_true (by first | (with_reducible assumption) | assumption)
         have q464 : (ji8) < (l1_0.length : Int) := of_decide_eq_true (by first | (with_reducible assumption) | assumption)
         obtain ⟨ad464, e464, hx464_0⟩ := Kd.at_int HR1_0.out (ji8) p464 q464
         have hw464_0 := hx464_0
         cases e464
         replace hx464_0 := (HB.out.cell (World.block_lt_of_cell? w _ hx464_0)).trans hx464_0
         replace p464 := eq_true p464
         replace q464 := eq_true q464
         refine start_ (n := 18) (S := fun w' => w'.cell? ⟨gb462, 0, none⟩ = some (.slice (some ad464) l1_0.length c1_0) ∧ w'.cell? (ad463.add (x8_1).toNat) = some (.int .i64 (rd l0 x8_1)) ∧ w'.cell? (ad464.add ((ji8)).toNat) = some (.int .i64 (rd l1_0 (ji8)))) (ds := []) #[false, false, false, false, false, false, false, false, false, false, false, false, false, false, false, false, false, false] (by kernel_rfl) rfl rfl ⟨(blk_cell BK462.out 0).trans rfl, ((HB.out.cell (World.block_lt_of_cell? w _ hw463_0)).trans hw463_0), ((HB.out.cell (World.block_lt_of_cell? w _ hw464_0)).trans hw464_0)⟩ (fun hHeld => ?_); refine with_tabW Rf_Noisy.tab5 Rf_Noisy.bits5 (fun HT_ HW_ => ?_)
         generalize wr.drew = w12 at HO_7 BK462 HB hx463_0 hx464_0 hHeld ⊢
         refine pureZ (i := 0) (N := some 15) (bs 18 1) HT_ ?_
         refine pureZ (i := 1) (N := some 16) (bs 18 3) HT_ ?_
         refine pureZ (i := 2) (N := some 17) (bs 18 7) HT_ ?_
         refine pureZ (i := 3) (N := some 18) (bs 18 15) HT_ ?_
         refine pureZ (i := 5) (N := some 20) (bs 18 47) HT_ ?_
         refine pureZ (i := 7) (N := some 22) (bs 18 175) HT_ ?_
         refine pureZ (i := 8) (N := some 23) (bs 18 431) HT_ ?_
         refine takeZ 4 (some 19) (bs 18 447) (take_ofW HT_.out HW_.out (by kernel_rfl)) hHeld ?_
         refine takeZ 6 (some 21) (bs 18 511) (take_ofW HT_.out HW_.out (by kernel_rfl)) hHeld ?_
         refine takeZ 9 (some 24) (bs 18 1023) (take_ofW HT_.out HW_.out (by kernel_rfl)) hHeld ?_
         refine pureZ (i := 10) (N := some 25) (bs 18 2047) HT_ ?_
         refine pureZ (i := 11) (N := some 26) (bs 18 4095) HT_ ?_
         refine pureZ (i := 12) (N := some 27) (bs 18 8191) HT_ ?_
         refine takeZ 13 (some 28) (bs 18 16383) (take_ofW HT_.out HW_.out (by kernel_rfl)) hHeld ?_
         refine pureZ (i := 14) (N := some 29) (bs 18 32767) HT_ ?_
         refine oneZ 15 (some 30) (bs 18 65535) (one_of HT_.out (by kernel_rfl)) fun K hK => ?_
         refine value_ (w1 := ?_) (v := ?_) (by rfl) rfl ?_ ?_
         rotate_left 2
         ·go_simp
          constructor
          ·rfl
          ·rfl
         refine hK.out _ _ ⟨(blk_cell (blk_alloc BK462.out _) 0).trans rfl, (World.cell?_alloc_lt _ _ _ (World.block_lt_of_cell? _ _ (((HB.out.cell (World.block_lt_of_cell? w _ hw463_0)).trans hw463_0)))).trans (((HB.out.cell (World.block_lt_of_cell? w _ hw463_0)).trans hw463_0)), (World.cell?_alloc_lt _ _ _ (World.block_lt_of_cell? _ _ (((HB.out.cell (World.block_lt_of_cell? w _ hw464_0)).trans hw464_0)))).trans (((HB.out.cell (World.block_lt_of_cell? w _ hw464_0)).trans hw464_0))⟩ (fun hHeld => ?_)
         clear hK K
         refine norm_ (a' := ?_) ?_ ?_
         rotate_left
         ·show Act.put _ (some 30) _ = _
          exact pz
         refine oneZ 16 (some 31) (bs 18 131071) (one_of HT_.out (by kernel_rfl)) fun K hK => ?_
         refine Kd.R_append_step (Kd.int .i64) (w0 := w) w.heap.size (by rfl) (.tmp 15) (.tmp 30) 22 3 (.int .i64 0) 8 rfl Tryd.underlying22 info3 rfl (by decide) (by omega) u7 x7_1 (wrap64 ((rd l0 x8_1) + (rd l1_0 (ji8)))) [.int .i64 (wrap64 ((rd l0 x8_1) + (rd l1_0 (ji8))))] (fun _ => True) (fun _ => False) rfl rfl ?aP (fun _ hk => hk.elim) ?aF ?aO ?aB ?aS ?aL ?_
         (case aP => exact rfl)
         (case aB => exact bz)
         (case aF => exact (fun _ _ => trivial))
         (case aO => exact (br HO_7.out))
         (case aS => exact (below_size bz))
         (case aL => have := LMc11.out; omega)
         intro v466 w13 ho hb hg hat
         rw [← Ny465.out] at ho
         have n0_ := m0 (blk_grown (g := gb462) (o := .cells #[.slice (some ad464) l1_0.length c1_0] 24 (0, 0)) (bk BK462.out) hg (Kd.R_ne HO_7.out BK462.out (by decide))); have n1_ := m0 (hb); have n2_ := m0 (ho); clear BK462; clear HB; clear HO_7; have BK462 := n0_; have HB := n1_; have HO467 := n2_; clear n0_ n1_ n2_
         clear ho hb hg hat
         refine hK.out _ _ ⟨(blk_cell BK462.out 0).trans rfl, ((HB.out.cell (World.block_lt_of_cell? w _ hw463_0)).trans hw463_0), ((HB.out.cell (World.block_lt_of_cell? w _ hw464_0)).trans hw464_0)⟩ (fun hHeld => ?_)
         clear hK K
         refine norm_ (a' := ?_) ?_ ?_
         rotate_left
         ·show Act.put _ (some 31) _ = _
          exact pz
         refine pureZ (i := 17) (N := some 7) (bs 18 262143) HT_ ?_
         refine done_ (done_of HT_.out (by kernel_rfl)) ?_
         obtain ⟨_, _⟩ := b1 BK462
         try go_wp2
         go_roundg k1
         case measure => have := HK1.out; omega
         case rel => exact ⟨(wrap64 (Int.tdiv x2_1 (l1_0.length : Int))), (y465), (wrap64 (x8_1 + 1)), (by first | rfl | (simp; done) | (simp [*]; done)), (by first | rfl | (simp; done) | (simp [*]; done)), H', ⟨by have := HK1.out; omega⟩, ⟨br HO467.out⟩, ⟨bk BK462.out⟩, ⟨bz⟩⟩
        ·rw [if_neg c11] at H
         exact absurd H (by simp)
       ·rw [if_neg c10] at H
        exact absurd H (by simp)
      ·rw [if_neg c9] at H
       exact absurd H (by simp)
    ·rw [if_neg c6] at H
     exact absurd H (by simp)
   ·rw [if_neg c5] at H
    have c5b0 := decide_eq_false c5
    clear c5
    obtain rfl := Option.some.inj H
    go_wp2
    go_ret
    exact ⟨_, by first | rfl | (simp [errW_none, errW_some] <;> rfl) | (simp [*, errW_none, errW_some] <;> rfl), by (with_reducible repeat (first | apply Kd.R_alloc | apply Kd.R_drewN | apply Kd.R_drew)); exact HO_7.out, by repeat (first | (with_reducible first | exact HB.out | apply below_alloc | apply pw_below_drewN | apply below_drew1 | refine below_set ?_ GE462.out) | exact HB.out)⟩
end
section
def Rf_Sum.l0 : Nat → List Int → Int → Int → Option (Int)
 | 0, _, _, _ => none
 | k + 1, x0, x3, x4 => if x4 < (x0.length : Int) then (if 0 ≤ x4 then (Rf_Sum.l0 k x0 (wrap64 (x3 + (rd x0 x4))) (wrap64 (x4 + 1))) else (none)) else (some x3)
def Rf_Sum.f (k : Nat) (l0 : List Int) : Option (Int) := Rf_Sum.l0 k l0 0 0
theorem Rf_Sum.mono_l : ∀ k, (∀ y0 y1 y2, LeO (Rf_Sum.l0 k y0 y1 y2) (Rf_Sum.l0 (k + 1) y0 y1 y2))
 | 0 => fun _ _ _ r h => by simp [Rf_Sum.l0] at h
 | k + 1 => by
  have ih0 := Rf_Sum.mono_l k
  ·intro y0 y1 y2
   unfold Rf_Sum.l0
   repeat' first
   | (with_reducible exact ih0 _ _ _)
   | (with_reducible exact LeO.refl _)
   | (with_reducible exact LeO.none _)
   | (with_reducible refine LeO.ite ?_ ?_)
   | (with_reducible refine LeO.bind ?_ (fun _ => ?_))
   | exact ih0 _ _ _
   | exact LeO.none _
   | refine LeO.ite ?_ ?_
   | refine LeO.bind ?_ (fun _ => ?_)
theorem Rf_Sum.mono : ∀ a0 k, LeO (Rf_Sum.f k a0) (Rf_Sum.f (k + 1) a0) := by
 intro a0 k
 have ih0 := Rf_Sum.mono_l k
 unfold Rf_Sum.f
 repeat' first
   | (with_reducible exact ih0 _ _ _)
   | (with_reducible exact LeO.refl _)
   | (with_reducible exact LeO.none _)
   | (with_reducible refine LeO.ite ?_ ?_)
   | (with_reducible refine LeO.bind ?_ (fun _ => ?_))
   | exact ih0 _ _ _
   | exact LeO.none _
   | refine LeO.ite ?_ ?_
   | refine LeO.bind ?_ (fun _ => ?_)
theorem Rf_Sum.calls (k : Nat) (A0 : Option Addr) (c0 : Nat) (l0 : List Int) (r : Int) (w : World) (hr0 : Kd.C (Kd.int .i64) w A0 l0.length l0) (hc0 : l0.length ≤ c0) (h : Rf_Sum.f k l0 = some r) :
  Calls Tryd.prog 39 #[.slice A0 l0.length c0] w fun e w' => e = .returned (.int .i64 r) ∧ Drawn0 w w' := by
 have HR0 := m0 hr0
 have HC0 := m0 hc0
 clear hr0 hc0
 have H : (Rf_Sum.l0 k l0 0 0) = some r := h
 clear h
 have H' := m0 H
 clear H
 go_enter Tryd.func39, Tryd.ntmps39
 go_wp2
 go_loopg [3, 4] k (fun kq v3 v4 w' => ∃ (x3_1 : Int) (x4_1 : Int), v3 = .int .i64 x3_1 ∧ v4 = .int .i64 x4_1 ∧ Aside0 (Rf_Sum.l0 kq l0 x3_1 x4_1 = some r) ∧ Aside0 (kq ≤ k) ∧ Drawn0 w w')
 case atStart => exact ⟨(0), (0), (by first | rfl | (simp; done) | (simp [*]; done)), (by first | rfl | (simp; done) | (simp [*]; done)), H', ⟨Nat.le_refl _⟩, by repeat (first | exact Drawn0.refl _ | apply Drawn0.step)⟩
 case round =>
  clear H'
  obtain ⟨x3_1, x4_1, rfl, rfl, HA, HK1, ⟨m1, rfl⟩⟩ := hrel
  cases gk with
  | zero => exact absurd HA.out (by simp [Rf_Sum.l0])
  | succ k1 =>
   have H := HA.out
   clear HA
   simp only [Rf_Sum.l0] at H
   by_cases c2 : x4_1 < (l0.length : Int)
   ·rw [if_pos c2] at H
    have c2b0 := decide_eq_true c2
    clear c2
    by_cases c3 : 0 ≤ x4_1
    ·rw [if_pos c3] at H
     have c3b0 := decide_eq_true c3
     clear c3
     have H' := m0 H
     clear H
     have p468 : 0 ≤ (x4_1 : Int) := of_decide_eq_true (by first | (with_reducible assumption) | assumption)
     have q468 : x4_1 < (l0.length : Int) := of_decide_eq_true (by first | (with_reducible assumption) | assumption)
     obtain ⟨ad468, e468, hx468_0⟩ := Kd.at_int HR0.out x4_1 p468 q468
     cases e468
     replace p468 := eq_true p468
     replace q468 := eq_true q468
     go_wp2
     go_roundg k1
     case measure => have := HK1.out; omega
     case rel => exact ⟨(wrap64 (x3_1 + (rd l0 x4_1))), (wrap64 (x4_1 + 1)), (by first | rfl | (simp; done) | (simp [*]; done)), (by first | rfl | (simp; done) | (simp [*]; done)), H', ⟨by have := HK1.out; omega⟩, by repeat (first | exact Drawn0.refl _ | apply Drawn0.step)⟩
    ·rw [if_neg c3] at H
     exact absurd H (by simp)
   ·rw [if_neg c2] at H
    have c2b0 := decide_eq_false c2
    clear c2
    obtain rfl := Option.some.inj H
    go_wp2
    go_ret
    exact ⟨by first | rfl | (simp; done) | (simp [*]; done), by repeat (first | exact Drawn0.refl _ | apply Drawn0.step)⟩
end
section
def Rf_Centroid.l0 : Nat → List Int → Int → Int → Int → Int → Option (Int × Int × Bool)
 | 0, _, _, _, _, _ => none
 | k + 1, x0, x2, x8, x9, x10 => if x10 < (x0.length : Int) then (if x10 ≤ x2 then (if 0 ≤ x10 then (Rf_Centroid.l0 k x0 x2 (wrap64 (x8 + (wrap64 (x10 * (rd x0 x10))))) (wrap64 (x9 + (rd x0 x10))) (wrap64 (x10 + 1))) else (none)) else (if x9 = 0 then (some (0, 0, false)) else ((Bs_Lowest.f k x8 x9).bind fun bt472 => (some (bt472.1, bt472.2, true))))) else (if x9 = 0 then (some (0, 0, false)) else ((Bs_Lowest.f k x8 x9).bind fun bt474 => (some (bt474.1, bt474.2, true))))
def Rf_Centroid.f (k : Nat) (l0 : List Int) (a1 : Int) (a2 : Int) : Option (Int × Int × Bool) := Rf_Centroid.l0 k l0 a2 0 0 (mx 0 a1)
theorem Rf_Centroid.mono_l : ∀ k, (∀ y0 y1 y2 y3 y4, LeO (Rf_Centroid.l0 k y0 y1 y2 y3 y4) (Rf_Centroid.l0 (k + 1) y0 y1 y2 y3 y4))
 | 0 => fun _ _ _ _ _ r h => by simp [Rf_Centroid.l0] at h
 | k + 1 => by
  have ih0 := Rf_Centroid.mono_l k
  ·intro y0 y1 y2 y3 y4
   unfold Rf_Centroid.l0
   repeat' first
   | (with_reducible exact ih0 _ _ _ _ _)
   | (with_reducible exact Bs_Lowest.mono _ _ _)
   | (with_reducible exact LeO.refl _)
   | (with_reducible exact LeO.none _)
   | (with_reducible refine LeO.ite ?_ ?_)
   | (with_reducible refine LeO.bind ?_ (fun _ => ?_))
   | exact ih0 _ _ _ _ _
   | exact Bs_Lowest.mono _ _ _
   | exact LeO.none _
   | refine LeO.ite ?_ ?_
   | refine LeO.bind ?_ (fun _ => ?_)
theorem Rf_Centroid.mono : ∀ a0 a1 a2 k, LeO (Rf_Centroid.f k a0 a1 a2) (Rf_Centroid.f (k + 1) a0 a1 a2) := by
 intro a0 a1 a2 k
 have ih0 := Rf_Centroid.mono_l k
 unfold Rf_Centroid.f
 repeat' first
   | (with_reducible exact ih0 _ _ _ _ _)
   | (with_reducible exact Bs_Lowest.mono _ _ _)
   | (with_reducible exact LeO.refl _)
   | (with_reducible exact LeO.none _)
   | (with_reducible refine LeO.ite ?_ ?_)
   | (with_reducible refine LeO.bind ?_ (fun _ => ?_))
   | exact ih0 _ _ _ _ _
   | exact Bs_Lowest.mono _ _ _
   | exact LeO.none _
   | refine LeO.ite ?_ ?_
   | refine LeO.bind ?_ (fun _ => ?_)
theorem Rf_Centroid.calls (k : Nat) (A0 : Option Addr) (c0 : Nat) (l0 : List Int) (a1 : Int) (a2 : Int) (r1 : Int) (r2 : Int) (r3 : Bool) (w : World) (hr0 : Kd.C (Kd.int .i64) w A0 l0.length l0) (hc0 : l0.length ≤ c0) (h : Rf_Centroid.f k l0 a1 a2 = some (r1, r2, r3)) :
  Calls Tryd.prog 60 #[.slice A0 l0.length c0, .int .i64 a1, .int .i64 a2] w fun e w' => e = .returned (.tuple #[.agg #[.int .i64 r1, .int .i64 r2], .bool r3]) ∧ Below w.heap.size w w' := by
 have hu26 := Tryd.underlying26
 have HR0 := m0 hr0
 have HC0 := m0 hc0
 clear hr0 hc0
 have HB := m0 (Below.refl w.heap.size w)
 have H : (Rf_Centroid.l0 k l0 a2 0 0 (mx 0 a1)) = some (r1, r2, r3) := h
 clear h
 obtain ⟨ji4, hji4⟩ : ∃ j_ : Int, (mx 0 a1) = j_ := ⟨_, rfl⟩
 replace H : (Rf_Centroid.l0 k l0 a2 0 0 ji4) = some (r1, r2, r3) := by first | (rw [hji4] at H; exact H) | (simp only [hji4] at H ⊢; exact H)
 (try (have hji4l : 0 ≤ ji4 := by (rw [← hji4]; unfold mx; (repeat' split) <;> omega)))
 (try (have hji4m : 0 ≤ ji4 := by omega))
 have hji4_ : (if 0 < a1 then a1 else 0) = ji4 := hji4
 have H' := m0 H
 clear H
 go_enter Tryd.func60, Tryd.ntmps60
 go_wp2_with (first | ((with_reducible refine gate_dst (N := 6) rfl ?_); refine be 6 26 #[.int .i64 0, .int .i64 0] ?_; intro gb469 hg w5 hbox hb; have BK469 := m0 hbox; have GW469 := m0 (bg (n := w.heap.size) hg); have GE469 := m0 (bg (n := w.heap.size) hg); replace HB := sb HB hb; clear hb hbox hg))
 repeat (go_quiet (first | ((with_reducible refine gate_dst (N := 6) rfl ?_); refine be 6 26 #[.int .i64 0, .int .i64 0] ?_; intro gb469 hg w5 hbox hb; have BK469 := m0 hbox; have GW469 := m0 (bg (n := w.heap.size) hg); have GE469 := m0 (bg (n := w.heap.size) hg); replace HB := sb HB hb; clear hb hbox hg)); try go_wp2_with (first | ((with_reducible refine gate_dst (N := 6) rfl ?_); refine be 6 26 #[.int .i64 0, .int .i64 0] ?_; intro gb469 hg w5 hbox hb; have BK469 := m0 hbox; have GW469 := m0 (bg (n := w.heap.size) hg); have GE469 := m0 (bg (n := w.heap.size) hg); replace HB := sb HB hb; clear hb hbox hg)))
 go_loopg [8, 9, 10] k (fun kq v8 v9 v10 w' => ∃ (x8_1 : Int) (x9_1 : Int) (x10_1 : Int), v8 = .int .i64 x8_1 ∧ v9 = .int .i64 x9_1 ∧ v10 = .int .i64 x10_1 ∧ Aside0 (Rf_Centroid.l0 kq l0 a2 x8_1 x9_1 x10_1 = some (r1, r2, r3)) ∧ Aside0 (kq ≤ k) ∧ Aside0 (w'.heap[gb469]? = some (.cells #[.int .i64 0, .int .i64 0] 26 (0, 0))) ∧ Aside0 (Below w.heap.size w w'))
 case atStart => exact ⟨(0), (0), (ji4), (by first | rfl | (simp; done) | (simp [*]; done)), (by first | rfl | (simp; done) | (simp [*]; done)), (by first | rfl | (simp; done) | (simp only [← hji4] <;> (first | rfl | simp)) | (simp [*]; done)), H', ⟨Nat.le_refl _⟩, ⟨bk BK469.out⟩, ⟨bz⟩⟩
 case round =>
  clear H'
  try clear p2
  obtain ⟨x8_1, x9_1, x10_1, rfl, rfl, rfl, HA, HK1, BK469, HB⟩ := hrel
  cases gk with
  | zero => exact absurd HA.out (by simp [Rf_Centroid.l0])
  | succ k1 =>
   have H := HA.out
   clear HA
   simp only [Rf_Centroid.l0] at H
   by_cases c6 : x10_1 < (l0.length : Int)
   ·rw [if_pos c6] at H
    have c6b0 := decide_eq_true c6
    clear c6
    by_cases c7 : x10_1 ≤ a2
    ·rw [if_pos c7] at H
     have c7b0 := decide_eq_true c7
     clear c7
     by_cases c8 : 0 ≤ x10_1
     ·rw [if_pos c8] at H
      have c8b0 := decide_eq_true c8
      clear c8
      have H' := m0 H
      clear H
      have p470 : 0 ≤ (x10_1 : Int) := of_decide_eq_true (by first | (with_reducible assumption) | assumption)
      have q470 : x10_1 < (l0.length : Int) := of_decide_eq_true (by first | (with_reducible assumption) | assumption)
      obtain ⟨ad470, e470, hx470_0⟩ := Kd.at_int HR0.out x10_1 p470 q470
      cases e470
      replace hx470_0 := (HB.out.cell (World.block_lt_of_cell? w _ hx470_0)).trans hx470_0
      replace p470 := eq_true p470
      replace q470 := eq_true q470
      have p471 : 0 ≤ (x10_1 : Int) := of_decide_eq_true (by first | (with_reducible assumption) | assumption)
      have q471 : x10_1 < (l0.length : Int) := of_decide_eq_true (by first | (with_reducible assumption) | assumption)
      obtain ⟨ad471, e471, hx471_0⟩ := Kd.at_int HR0.out x10_1 p471 q471
      obtain rfl : ad470 = ad471 := (by injection e471)
      replace hx471_0 := (HB.out.cell (World.block_lt_of_cell? w _ hx471_0)).trans hx471_0
      replace p471 := eq_true p471
      replace q471 := eq_true q471
      go_wp2
      repeat (go_quiet (fail); try go_wp2)
      go_roundg k1
      case measure => have := HK1.out; omega
      case rel => exact ⟨(wrap64 (x8_1 + (wrap64 (x10_1 * (rd l0 x10_1))))), (wrap64 (x9_1 + (rd l0 x10_1))), (wrap64 (x10_1 + 1)), (by first | rfl | (simp; done) | (simp [*]; done)), (by first | rfl | (simp; done) | (simp [*]; done)), (by first | rfl | (simp; done) | (simp [*]; done)), H', ⟨by have := HK1.out; omega⟩, ⟨bk BK469.out⟩, ⟨bz⟩⟩
     ·rw [if_neg c8] at H
      exact absurd H (by simp)
    ·rw [if_neg c7] at H
     have c7b0 := decide_eq_false c7
     clear c7
     by_cases c9 : x9_1 = 0
     ·rw [if_pos c9] at H
      have c9b0 := beq_iff_eq.mpr c9
      have c9b1 := bne_eq_false_iff_eq.mpr c9
      clear c9
      simp only [Option.some.injEq, Prod.mk.injEq] at H
      obtain ⟨rfl, rfl, rfl⟩ := H
      obtain ⟨_, _, _, _⟩ := b2 BK469
      go_wp2
      repeat (go_quiet (fail); try go_wp2)
      refine bodyPost_ret (results_ct rfl _ _ gb469 26 #[.int .i64 0, .int .i64 0] (0, 0) _ rfl (bq BK469.out) Tryd.underlying26 rfl (by kernel_rfl)) rfl ?_
      exact ⟨by first | rfl | (simp [errW_none, errW_some] <;> rfl) | (simp only [← hji4]; first | rfl | (simp [errW_none, errW_some] <;> rfl)) | (simp [*, errW_none, errW_some] <;> rfl), by repeat (first | (with_reducible first | exact HB.out | apply below_alloc | apply pw_below_drewN | apply below_drew1 | refine below_set ?_ GE469.out) | exact HB.out)⟩
     ·rw [if_neg c9] at H
      have c9b0 := beq_eq_false_iff_ne.mpr c9
      have c9b1 := bne_iff_ne.mpr c9
      replace H := ob H
      obtain ⟨⟨t472, t473⟩, A110, H⟩ := H
      (try dsimp only at H)
      have A11 := m0 A110
      clear A110
      simp only [Option.some.injEq, Prod.mk.injEq] at H
      obtain ⟨rfl, rfl, rfl⟩ := H
      go_wp2_with (first | (go_at_call 41; (with_reducible refine (Bs_Lowest.calls k1 x8_1 x9_1 t472 t473 _ A11.out).mono ?_); rintro e w12 ⟨rfl, hb⟩; replace BK469 := bb BK469 hb; replace HB := sb HB hb; (try clear hb); obtain ⟨hcz13_0, hcz13_1, hfz13_0, hfz13_1⟩ := b2 BK469))
      repeat (go_quiet (first | (go_at_call 41; (with_reducible refine (Bs_Lowest.calls k1 x8_1 x9_1 t472 t473 _ A11.out).mono ?_); rintro e w12 ⟨rfl, hb⟩; replace BK469 := bb BK469 hb; replace HB := sb HB hb; (try clear hb); obtain ⟨hcz13_0, hcz13_1, hfz13_0, hfz13_1⟩ := b2 BK469)); try go_wp2_with (first | (go_at_call 41; (with_reducible refine (Bs_Lowest.calls k1 x8_1 x9_1 t472 t473 _ A11.out).mono ?_); rintro e w12 ⟨rfl, hb⟩; replace BK469 := bb BK469 hb; replace HB := sb HB hb; (try clear hb); obtain ⟨hcz13_0, hcz13_1, hfz13_0, hfz13_1⟩ := b2 BK469)))
      refine bodyPost_ret (results_ct rfl _ _ gb469 26 #[.int .i64 t472, .int .i64 t473] (0, 0) _ rfl (bq BK469.out) Tryd.underlying26 rfl (by kernel_rfl)) rfl ?_
      exact ⟨by first | rfl | (simp [errW_none, errW_some] <;> rfl) | (simp only [← hji4]; first | rfl | (simp [errW_none, errW_some] <;> rfl)) | (simp [*, errW_none, errW_some] <;> rfl), by repeat (first | (with_reducible first | exact HB.out | apply below_alloc | apply pw_below_drewN | apply below_drew1 | refine below_set ?_ GE469.out) | exact HB.out)⟩
   ·rw [if_neg c6] at H
    have c6b0 := decide_eq_false c6
    clear c6
    by_cases c14 : x9_1 = 0
    ·rw [if_pos c14] at H
     have c14b0 := beq_iff_eq.mpr c14
     have c14b1 := bne_eq_false_iff_eq.mpr c14
     clear c14
     simp only [Option.some.injEq, Prod.mk.injEq] at H
     obtain ⟨rfl, rfl, rfl⟩ := H
     obtain ⟨_, _, _, _⟩ := b2 BK469
     go_wp2
     repeat (go_quiet (fail); try go_wp2)
     refine bodyPost_ret (results_ct rfl _ _ gb469 26 #[.int .i64 0, .int .i64 0] (0, 0) _ rfl (bq BK469.out) Tryd.underlying26 rfl (by kernel_rfl)) rfl ?_
     exact ⟨by first | rfl | (simp [errW_none, errW_some] <;> rfl) | (simp only [← hji4]; first | rfl | (simp [errW_none, errW_some] <;> rfl)) | (simp [*, errW_none, errW_some] <;> rfl), by repeat (first | (with_reducible first | exact HB.out | apply below_alloc | apply pw_below_drewN | apply below_drew1 | refine below_set ?_ GE469.out) | exact HB.out)⟩
    ·rw [if_neg c14] at H
     have c14b0 := beq_eq_false_iff_ne.mpr c14
     have c14b1 := bne_iff_ne.mpr c14
     replace H := ob H
     obtain ⟨⟨t474, t475⟩, A160, H⟩ := H
     (try dsimp only at H)
     have A16 := m0 A160
     clear A160
     simp only [Option.some.injEq, Prod.mk.injEq] at H
     obtain ⟨rfl, rfl, rfl⟩ := H
     go_wp2_with (first | (go_at_call 41; (with_reducible refine (Bs_Lowest.calls k1 x8_1 x9_1 t474 t475 _ A16.out).mono ?_); rintro e w17 ⟨rfl, hb⟩; replace BK469 := bb BK469 hb; replace HB := sb HB hb; (try clear hb); obtain ⟨hcz18_0, hcz18_1, hfz18_0, hfz18_1⟩ := b2 BK469))
     repeat (go_quiet (first | (go_at_call 41; (with_reducible refine (Bs_Lowest.calls k1 x8_1 x9_1 t474 t475 _ A16.out).mono ?_); rintro e w17 ⟨rfl, hb⟩; replace BK469 := bb BK469 hb; replace HB := sb HB hb; (try clear hb); obtain ⟨hcz18_0, hcz18_1, hfz18_0, hfz18_1⟩ := b2 BK469)); try go_wp2_with (first | (go_at_call 41; (with_reducible refine (Bs_Lowest.calls k1 x8_1 x9_1 t474 t475 _ A16.out).mono ?_); rintro e w17 ⟨rfl, hb⟩; replace BK469 := bb BK469 hb; replace HB := sb HB hb; (try clear hb); obtain ⟨hcz18_0, hcz18_1, hfz18_0, hfz18_1⟩ := b2 BK469)))
     refine bodyPost_ret (results_ct rfl _ _ gb469 26 #[.int .i64 t474, .int .i64 t475] (0, 0) _ rfl (bq BK469.out) Tryd.underlying26 rfl (by kernel_rfl)) rfl ?_
     exact ⟨by first | rfl | (simp [errW_none, errW_some] <;> rfl) | (simp only [← hji4]; first | rfl | (simp [errW_none, errW_some] <;> rfl)) | (simp [*, errW_none, errW_some] <;> rfl), by repeat (first | (with_reducible first | exact HB.out | apply below_alloc | apply pw_below_drewN | apply below_drew1 | refine below_set ?_ GE469.out) | exact HB.out)⟩
end
section
mutual
def Rf_Peaks.l0 : Nat → List Int → List Int → Int → Option (List Int)
  | 0, _, _, _ => none
  | k + 1, x0, x3, x4 => if x4 < (x0.length : Int) then (Rf_Peaks.l1 k x0 x3 x4 true 0) else (some x3)
def Rf_Peaks.l1 : Nat → List Int → List Int → Int → Bool → Int → Option (List Int)
  | 0, _, _, _, _, _ => none
  | k + 1, x0, x3, x4, x5, x6 => if x6 < (x0.length : Int) then (if x5 = true then (if 0 ≤ x6 then (if 0 ≤ x4 then (if x4 < (x0.length : Int) then (Rf_Peaks.l1 k x0 x3 x4 (decide ((rd x0 x6) ≤ (rd x0 x4))) (wrap64 (x6 + 1))) else (none)) else (none)) else (none)) else (Rf_Peaks.l1 k x0 x3 x4 false (wrap64 (x6 + 1)))) else (if x5 = true then (if x3.length < 17592186044416 then (Rf_Peaks.l0 k x0 (x3 ++ [x4]) (wrap64 (x4 + 1))) else (none)) else (Rf_Peaks.l0 k x0 x3 (wrap64 (x4 + 1))))
end
def Rf_Peaks.f (k : Nat) (l0 : List Int) : Option (List Int) := Rf_Peaks.l0 k l0 ([] : List Int) 0
theorem Rf_Peaks.mono_l : ∀ k, (∀ y0 y1 y2, LeO (Rf_Peaks.l0 k y0 y1 y2) (Rf_Peaks.l0 (k + 1) y0 y1 y2)) ∧ (∀ y0 y1 y2 y3 y4, LeO (Rf_Peaks.l1 k y0 y1 y2 y3 y4) (Rf_Peaks.l1 (k + 1) y0 y1 y2 y3 y4))
  | 0 => ⟨fun _ _ _ r h => by simp [Rf_Peaks.l0] at h, fun _ _ _ _ _ r h => by simp [Rf_Peaks.l1] at h⟩
  | k + 1 => by
    obtain ⟨ih0, ih1⟩ := Rf_Peaks.mono_l k
    refine ⟨?_, ?_⟩
    · intro y0 y1 y2
      unfold Rf_Peaks.l0
      repeat' first
      | (with_reducible exact ih0 _ _ _)
      | (with_reducible exact ih1 _ _ _ _ _)
      | (with_reducible exact LeO.refl _)
      | (with_reducible exact LeO.none _)
      | (with_reducible refine LeO.ite ?_ ?_)
      | (with_reducible refine LeO.bind ?_ (fun _ => ?_))
      | exact ih0 _ _ _
      | exact ih1 _ _ _ _ _
      | exact LeO.none _
      | refine LeO.ite ?_ ?_
      | refine LeO.bind ?_ (fun _ => ?_)
    · intro y0 y1 y2 y3 y4
      unfold Rf_Peaks.l1
      repeat' first
      | (with_reducible exact ih0 _ _ _)
      | (with_reducible exact ih1 _ _ _ _ _)
      | (with_reducible exact LeO.refl _)
      | (with_reducible exact LeO.none _)
      | (with_reducible refine LeO.ite ?_ ?_)
      | (with_reducible refine LeO.bind ?_ (fun _ => ?_))
      | exact ih0 _ _ _
      | exact ih1 _ _ _ _ _
      | exact LeO.none _
      | refine LeO.ite ?_ ?_
      | refine LeO.bind ?_ (fun _ => ?_)
theorem Rf_Peaks.mono : ∀ a0 k, LeO (Rf_Peaks.f k a0) (Rf_Peaks.f (k + 1) a0) := by
  intro a0 k
  obtain ⟨ih0, ih1⟩ := Rf_Peaks.mono_l k
  unfold Rf_Peaks.f
  repeat' first
      | (with_reducible exact ih0 _ _ _)
      | (with_reducible exact ih1 _ _ _ _ _)
      | (with_reducible exact LeO.refl _)
      | (with_reducible exact LeO.none _)
      | (with_reducible refine LeO.ite ?_ ?_)
      | (with_reducible refine LeO.bind ?_ (fun _ => ?_))
      | exact ih0 _ _ _
      | exact ih1 _ _ _ _ _
      | exact LeO.none _
      | refine LeO.ite ?_ ?_
      | refine LeO.bind ?_ (fun _ => ?_)
theorem Rf_Peaks.calls (k : Nat) (A0 : Option Addr) (c0 : Nat) (l0 : List Int) (r : List Int) (w : World) (hr0 : Kd.C (Kd.int .i64) w A0 l0.length l0) (hc0 : l0.length ≤ c0) (h : Rf_Peaks.f k l0 = some r) :
    Calls Tryd.prog 79 #[.slice A0 l0.length c0] w fun e w' => ∃ v0_ : Value, e = .returned (v0_) ∧ Kd.R (Kd.int .i64) 3 w' w.heap.size (fun _ => True) v0_ r ∧ Below w.heap.size w w' := by
  have HR0 := m0 hr0
  have HC0 := m0 hc0
  clear hr0 hc0
  have HB := m0 (Below.refl w.heap.size w)
  have H : (Rf_Peaks.l0 k l0 ([] : List Int) 0) = some r := h
  clear h
  have H' := m0 H
  clear H
  go_enter Tryd.func79, Tryd.ntmps79
  go_wp2
  repeat (go_quiet (fail); try go_wp2)
  go_loopg [3, 4] k (fun kq v3 v4 w' => ∃ (x3_1 : List Int) (x4_1 : Int), v4 = .int .i64 x4_1 ∧ Aside0 (Rf_Peaks.l0 kq l0 x3_1 x4_1 = some r) ∧ Aside0 (kq ≤ k) ∧ Aside0 (Kd.R (Kd.int .i64) 3 w' w.heap.size (fun _ => True) v3 x3_1) ∧ Aside0 (Below w.heap.size w w'))
  case atStart => exact ⟨(([] : List Int)), (0), (by first | rfl | (simp; done) | (simp [*]; done)), H', ⟨Nat.le_refl _⟩, ⟨by first | exact Kd.R_nil _ _ _ _ _ | exact Kd.N_nil _ _ _ _ _ | exact Kd.V_nil _ _ _ _ _ | exact Kd.Q_nil _ _ _ _ _ | exact Kd.S_nil _ _ _ _ _⟩, ⟨bz⟩⟩
  case round =>
    clear H'
    obtain ⟨x3_1, x4_1, rfl, HA, HK1, HO_3, HB⟩ := hrel
    cases gk with
    | zero => exact absurd HA.out (by simp [Rf_Peaks.l0])
    | succ k1 =>
      have H := HA.out
      clear HA
      simp only [Rf_Peaks.l0] at H
      by_cases c2 : x4_1 < (l0.length : Int)
      · rw [if_pos c2] at H
        have c2b0 := decide_eq_true c2
        clear c2
        have H' := m0 H
        clear H
        go_wp2
        repeat (go_quiet (fail); try go_wp2)
        go_loopg [5, 6] k1 (fun kq v5 v6 w' => ∃ (x5_2 : Bool) (x6_2 : Int), v5 = .bool x5_2 ∧ v6 = .int .i64 x6_2 ∧ Aside0 (Rf_Peaks.l1 kq l0 x3_1 x4_1 x5_2 x6_2 = some r) ∧ Aside0 (kq ≤ k1) ∧ Aside0 (Kd.R (Kd.int .i64) 3 w' w.heap.size (fun _ => True) u3 x3_1) ∧ Aside0 (Below w.heap.size w w'))
        case atStart => exact ⟨(true), (0), (by first | rfl | (simp; done) | (simp [*]; done)), (by first | rfl | (simp; done) | (simp [*]; done)), H', ⟨Nat.le_refl _⟩, ⟨br HO_3.out⟩, ⟨bz⟩⟩
        case round =>
          clear H'
          try clear c2
          try clear c2b0
          try clear p2
          obtain ⟨x5_2, x6_2, rfl, rfl, HA, HK2, HO_3, HB⟩ := hrel
          cases gk with
          | zero => exact absurd HA.out (by simp [Rf_Peaks.l1])
          | succ k2 =>
            have H := HA.out
            clear HA
            simp only [Rf_Peaks.l1] at H
            by_cases c3 : x6_2 < (l0.length : Int)
            · rw [if_pos c3] at H
              have c3b0 := decide_eq_true c3
              clear c3
              by_cases c4 : x5_2 = true
              · subst c4
                rw [if_pos rfl] at H
                by_cases c5 : 0 ≤ x6_2
                · rw [if_pos c5] at H
                  have c5b0 := decide_eq_true c5
                  clear c5
                  by_cases c6 : 0 ≤ x4_1
                  · rw [if_pos c6] at H
                    have c6b0 := decide_eq_true c6
                    clear c6
                    by_cases c7 : x4_1 < (l0.length : Int)
                    · rw [if_pos c7] at H
                      have c7b0 := decide_eq_true c7
                      clear c7
                      have H' := m0 H
                      clear H
                      have p476 : 0 ≤ (x6_2 : Int) := of_decide_eq_true (by first | (with_reducible assumption) | assumption)
                      have q476 : x6_2 < (l0.length : Int) := of_decide_eq_true (by first | (with_reducible assumption) | assumption)
                      obtain ⟨ad476, e476, hx476_0⟩ := Kd.at_int HR0.out x6_2 p476 q476
                      cases e476
                      replace hx476_0 := (HB.out.cell (World.block_lt_of_cell? w _ hx476_0)).trans hx476_0
                      replace p476 := eq_true p476
                      replace q476 := eq_true q476
                      have p477 : 0 ≤ (x4_1 : Int) := of_decide_eq_true (by first | (with_reducible assumption) | assumption)
                      have q477 : x4_1 < (l0.length : Int) := of_decide_eq_true (by first | (with_reducible assumption) | assumption)
                      obtain ⟨ad477, e477, hx477_0⟩ := Kd.at_int HR0.out x4_1 p477 q477
                      obtain rfl : ad476 = ad477 := (by injection e477)
                      replace hx477_0 := (HB.out.cell (World.block_lt_of_cell? w _ hx477_0)).trans hx477_0
                      replace p477 := eq_true p477
                      replace q477 := eq_true q477
                      go_wp2
                      repeat (go_quiet (fail); try go_wp2)
                      go_roundg k2
                      case measure => have := HK1.out; have := HK2.out; omega
                      case rel => exact ⟨(decide ((rd l0 x6_2) ≤ (rd l0 x4_1))), (wrap64 (x6_2 + 1)), (by first | rfl | (simp; done) | (simp [*]; done)), (by first | rfl | (simp; done) | (simp [*]; done)), H', ⟨by have := HK1.out; have := HK2.out; omega⟩, ⟨br HO_3.out⟩, ⟨bz⟩⟩
                    · rw [if_neg c7] at H
                      exact absurd H (by simp)
                  · rw [if_neg c6] at H
                    exact absurd H (by simp)
                · rw [if_neg c5] at H
                  exact absurd H (by simp)
              · replace c4 := Bool.eq_false_iff.mpr c4
                subst c4
                rw [if_neg (show ¬ (false = true) by decide)] at H
                have H' := m0 H
                clear H
                go_wp2
                repeat (go_quiet (fail); try go_wp2)
                go_roundg k2
                case measure => have := HK1.out; have := HK2.out; omega
                case rel => exact ⟨(false), (wrap64 (x6_2 + 1)), (by first | rfl | (simp; done) | (simp [*]; done)), (by first | rfl | (simp; done) | (simp [*]; done)), H', ⟨by have := HK1.out; have := HK2.out; omega⟩, ⟨br HO_3.out⟩, ⟨bz⟩⟩
            · rw [if_neg c3] at H
              have c3b0 := decide_eq_false c3
              clear c3
              by_cases c8 : x5_2 = true
              · subst c8
                rw [if_pos rfl] at H
                by_cases c9 : x3_1.length < 17592186044416
                · rw [if_pos c9] at H
                  have LMc9 := m0 c9
                  clear c9
                  obtain ⟨y478, hy478⟩ : ∃ y_ : List Int, y_ = (x3_1 ++ [x4_1]) := ⟨_, rfl⟩
                  replace H : (Rf_Peaks.l0 k2 l0 y478 (wrap64 (x4_1 + 1))) = some r := by first | (rw [hy478]; with_reducible exact H) | (have H2_ := (Option.bind_some _ _).symm.trans H; rw [hy478]; with_reducible exact H2_) | (have H2_ := (Option.bind_some _ _).symm.trans H; with_reducible exact H2_) | with_reducible exact H | (rw [hy478]; exact H) | exact H
                  have Ny478 := m0 hy478
                  clear hy478
                  have H' := m0 H
                  clear H
                  go_wp2_with (first | ((with_reducible refine gate_builtin (b := .append) (xs := #[.tmp 32, .tmp 34]) rfl ?_); at_builtin; refine Kd.R_append (Kd.int .i64) (w0 := w) w.heap.size rfl (.tmp 32) (.tmp 34) 22 3 (.int .i64 0) 8 rfl Tryd.underlying22 info3 rfl (by decide) (by omega) u3 x3_1 x4_1 [.int .i64 x4_1] (fun _ => True) (fun _ => False) rfl rfl ?aP (fun _ hk => hk.elim) ?aF ?aO ?aB ?aS ?aL ?_; (case aP => exact rfl); (case aB => exact bz); (case aF => exact (fun _ _ => trivial)); (case aO => exact (br HO_3.out)); (case aS => exact (below_size bz)); (case aL => have := LMc9.out; omega); intro v479 w10 ho hb hg hat; rw [← Ny478.out] at ho; have n0_ := m0 (hb); have n1_ := m0 (ho); clear HB; clear HO_3; have HB := n0_; have HO480 := n1_; clear n0_ n1_; clear ho hb hg hat))
                  repeat (go_quiet (first | ((with_reducible refine gate_builtin (b := .append) (xs := #[.tmp 32, .tmp 34]) rfl ?_); at_builtin; refine Kd.R_append (Kd.int .i64) (w0 := w) w.heap.size rfl (.tmp 32) (.tmp 34) 22 3 (.int .i64 0) 8 rfl Tryd.underlying22 info3 rfl (by decide) (by omega) u3 x3_1 x4_1 [.int .i64 x4_1] (fun _ => True) (fun _ => False) rfl rfl ?aP (fun _ hk => hk.elim) ?aF ?aO ?aB ?aS ?aL ?_; (case aP => exact rfl); (case aB => exact bz); (case aF => exact (fun _ _ => trivial)); (case aO => exact (br HO_3.out)); (case aS => exact (below_size bz)); (case aL => have := LMc9.out; omega); intro v479 w10 ho hb hg hat; rw [← Ny478.out] at ho; have n0_ := m0 (hb); have n1_ := m0 (ho); clear HB; clear HO_3; have HB := n0_; have HO480 := n1_; clear n0_ n1_; clear ho hb hg hat)); try go_wp2_with (first | ((with_reducible refine gate_builtin (b := .append) (xs := #[.tmp 32, .tmp 34]) rfl ?_); at_builtin; refine Kd.R_append (Kd.int .i64) (w0 := w) w.heap.size rfl (.tmp 32) (.tmp 34) 22 3 (.int .i64 0) 8 rfl Tryd.underlying22 info3 rfl (by decide) (by omega) u3 x3_1 x4_1 [.int .i64 x4_1] (fun _ => True) (fun _ => False) rfl rfl ?aP (fun _ hk => hk.elim) ?aF ?aO ?aB ?aS ?aL ?_; (case aP => exact rfl); (case aB => exact bz); (case aF => exact (fun _ _ => trivial)); (case aO => exact (br HO_3.out)); (case aS => exact (below_size bz)); (case aL => have := LMc9.out; omega); intro v479 w10 ho hb hg hat; rw [← Ny478.out] at ho; have n0_ := m0 (hb); have n1_ := m0 (ho); clear HB; clear HO_3; have HB := n0_; have HO480 := n1_; clear n0_ n1_; clear ho hb hg hat)))
                  go_roundg k2
                  case measure => have := HK1.out; have := HK2.out; omega
                  case rel => exact ⟨(y478), (wrap64 (x4_1 + 1)), (by first | rfl | (simp; done) | (simp [*]; done)), H', ⟨by have := HK1.out; have := HK2.out; omega⟩, ⟨br HO480.out⟩, ⟨bz⟩⟩
                · rw [if_neg c9] at H
                  exact absurd H (by simp)
              · replace c8 := Bool.eq_false_iff.mpr c8
                subst c8
                rw [if_neg (show ¬ (false = true) by decide)] at H
                have H' := m0 H
                clear H
                go_wp2
                repeat (go_quiet (fail); try go_wp2)
                go_roundg k2
                case measure => have := HK1.out; have := HK2.out; omega
                case rel => exact ⟨(x3_1), (wrap64 (x4_1 + 1)), (by first | rfl | (simp; done) | (simp [*]; done)), H', ⟨by have := HK1.out; have := HK2.out; omega⟩, ⟨br HO_3.out⟩, ⟨bz⟩⟩
      · rw [if_neg c2] at H
        have c2b0 := decide_eq_false c2
        clear c2
        obtain rfl := Option.some.inj H
        go_wp2
        repeat (go_quiet (fail); try go_wp2)
        go_ret
        exact ⟨_, by first | rfl | (simp [errW_none, errW_some] <;> rfl) | (simp [*, errW_none, errW_some] <;> rfl), by (with_reducible repeat (first | apply Kd.R_alloc | apply Kd.R_drewN | apply Kd.R_drew)); exact HO_3.out, by repeat (first | (with_reducible first | exact HB.out | apply below_alloc | apply pw_below_drewN | apply below_drew1) | exact HB.out)⟩
end
section
def Rf_Peak.f (k : Nat) (l0 : List Int) : Option (Int) := (Rf_Peaks.f k l0).bind fun t481 => (if 0 < (t481.length : Int) then (some (rd t481 0)) else (none))
theorem Rf_Peak.mono : ∀ a0 k, LeO (Rf_Peak.f k a0) (Rf_Peak.f (k + 1) a0) := by
 intro a0 k
 unfold Rf_Peak.f
 repeat' first
   | (with_reducible exact Rf_Peaks.mono _ _)
   | (with_reducible exact LeO.refl _)
   | (with_reducible exact LeO.none _)
   | (with_reducible refine LeO.ite ?_ ?_)
   | (with_reducible refine LeO.bind ?_ (fun _ => ?_))
   | exact Rf_Peaks.mono _ _
   | exact LeO.none _
   | refine LeO.ite ?_ ?_
   | refine LeO.bind ?_ (fun _ => ?_)
theorem Rf_Peak.calls (k : Nat) (A0 : Option Addr) (c0 : Nat) (l0 : List Int) (r : Int) (w : World) (hr0 : Kd.C (Kd.int .i64) w A0 l0.length l0) (hc0 : l0.length ≤ c0) (h : Rf_Peak.f k l0 = some r) :
  Calls Tryd.prog 61 #[.slice A0 l0.length c0] w fun e w' => e = .returned (.int .i64 r) ∧ Below w.heap.size w w' := by
 have HR0 := m0 hr0
 have HC0 := m0 hc0
 clear hr0 hc0
 have HB := m0 (Below.refl w.heap.size w)
 have H : ((Rf_Peaks.f k l0).bind fun t481 => (if 0 < (t481.length : Int) then (some (rd t481 0)) else (none))) = some r := h
 clear h
 replace H := ob H
 obtain ⟨t481, A20, H⟩ := H
 (try dsimp only at H)
 have A2 := m0 A20
 clear A20
 by_cases c3 : 0 < (t481.length : Int)
 ·rw [if_pos c3] at H
  have c3b0 := decide_eq_true c3
  have c3b1 : decide (0 < t481.length) = true := decide_eq_true (by omega)
  clear c3
  obtain rfl := Option.some.inj H
  go_enter Tryd.func61, Tryd.ntmps61
  go_wp2_with (first | ((with_reducible refine gate_callee (f := 79) rfl ?_); refine gl (some 4) Tryd.func79 #[.slice A0 l0.length c0] ?_; (with_reducible refine (Rf_Peaks.calls k _ _ l0 t481 _ ?side1 ?side2 A2.out).mono ?_); (case side1 => repeat (first | exact HR0.out | (with_reducible refine Kd.C_alloc ?_ _) | (with_reducible refine Kd.C_drewN ?_ _) | (with_reducible refine Kd.C_drew ?_))); (case side2 => exact HC0.out); rintro e w4 ⟨v482, rfl, ho0, hb⟩; refine ⟨_, rfl, ?_⟩; have HO483 := m0 (Kd.R_lower ho0 (below_size bz)); replace HB := sb HB hb; (try clear hb); (try clear ho0); obtain ⟨Ao5, co5, eo5⟩ := Kd.R_slice HO483.out; subst eo5; have p484 : 0 ≤ (0 : Int) := (by omega); have q484 : 0 < (t481.length : Int) := of_decide_eq_true (by first | (with_reducible assumption) | assumption); obtain ⟨ad484, e484, hx484_0⟩ := Kd.at_int (Kd.R_reads' HO483.out).2.2 0 p484 q484; cases e484; have qi484 : (0 < t481.length) = True := eq_true (by omega); (try rw [show ((0 : Int)).toNat = 0 from rfl] at hx484_0); (try rw [Addr.add_zero'] at hx484_0); replace p484 := eq_true p484; replace q484 := eq_true q484))
  go_ret
  exact ez
 ·rw [if_neg c3] at H
  exact absurd H (by simp)
end
end Go.Proofs.YtjnkphmcndaijaaDoor.A
