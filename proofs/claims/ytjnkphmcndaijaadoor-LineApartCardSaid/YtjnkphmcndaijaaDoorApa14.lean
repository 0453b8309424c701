/- Walks of the program's functions (printed, made shorter), each with what it computes. -/
import Derived.Test.YtjnkphmcndaijaaDoorApa04
import Derived.Test.YtjnkphmcndaijaaDoorApa13
import Derived.Test.YtjnkphmcndaijaaDoorApa03
namespace Go.Proofs.YtjnkphmcndaijaaDoor.A
open Go.RowKit Go.Proofs.YtjnkphmcndaijaaDoorW.PrintWords Go.Proofs.YtjnkphmcndaijaaDoorW.PrintLast Go.Proofs.YtjnkphmcndaijaaDoorW.PrintMore
attribute [local go_sem] max2_int min2_int max_two min_two max_three min_three max_four min_four
set_option linter.unusedVariables false
set_option linter.unusedSimpArgs false
section
def glidepathref02_RuleErr.f (a0_0 : Int) (a0_1 : Int) : Option (Int) := (glidepathref02_ThresholdErr.f a0_0).bind fun t683 => (if t683 = 0 then ((glidepathbase_Within.f a0_1 0 16).bind fun t684 => (if t684 = true then (some 0) else (some 2))) else (some t683))
set_option maxHeartbeats 8000000 in
set_option maxRecDepth 100000 in
theorem glidepathref02_RuleErr.calls (a0_0 : Int) (a0_1 : Int) (r : Int) (w : World) (h : glidepathref02_RuleErr.f a0_0 a0_1 = some r) :
  Calls Tryd.prog 42 #[.agg #[.int .i64 a0_0, .int .i64 a0_1]] w fun e w' => e = .returned (.int .i64 r) ∧ Below w.heap.size w w' := by
 have hu57 := Tryd.underlying57
 have HB := Aside0.mk (Below.refl w.heap.size w)
 have H : ((glidepathref02_ThresholdErr.f a0_0).bind fun t683 => (if t683 = 0 then ((glidepathbase_Within.f a0_1 0 16).bind fun t684 => (if t684 = true then (some 0) else (some 2))) else (some t683))) = some r := h
 clear h
 replace H := Option.bind_eq_some_iff.mp H
 obtain ⟨t683, A20, H⟩ := H
 (try dsimp only at H)
 have A2 := Aside0.mk A20
 clear A20
 by_cases c3 : t683 = 0
 ·rw [if_pos c3] at H
  have c3b0 := beq_iff_eq.mpr c3
  have c3b1 := bne_eq_false_iff_eq.mpr c3
  clear c3
  replace H := Option.bind_eq_some_iff.mp H
  obtain ⟨t684, A40, H⟩ := H
  (try dsimp only at H)
  have A4 := Aside0.mk A40
  clear A40
  by_cases c5 : t684 = true
  ·subst c5
   rw [if_pos rfl] at H
   obtain rfl := Option.some.inj H
   go_enter Tryd.func42, Tryd.ntmps42
   go_wp2_with (first | ((with_reducible refine gate_dst (N := 1) rfl ?_); refine be 1 57 #[.int .i64 a0_0, .int .i64 a0_1] ?_; intro gb682 hg w6 hbox hb; have BK682 := Aside0.mk hbox; have GW682 := Aside0.mk (bg (n := w.heap.size) hg); have GE682 := Aside0.mk (bg (n := w.heap.size) hg); replace HB := sb HB hb; clear hb hbox hg; obtain ⟨_, _, _, _⟩ := b2 BK682) | ((with_reducible refine gate_callee (f := 28) rfl ?_); refine gl (some 6) Tryd.func28 #[.int .i64 a0_0] ?_; (with_reducible refine (glidepathref02_ThresholdErr.calls a0_0 t683 _ A2.out).mono ?_); rintro e w' ⟨rfl, ⟨nd, rfl⟩⟩; refine ⟨_, rfl, ?_⟩) | ((with_reducible refine gate_callee (f := 31) rfl ?_); refine gl (some 12) Tryd.func31 #[.int .i64 a0_1, .int .i64 0, .int .i64 16] ?_; (with_reducible refine (glidepathbase_Within.calls a0_1 0 16 true _ A4.out).mono ?_); rintro e w' ⟨rfl, ⟨nd, rfl⟩⟩; refine ⟨_, rfl, ?_⟩))
   go_ret
   exact ez
  ·replace c5 := Bool.eq_false_iff.mpr c5
   subst c5
   rw [if_neg (show ¬ (false = true) by decide)] at H
   obtain rfl := Option.some.inj H
   go_enter Tryd.func42, Tryd.ntmps42
   go_wp2_with (first | ((with_reducible refine gate_dst (N := 1) rfl ?_); refine be 1 57 #[.int .i64 a0_0, .int .i64 a0_1] ?_; intro gb682 hg w8 hbox hb; have BK682 := Aside0.mk hbox; have GW682 := Aside0.mk (bg (n := w.heap.size) hg); have GE682 := Aside0.mk (bg (n := w.heap.size) hg); replace HB := sb HB hb; clear hb hbox hg; obtain ⟨_, _, _, _⟩ := b2 BK682) | ((with_reducible refine gate_callee (f := 28) rfl ?_); refine gl (some 6) Tryd.func28 #[.int .i64 a0_0] ?_; (with_reducible refine (glidepathref02_ThresholdErr.calls a0_0 t683 _ A2.out).mono ?_); rintro e w' ⟨rfl, ⟨nd, rfl⟩⟩; refine ⟨_, rfl, ?_⟩) | ((with_reducible refine gate_callee (f := 31) rfl ?_); refine gl (some 12) Tryd.func31 #[.int .i64 a0_1, .int .i64 0, .int .i64 16] ?_; (with_reducible refine (glidepathbase_Within.calls a0_1 0 16 false _ A4.out).mono ?_); rintro e w' ⟨rfl, ⟨nd, rfl⟩⟩; refine ⟨_, rfl, ?_⟩))
   go_ret
   exact ez
 ·rw [if_neg c3] at H
  have c3b0 := beq_eq_false_iff_ne.mpr c3
  have c3b1 := bne_iff_ne.mpr c3
  obtain rfl := Option.some.inj H
  go_enter Tryd.func42, Tryd.ntmps42
  go_wp2_with (first | ((with_reducible refine gate_dst (N := 1) rfl ?_); refine be 1 57 #[.int .i64 a0_0, .int .i64 a0_1] ?_; intro gb682 hg w10 hbox hb; have BK682 := Aside0.mk hbox; have GW682 := Aside0.mk (bg (n := w.heap.size) hg); have GE682 := Aside0.mk (bg (n := w.heap.size) hg); replace HB := sb HB hb; clear hb hbox hg; obtain ⟨_, _, _, _⟩ := b2 BK682) | ((with_reducible refine gate_callee (f := 28) rfl ?_); refine gl (some 6) Tryd.func28 #[.int .i64 a0_0] ?_; (with_reducible refine (glidepathref02_ThresholdErr.calls a0_0 t683 _ A2.out).mono ?_); rintro e w' ⟨rfl, ⟨nd, rfl⟩⟩; refine ⟨_, rfl, ?_⟩))
  go_ret
  exact ez
end
section
def glidepathbase_Has.l0 : Nat → List Int → Int → Int → Option (Bool)
 | 0, _, _, _ => none
 | k + 1, x0, x1, x5 => if x5 < (x0.length : Int) then (if 0 ≤ x5 then (if (rd x0 x5) = x1 then (some true) else (glidepathbase_Has.l0 k x0 x1 (wrap64 (x5 + 1)))) else (none)) else (some false)
def glidepathbase_Has.f (k : Nat) (l0 : List Int) (a1 : Int) : Option (Bool) := glidepathbase_Has.l0 k l0 a1 0
theorem glidepathbase_Has.mono_l : ∀ k, (∀ y0 y1 y2, LeO (glidepathbase_Has.l0 k y0 y1 y2) (glidepathbase_Has.l0 (k + 1) y0 y1 y2))
 | 0 => fun _ _ _ r h => by simp [glidepathbase_Has.l0] at h
 | k + 1 => by
  have ih0 := glidepathbase_Has.mono_l k
  ·intro y0 y1 y2
   unfold glidepathbase_Has.l0
   repeat' first
   | (with_reducible exact ih0 _ _ _)
   | (with_reducible exact LeO.refl _)
   | (with_reducible exact LeO.none _)
   | (with_reducible refine LeO.ite ?_ ?_)
   | (with_reducible refine LeO.bind ?_ (fun _ => ?_))
   | exact ih0 _ _ _
   | exact LeO.none _
   | refine LeO.ite ?_ ?_
   | refine LeO.bind ?_ (fun _ => ?_)
theorem glidepathbase_Has.mono : ∀ a0 a1 k, LeO (glidepathbase_Has.f k a0 a1) (glidepathbase_Has.f (k + 1) a0 a1) := by
 intro a0 a1 k
 have ih0 := glidepathbase_Has.mono_l k
 unfold glidepathbase_Has.f
 repeat' first
   | (with_reducible exact ih0 _ _ _)
   | (with_reducible exact LeO.refl _)
   | (with_reducible exact LeO.none _)
   | (with_reducible refine LeO.ite ?_ ?_)
   | (with_reducible refine LeO.bind ?_ (fun _ => ?_))
   | exact ih0 _ _ _
   | exact LeO.none _
   | refine LeO.ite ?_ ?_
   | refine LeO.bind ?_ (fun _ => ?_)
set_option maxHeartbeats 8000000 in
set_option maxRecDepth 100000 in
theorem glidepathbase_Has.calls (k : Nat) (A0 : Option Addr) (c0 : Nat) (l0 : List Int) (a1 : Int) (r : Bool) (w : World) (hr0 : Kd.C (Kd.int .i64) w A0 l0.length l0) (hc0 : l0.length ≤ c0) (h : glidepathbase_Has.f k l0 a1 = some r) :
  Calls Tryd.prog 44 #[.slice A0 l0.length c0, .int .i64 a1] w fun e w' => e = .returned (.bool r) ∧ Drawn0 w w' := by
 have HR0 := Aside0.mk hr0
 have HC0 := Aside0.mk hc0
 clear hr0 hc0
 have H : (glidepathbase_Has.l0 k l0 a1 0) = some r := h
 clear h
 have H' := Aside0.mk H
 clear H
 go_enter Tryd.func44, Tryd.ntmps44
 go_wp2
 go_loopg [5] k (fun kq v5 w' => ∃ (x5_1 : Int), v5 = .int .i64 x5_1 ∧ Aside0 (glidepathbase_Has.l0 kq l0 a1 x5_1 = some r) ∧ Aside0 (kq ≤ k) ∧ Drawn0 w w')
 case atStart => exact ⟨(0), (by first | rfl | (simp; done) | (simp [*]; done)), H', ⟨Nat.le_refl _⟩, by repeat (first | exact Drawn0.refl _ | apply Drawn0.step)⟩
 case round =>
  clear H'
  try clear p2
  obtain ⟨x5_1, rfl, HA, HK1, ⟨m1, rfl⟩⟩ := hrel
  cases gk with
  | zero => exact absurd HA.out (by simp [glidepathbase_Has.l0])
  | succ k1 =>
   have H := HA.out
   clear HA
   simp only [glidepathbase_Has.l0] at H
   by_cases c3 : x5_1 < (l0.length : Int)
   ·rw [if_pos c3] at H
    have c3b0 := decide_eq_true c3
    clear c3
    by_cases c4 : 0 ≤ x5_1
    ·rw [if_pos c4] at H
     have c4b0 := decide_eq_true c4
     clear c4
     by_cases c5 : (rd l0 x5_1) = a1
     ·rw [if_pos c5] at H
      have c5b0 := beq_iff_eq.mpr c5
      have c5b1 := bne_eq_false_iff_eq.mpr c5
      clear c5
      obtain rfl := Option.some.inj H
      have p685 : 0 ≤ (x5_1 : Int) := of_decide_eq_true (by first | (with_reducible assumption) | assumption)
      have q685 : x5_1 < (l0.length : Int) := of_decide_eq_true (by first | (with_reducible assumption) | assumption)
      obtain ⟨ad685, e685, hx685_0⟩ := Kd.at_int HR0.out x5_1 p685 q685
      cases e685
      replace p685 := eq_true p685
      replace q685 := eq_true q685
      go_wp2
      go_ret
      exact ⟨by first | rfl | (simp; done) | (simp [*]; done), by repeat (first | exact Drawn0.refl _ | apply Drawn0.step)⟩
     ·rw [if_neg c5] at H
      have c5b0 := beq_eq_false_iff_ne.mpr c5
      have c5b1 := bne_iff_ne.mpr c5
      have H' := Aside0.mk H
      clear H
      have p685 : 0 ≤ (x5_1 : Int) := of_decide_eq_true (by first | (with_reducible assumption) | assumption)
      have q685 : x5_1 < (l0.length : Int) := of_decide_eq_true (by first | (with_reducible assumption) | assumption)
      obtain ⟨ad685, e685, hx685_0⟩ := Kd.at_int HR0.out x5_1 p685 q685
      cases e685
      replace p685 := eq_true p685
      replace q685 := eq_true q685
      go_wp2
      go_roundg k1
      case measure => have := HK1.out; omega
      case rel => exact ⟨(wrap64 (x5_1 + 1)), (by first | rfl | (simp; done) | (simp [*]; done)), H', ⟨by have := HK1.out; omega⟩, by repeat (first | exact Drawn0.refl _ | apply Drawn0.step)⟩
    ·rw [if_neg c4] at H
     exact absurd H (by simp)
   ·rw [if_neg c3] at H
    have c3b0 := decide_eq_false c3
    clear c3
    obtain rfl := Option.some.inj H
    go_wp2
    go_ret
    exact ⟨by first | rfl | (simp; done) | (simp [*]; done), by repeat (first | exact Drawn0.refl _ | apply Drawn0.step)⟩
end
end Go.Proofs.YtjnkphmcndaijaaDoor.A
