/- Walks of the program's functions (printed, made shorter), each with what it computes. -/
import Derived.Test.YtjnkphmcndaijaaDoorCas04
import Derived.Test.YtjnkphmcndaijaaDoorCas13
import Derived.Test.YtjnkphmcndaijaaDoorCas03
import Derived.Test.YtjnkphmcndaijaaDoorCas10
namespace Go.Proofs.YtjnkphmcndaijaaDoor.A
open Go.RowKit Go.Proofs.YtjnkphmcndaijaaDoorW.PrintWords Go.Proofs.YtjnkphmcndaijaaDoorW.PrintLast Go.Proofs.YtjnkphmcndaijaaDoorW.PrintMore
attribute [local go_sem] max2_int min2_int max_two min_two max_three min_three max_four min_four
set_option linter.unusedVariables false
set_option linter.unusedSimpArgs false
section
def glidepathref02_CheckSpectrum.l0 : Nat → List Int → Int → Option (Int × Int)
  | 0, _, _ => none
  | k + 1, x0, x4 => if x4 < (x0.length : Int) then (if 0 ≤ x4 then ((glidepathbase_Within.f (rd x0 x4) 0 10000).bind fun t408 => (if t408 = true then (glidepathref02_CheckSpectrum.l0 k x0 (wrap64 (x4 + 1))) else (some (x4, 2)))) else (none)) else (some (0, 0))
def glidepathref02_CheckSpectrum.f (k : Nat) (l0 : List Int) : Option (Int × Int) := if (l0.length : Int) = 0 then (some (0, 10)) else (if (l0.length : Int) > 16 then (some (0, 8)) else (glidepathref02_CheckSpectrum.l0 k l0 0))
theorem glidepathref02_CheckSpectrum.mono_l : ∀ k, (∀ y0 y1, LeO (glidepathref02_CheckSpectrum.l0 k y0 y1) (glidepathref02_CheckSpectrum.l0 (k + 1) y0 y1))
  | 0 => fun _ _ r h => by simp [glidepathref02_CheckSpectrum.l0] at h
  | k + 1 => by
    have ih0 := glidepathref02_CheckSpectrum.mono_l k
    · intro y0 y1
      unfold glidepathref02_CheckSpectrum.l0
      repeat' first
      | (with_reducible exact ih0 _ _)
      | (with_reducible exact LeO.refl _)
      | (with_reducible exact LeO.none _)
      | (with_reducible refine LeO.ite ?_ ?_)
      | (with_reducible refine LeO.bind ?_ (fun _ => ?_))
      | exact ih0 _ _
      | exact LeO.none _
      | refine LeO.ite ?_ ?_
      | refine LeO.bind ?_ (fun _ => ?_)
theorem glidepathref02_CheckSpectrum.mono : ∀ a0 k, LeO (glidepathref02_CheckSpectrum.f k a0) (glidepathref02_CheckSpectrum.f (k + 1) a0) := by
  intro a0 k
  have ih0 := glidepathref02_CheckSpectrum.mono_l k
  unfold glidepathref02_CheckSpectrum.f
  repeat' first
      | (with_reducible exact ih0 _ _)
      | (with_reducible exact LeO.refl _)
      | (with_reducible exact LeO.none _)
      | (with_reducible refine LeO.ite ?_ ?_)
      | (with_reducible refine LeO.bind ?_ (fun _ => ?_))
      | exact ih0 _ _
      | exact LeO.none _
      | refine LeO.ite ?_ ?_
      | refine LeO.bind ?_ (fun _ => ?_)
set_option maxHeartbeats 8000000 in
set_option maxRecDepth 100000 in
theorem glidepathref02_CheckSpectrum.calls (k : Nat) (A0 : Option Addr) (c0 : Nat) (l0 : List Int) (r1 : Int) (r2 : Int) (w : World) (hr0 : Kd.C (Kd.int .i64) w A0 l0.length l0) (hc0 : l0.length ≤ c0) (h : glidepathref02_CheckSpectrum.f k l0 = some (r1, r2)) :
    Calls Tryd.prog 78 #[.slice A0 l0.length c0] w fun e w' => e = .returned (.tuple #[.int .i64 r1, .int .i64 r2]) ∧ Drawn0 w w' := by
  have HR0 := Aside0.mk hr0
  have HC0 := Aside0.mk hc0
  clear hr0 hc0
  have H : (if (l0.length : Int) = 0 then (some (0, 10)) else (if (l0.length : Int) > 16 then (some (0, 8)) else (glidepathref02_CheckSpectrum.l0 k l0 0))) = some (r1, r2) := h
  clear h
  by_cases c2 : (l0.length : Int) = 0
  · rw [if_pos c2] at H
    have c2b0 := beq_iff_eq.mpr c2
    have c2b1 := bne_eq_false_iff_eq.mpr c2
    clear c2
    simp only [Option.some.injEq, Prod.mk.injEq] at H
    obtain ⟨rfl, rfl⟩ := H
    go_enter Tryd.func78, Tryd.ntmps78
    go_wp2
    go_ret2
    exact ⟨by first | rfl | (simp; done) | (simp [*]; done), by repeat (first | exact Drawn0.refl _ | apply Drawn0.step)⟩
  · rw [if_neg c2] at H
    have c2b0 := beq_eq_false_iff_ne.mpr c2
    have c2b1 := bne_iff_ne.mpr c2
    have c2b2 : ¬ (l0 = []) := fun h_ => c2 (by rw [h_]; rfl)
    by_cases c3 : (l0.length : Int) > 16
    · rw [if_pos c3] at H
      have c3b0 := decide_eq_true c3
      have c3b1 : decide (16 < l0.length) = true := decide_eq_true (by omega)
      clear c3
      simp only [Option.some.injEq, Prod.mk.injEq] at H
      obtain ⟨rfl, rfl⟩ := H
      go_enter Tryd.func78, Tryd.ntmps78
      go_wp2
      go_ret2
      exact ⟨by first | rfl | (simp; done) | (simp [*]; done), by repeat (first | exact Drawn0.refl _ | apply Drawn0.step)⟩
    · rw [if_neg c3] at H
      have c3b0 := decide_eq_false c3
      have c3b1 : decide (16 < l0.length) = false := decide_eq_false (by omega)
      clear c3
      have H' := Aside0.mk H
      clear H
      go_enter Tryd.func78, Tryd.ntmps78
      go_wp2
      go_loopg [4] k (fun kq v4 w' => ∃ (x4_1 : Int), v4 = .int .i64 x4_1 ∧ Aside0 (glidepathref02_CheckSpectrum.l0 kq l0 x4_1 = some (r1, r2)) ∧ Aside0 (kq ≤ k) ∧ Drawn0 w w')
      case atStart => exact ⟨(0), (by first | rfl | (simp; done) | (simp [*]; done)), H', ⟨Nat.le_refl _⟩, by repeat (first | exact Drawn0.refl _ | apply Drawn0.step)⟩
      case round =>
        clear H'
        try clear c2
        try clear c2b0
        try clear c2b1
        try clear c2b2
        try clear p2
        try clear c3
        try clear c3b0
        try clear c3b1
        obtain ⟨x4_1, rfl, HA, HK1, ⟨m1, rfl⟩⟩ := hrel
        cases gk with
        | zero => exact absurd HA.out (by simp [glidepathref02_CheckSpectrum.l0])
        | succ k1 =>
          have H := HA.out
          clear HA
          simp only [glidepathref02_CheckSpectrum.l0] at H
          by_cases c4 : x4_1 < (l0.length : Int)
          · rw [if_pos c4] at H
            have c4b0 := decide_eq_true c4
            clear c4
            by_cases c5 : 0 ≤ x4_1
            · rw [if_pos c5] at H
              have c5b0 := decide_eq_true c5
              clear c5
              replace H := Option.bind_eq_some_iff.mp H
              obtain ⟨t408, A60, H⟩ := H
              (try dsimp only at H)
              have A6 := Aside0.mk A60
              clear A60
              by_cases c7 : t408 = true
              · subst c7
                rw [if_pos rfl] at H
                have H' := Aside0.mk H
                clear H
                have p407 : 0 ≤ (x4_1 : Int) := of_decide_eq_true (by first | (with_reducible assumption) | assumption)
                have q407 : x4_1 < (l0.length : Int) := of_decide_eq_true (by first | (with_reducible assumption) | assumption)
                obtain ⟨ad407, e407, hx407_0⟩ := Kd.at_int HR0.out x4_1 p407 q407
                cases e407
                replace p407 := eq_true p407
                replace q407 := eq_true q407
                go_wp2_with (first | ((with_reducible refine gate_callee (f := 31) rfl ?_); refine gl (some 21) Tryd.func31 #[.int .i64 (rd l0 x4_1), .int .i64 0, .int .i64 10000] ?_; (with_reducible refine (glidepathbase_Within.calls (rd l0 x4_1) 0 10000 true _ A6.out).mono ?_); rintro e w' ⟨rfl, ⟨nd, rfl⟩⟩; refine ⟨_, rfl, ?_⟩))
                go_roundg k1
                case measure => have := HK1.out; omega
                case rel => exact ⟨(wrap64 (x4_1 + 1)), (by first | rfl | (simp; done) | (simp [*]; done)), H', ⟨by have := HK1.out; omega⟩, by repeat (first | exact Drawn0.refl _ | apply Drawn0.step)⟩
              · replace c7 := Bool.eq_false_iff.mpr c7
                subst c7
                rw [if_neg (show ¬ (false = true) by decide)] at H
                simp only [Option.some.injEq, Prod.mk.injEq] at H
                obtain ⟨rfl, rfl⟩ := H
                have p407 : 0 ≤ (x4_1 : Int) := of_decide_eq_true (by first | (with_reducible assumption) | assumption)
                have q407 : x4_1 < (l0.length : Int) := of_decide_eq_true (by first | (with_reducible assumption) | assumption)
                obtain ⟨ad407, e407, hx407_0⟩ := Kd.at_int HR0.out x4_1 p407 q407
                cases e407
                replace p407 := eq_true p407
                replace q407 := eq_true q407
                go_wp2_with (first | ((with_reducible refine gate_callee (f := 31) rfl ?_); refine gl (some 21) Tryd.func31 #[.int .i64 (rd l0 x4_1), .int .i64 0, .int .i64 10000] ?_; (with_reducible refine (glidepathbase_Within.calls (rd l0 x4_1) 0 10000 false _ A6.out).mono ?_); rintro e w' ⟨rfl, ⟨nd, rfl⟩⟩; refine ⟨_, rfl, ?_⟩))
                go_ret2
                exact ⟨by first | rfl | (simp; done) | (simp [*]; done), by repeat (first | exact Drawn0.refl _ | apply Drawn0.step)⟩
            · rw [if_neg c5] at H
              exact absurd H (by simp)
          · rw [if_neg c4] at H
            have c4b0 := decide_eq_false c4
            clear c4
            simp only [Option.some.injEq, Prod.mk.injEq] at H
            obtain ⟨rfl, rfl⟩ := H
            go_wp2
            go_ret2
            exact ⟨by first | rfl | (simp; done) | (simp [*]; done), by repeat (first | exact Drawn0.refl _ | apply Drawn0.step)⟩
end
section
def glidepathref02_SpectrumErr.f (k : Nat) (l0 : List Int) : Option (Int) := (glidepathref02_CheckSpectrum.f k l0).bind fun bt409 => (some bt409.2)
theorem glidepathref02_SpectrumErr.mono : ∀ a0 k, LeO (glidepathref02_SpectrumErr.f k a0) (glidepathref02_SpectrumErr.f (k + 1) a0) := by
 intro a0 k
 unfold glidepathref02_SpectrumErr.f
 repeat' first
   | (with_reducible exact glidepathref02_CheckSpectrum.mono _ _)
   | (with_reducible exact LeO.refl _)
   | (with_reducible exact LeO.none _)
   | (with_reducible refine LeO.ite ?_ ?_)
   | (with_reducible refine LeO.bind ?_ (fun _ => ?_))
   | exact glidepathref02_CheckSpectrum.mono _ _
   | exact LeO.none _
   | refine LeO.ite ?_ ?_
   | refine LeO.bind ?_ (fun _ => ?_)
set_option maxHeartbeats 8000000 in
set_option maxRecDepth 100000 in
theorem glidepathref02_SpectrumErr.calls (k : Nat) (A0 : Option Addr) (c0 : Nat) (l0 : List Int) (r : Int) (w : World) (hr0 : Kd.C (Kd.int .i64) w A0 l0.length l0) (hc0 : l0.length ≤ c0) (h : glidepathref02_SpectrumErr.f k l0 = some r) :
  Calls Tryd.prog 30 #[.slice A0 l0.length c0] w fun e w' => e = .returned (.int .i64 r) ∧ Drawn0 w w' := by
 have HR0 := Aside0.mk hr0
 have HC0 := Aside0.mk hc0
 clear hr0 hc0
 have H : ((glidepathref02_CheckSpectrum.f k l0).bind fun bt409 => (some bt409.2)) = some r := h
 clear h
 replace H := Option.bind_eq_some_iff.mp H
 obtain ⟨⟨t409, t410⟩, A20, H⟩ := H
 (try dsimp only at H)
 have A2 := Aside0.mk A20
 clear A20
 obtain rfl := Option.some.inj H
 go_enter Tryd.func30, Tryd.ntmps30
 go_wp2_with (first | ((with_reducible refine gate_callee (f := 78) rfl ?_); refine gl (some 7) Tryd.func78 #[.slice A0 l0.length c0] ?_; (with_reducible refine (glidepathref02_CheckSpectrum.calls k _ _ l0 t409 t410 _ ?side1 ?side2 A2.out).mono ?_); (case side1 => repeat (first | exact HR0.out | (with_reducible refine Kd.C_alloc ?_ _) | (with_reducible refine Kd.C_drewN ?_ _) | (with_reducible refine Kd.C_drew ?_))); (case side2 => exact HC0.out); rintro e w' ⟨rfl, ⟨nd, rfl⟩⟩; refine ⟨_, rfl, ?_⟩))
 go_ret
 exact ⟨by first | rfl | (simp; done) | (simp [*]; done), by repeat (first | exact Drawn0.refl _ | apply Drawn0.step)⟩
end
section
def glidepathref02_NoiseErr.f (k : Nat) (l0_0 : List Int) : Option (Int) := (glidepathref02_CheckNoise.f k l0_0).bind fun bt416 => (some bt416.2)
theorem glidepathref02_NoiseErr.mono : ∀ a0 k, LeO (glidepathref02_NoiseErr.f k a0) (glidepathref02_NoiseErr.f (k + 1) a0) := by
 intro a0 k
 unfold glidepathref02_NoiseErr.f
 repeat' first
   | (with_reducible exact glidepathref02_CheckNoise.mono _ _)
   | (with_reducible exact LeO.refl _)
   | (with_reducible exact LeO.none _)
   | (with_reducible refine LeO.ite ?_ ?_)
   | (with_reducible refine LeO.bind ?_ (fun _ => ?_))
   | exact glidepathref02_CheckNoise.mono _ _
   | exact LeO.none _
   | refine LeO.ite ?_ ?_
   | refine LeO.bind ?_ (fun _ => ?_)
set_option maxHeartbeats 8000000 in
set_option maxRecDepth 100000 in
theorem glidepathref02_NoiseErr.calls (k : Nat) (A0_0 : Option Addr) (c0_0 : Nat) (l0_0 : List Int) (r : Int) (w : World) (hr0_0 : Kd.C (Kd.int .i64) w A0_0 l0_0.length l0_0) (hc0_0 : l0_0.length ≤ c0_0) (h : glidepathref02_NoiseErr.f k l0_0 = some r) :
  Calls Tryd.prog 82 #[.agg #[.slice A0_0 l0_0.length c0_0]] w fun e w' => e = .returned (.int .i64 r) ∧ Below w.heap.size w w' := by
 have hu24 := Tryd.underlying24
 have HR0_0 := Aside0.mk hr0_0
 have HC0_0 := Aside0.mk hc0_0
 clear hr0_0 hc0_0
 have HB := Aside0.mk (Below.refl w.heap.size w)
 have H : ((glidepathref02_CheckNoise.f k l0_0).bind fun bt416 => (some bt416.2)) = some r := h
 clear h
 replace H := Option.bind_eq_some_iff.mp H
 obtain ⟨⟨t416, t417⟩, A20, H⟩ := H
 (try dsimp only at H)
 have A2 := Aside0.mk A20
 clear A20
 obtain rfl := Option.some.inj H
 go_enter Tryd.func82, Tryd.ntmps82
 go_wp2_with (first | ((with_reducible refine gate_dst (N := 1) rfl ?_); refine be 1 24 #[.slice A0_0 l0_0.length c0_0] ?_; intro gb415 hg w3 hbox hb; have BK415 := Aside0.mk hbox; have GW415 := Aside0.mk (bg (n := w.heap.size) hg); have GE415 := Aside0.mk (bg (n := w.heap.size) hg); replace HB := sb HB hb; clear hb hbox hg; obtain ⟨_, _⟩ := b1 BK415) | ((with_reducible refine gate_callee (f := 55) rfl ?_); refine gl (some 7) Tryd.func55 #[.agg #[.slice A0_0 l0_0.length c0_0]] ?_; (with_reducible refine (glidepathref02_CheckNoise.calls k _ _ l0_0 t416 t417 _ ?side1 ?side2 A2.out).mono ?_); (case side1 => exact bc (Kd.C_below HR0_0.out HB.out)); (case side2 => exact HC0_0.out); rintro e w5 ⟨rfl, hb⟩; refine ⟨_, rfl, ?_⟩; replace BK415 := bb BK415 hb; replace HB := sb HB hb; (try clear hb)))
 go_ret
 exact ez
end
section
def glidepathbase_IsLowest.f (k : Nat) (a0_0 : Int) (a0_1 : Int) : Option (Bool) := if a0_1 > 0 then ((glidepathbase_Gcd.f k a0_0 a0_1).bind fun t419 => (some (t419 == 1))) else (some false)
theorem glidepathbase_IsLowest.mono : ∀ a0 a1 k, LeO (glidepathbase_IsLowest.f k a0 a1) (glidepathbase_IsLowest.f (k + 1) a0 a1) := by
 intro a0 a1 k
 unfold glidepathbase_IsLowest.f
 repeat' first
   | (with_reducible exact glidepathbase_Gcd.mono _ _ _)
   | (with_reducible exact LeO.refl _)
   | (with_reducible exact LeO.none _)
   | (with_reducible refine LeO.ite ?_ ?_)
   | (with_reducible refine LeO.bind ?_ (fun _ => ?_))
   | exact glidepathbase_Gcd.mono _ _ _
   | exact LeO.none _
   | refine LeO.ite ?_ ?_
   | refine LeO.bind ?_ (fun _ => ?_)
set_option maxHeartbeats 8000000 in
set_option maxRecDepth 100000 in
theorem glidepathbase_IsLowest.calls (k : Nat) (a0_0 : Int) (a0_1 : Int) (r : Bool) (w : World) (h : glidepathbase_IsLowest.f k a0_0 a0_1 = some r) :
  Calls Tryd.prog 35 #[.agg #[.int .i64 a0_0, .int .i64 a0_1]] w fun e w' => e = .returned (.bool r) ∧ Below w.heap.size w w' := by
 have hu26 := Tryd.underlying26
 have HB := Aside0.mk (Below.refl w.heap.size w)
 have H : (if a0_1 > 0 then ((glidepathbase_Gcd.f k a0_0 a0_1).bind fun t419 => (some (t419 == 1))) else (some false)) = some r := h
 clear h
 by_cases c2 : a0_1 > 0
 ·rw [if_pos c2] at H
  have c2b0 := decide_eq_true c2
  clear c2
  replace H := Option.bind_eq_some_iff.mp H
  obtain ⟨t419, A30, H⟩ := H
  (try dsimp only at H)
  have A3 := Aside0.mk A30
  clear A30
  obtain rfl := Option.some.inj H
  go_enter Tryd.func35, Tryd.ntmps35
  go_wp2_with (first | ((with_reducible refine gate_dst (N := 1) rfl ?_); refine be 1 26 #[.int .i64 a0_0, .int .i64 a0_1] ?_; intro gb418 hg w4 hbox hb; have BK418 := Aside0.mk hbox; have GW418 := Aside0.mk (bg (n := w.heap.size) hg); have GE418 := Aside0.mk (bg (n := w.heap.size) hg); replace HB := sb HB hb; clear hb hbox hg; obtain ⟨_, _, _, _⟩ := b2 BK418) | (go_at_call 104; (with_reducible refine (glidepathbase_Gcd.calls k a0_0 a0_1 t419 _ A3.out).mono ?_); rintro e w6 ⟨rfl, hb⟩; replace BK418 := bb BK418 hb; replace HB := sb HB hb; (try clear hb)))
  go_ret
  exact ez
 ·rw [if_neg c2] at H
  have c2b0 := decide_eq_false c2
  clear c2
  obtain rfl := Option.some.inj H
  go_enter Tryd.func35, Tryd.ntmps35
  go_wp2_with (first | ((with_reducible refine gate_dst (N := 1) rfl ?_); refine be 1 26 #[.int .i64 a0_0, .int .i64 a0_1] ?_; intro gb418 hg w7 hbox hb; have BK418 := Aside0.mk hbox; have GW418 := Aside0.mk (bg (n := w.heap.size) hg); have GE418 := Aside0.mk (bg (n := w.heap.size) hg); replace HB := sb HB hb; clear hb hbox hg; obtain ⟨_, _, _, _⟩ := b2 BK418))
  go_ret
  exact ez
end
section
def glidepathbase_IsSmall.f (a0_0 : Int) (a0_1 : Int) : Option (Bool) := (glidepathbase_Within.f a0_0 (-1000000000) 1000000000).bind fun t421 => (if t421 = true then ((glidepathbase_Within.f a0_1 1 1000000000).bind fun t422 => (some t422)) else (some false))
set_option maxHeartbeats 8000000 in
set_option maxRecDepth 100000 in
theorem glidepathbase_IsSmall.calls (a0_0 : Int) (a0_1 : Int) (r : Bool) (w : World) (h : glidepathbase_IsSmall.f a0_0 a0_1 = some r) :
  Calls Tryd.prog 36 #[.agg #[.int .i64 a0_0, .int .i64 a0_1]] w fun e w' => e = .returned (.bool r) ∧ Below w.heap.size w w' := by
 have hu26 := Tryd.underlying26
 have HB := Aside0.mk (Below.refl w.heap.size w)
 have H : ((glidepathbase_Within.f a0_0 (-1000000000) 1000000000).bind fun t421 => (if t421 = true then ((glidepathbase_Within.f a0_1 1 1000000000).bind fun t422 => (some t422)) else (some false))) = some r := h
 clear h
 replace H := Option.bind_eq_some_iff.mp H
 obtain ⟨t421, A20, H⟩ := H
 (try dsimp only at H)
 have A2 := Aside0.mk A20
 clear A20
 by_cases c3 : t421 = true
 ·subst c3
  rw [if_pos rfl] at H
  replace H := Option.bind_eq_some_iff.mp H
  obtain ⟨t422, A40, H⟩ := H
  (try dsimp only at H)
  have A4 := Aside0.mk A40
  clear A40
  obtain rfl := Option.some.inj H
  go_enter Tryd.func36, Tryd.ntmps36
  go_wp2_with (first | ((with_reducible refine gate_dst (N := 1) rfl ?_); refine be 1 26 #[.int .i64 a0_0, .int .i64 a0_1] ?_; intro gb420 hg w5 hbox hb; have BK420 := Aside0.mk hbox; have GW420 := Aside0.mk (bg (n := w.heap.size) hg); have GE420 := Aside0.mk (bg (n := w.heap.size) hg); replace HB := sb HB hb; clear hb hbox hg; obtain ⟨_, _, _, _⟩ := b2 BK420) | ((with_reducible refine gate_callee (f := 31) rfl ?_); refine gl (some 5) Tryd.func31 #[.int .i64 a0_0, .int .i64 (-1000000000), .int .i64 1000000000] ?_; (with_reducible refine (glidepathbase_Within.calls a0_0 (-1000000000) 1000000000 true _ A2.out).mono ?_); rintro e w' ⟨rfl, ⟨nd, rfl⟩⟩; refine ⟨_, rfl, ?_⟩) | (go_at_call 31; (with_reducible refine (glidepathbase_Within.calls a0_1 1 1000000000 t422 _ A4.out).mono ?_); rintro e w' ⟨rfl, ⟨nd, rfl⟩⟩))
  go_ret
  exact ez
 ·replace c3 := Bool.eq_false_iff.mpr c3
  subst c3
  rw [if_neg (show ¬ (false = true) by decide)] at H
  obtain rfl := Option.some.inj H
  go_enter Tryd.func36, Tryd.ntmps36
  go_wp2_with (first | ((with_reducible refine gate_dst (N := 1) rfl ?_); refine be 1 26 #[.int .i64 a0_0, .int .i64 a0_1] ?_; intro gb420 hg w7 hbox hb; have BK420 := Aside0.mk hbox; have GW420 := Aside0.mk (bg (n := w.heap.size) hg); have GE420 := Aside0.mk (bg (n := w.heap.size) hg); replace HB := sb HB hb; clear hb hbox hg; obtain ⟨_, _, _, _⟩ := b2 BK420) | ((with_reducible refine gate_callee (f := 31) rfl ?_); refine gl (some 5) Tryd.func31 #[.int .i64 a0_0, .int .i64 (-1000000000), .int .i64 1000000000] ?_; (with_reducible refine (glidepathbase_Within.calls a0_0 (-1000000000) 1000000000 false _ A2.out).mono ?_); rintro e w' ⟨rfl, ⟨nd, rfl⟩⟩; refine ⟨_, rfl, ?_⟩))
  go_ret
  exact ez
end
section
def glidepathref02_FracErr.f (k : Nat) (a0_0 : Int) (a0_1 : Int) : Option (Int) := (glidepathbase_IsLowest.f k a0_0 a0_1).bind fun t424 => (if t424 = true then ((glidepathbase_IsSmall.f a0_0 a0_1).bind fun t425 => (if t425 = true then (some 0) else (some 2))) else (some 3))
theorem glidepathref02_FracErr.mono : ∀ a0 a1 k, LeO (glidepathref02_FracErr.f k a0 a1) (glidepathref02_FracErr.f (k + 1) a0 a1) := by
 intro a0 a1 k
 unfold glidepathref02_FracErr.f
 repeat' first
   | (with_reducible exact glidepathbase_IsLowest.mono _ _ _)
   | (with_reducible exact LeO.refl _)
   | (with_reducible exact LeO.none _)
   | (with_reducible refine LeO.ite ?_ ?_)
   | (with_reducible refine LeO.bind ?_ (fun _ => ?_))
   | exact glidepathbase_IsLowest.mono _ _ _
   | exact LeO.none _
   | refine LeO.ite ?_ ?_
   | refine LeO.bind ?_ (fun _ => ?_)
set_option maxHeartbeats 8000000 in
set_option maxRecDepth 100000 in
theorem glidepathref02_FracErr.calls (k : Nat) (a0_0 : Int) (a0_1 : Int) (r : Int) (w : World) (h : glidepathref02_FracErr.f k a0_0 a0_1 = some r) :
  Calls Tryd.prog 112 #[.agg #[.int .i64 a0_0, .int .i64 a0_1]] w fun e w' => e = .returned (.int .i64 r) ∧ Below w.heap.size w w' := by
 have hu26 := Tryd.underlying26
 have HB := Aside0.mk (Below.refl w.heap.size w)
 have H : ((glidepathbase_IsLowest.f k a0_0 a0_1).bind fun t424 => (if t424 = true then ((glidepathbase_IsSmall.f a0_0 a0_1).bind fun t425 => (if t425 = true then (some 0) else (some 2))) else (some 3))) = some r := h
 clear h
 replace H := Option.bind_eq_some_iff.mp H
 obtain ⟨t424, A20, H⟩ := H
 (try dsimp only at H)
 have A2 := Aside0.mk A20
 clear A20
 by_cases c3 : t424 = true
 ·subst c3
  rw [if_pos rfl] at H
  replace H := Option.bind_eq_some_iff.mp H
  obtain ⟨t425, A40, H⟩ := H
  (try dsimp only at H)
  have A4 := Aside0.mk A40
  clear A40
  by_cases c5 : t425 = true
  ·subst c5
   rw [if_pos rfl] at H
   obtain rfl := Option.some.inj H
   go_enter Tryd.func112, Tryd.ntmps112
   go_wp2_with (first | ((with_reducible refine gate_dst (N := 1) rfl ?_); refine be 1 26 #[.int .i64 a0_0, .int .i64 a0_1] ?_; intro gb423 hg w6 hbox hb; have BK423 := Aside0.mk hbox; have GW423 := Aside0.mk (bg (n := w.heap.size) hg); have GE423 := Aside0.mk (bg (n := w.heap.size) hg); replace HB := sb HB hb; clear hb hbox hg; obtain ⟨_, _, _, _⟩ := b2 BK423) | ((with_reducible refine gate_callee (f := 35) rfl ?_); refine gl (some 4) Tryd.func35 #[.agg #[.int .i64 a0_0, .int .i64 a0_1]] ?_; (with_reducible refine (glidepathbase_IsLowest.calls k a0_0 a0_1 true _ A2.out).mono ?_); rintro e w8 ⟨rfl, hb⟩; refine ⟨_, rfl, ?_⟩; replace BK423 := bb BK423 hb; replace HB := sb HB hb; (try clear hb); obtain ⟨_, _, _, _⟩ := b2 BK423) | ((with_reducible refine gate_callee (f := 36) rfl ?_); refine gl (some 7) Tryd.func36 #[.agg #[.int .i64 a0_0, .int .i64 a0_1]] ?_; (with_reducible refine (glidepathbase_IsSmall.calls a0_0 a0_1 true _ A4.out).mono ?_); rintro e w10 ⟨rfl, hb⟩; refine ⟨_, rfl, ?_⟩; replace BK423 := bb BK423 hb; replace HB := sb HB hb; (try clear hb)))
   go_ret
   exact ez
  ·replace c5 := Bool.eq_false_iff.mpr c5
   subst c5
   rw [if_neg (show ¬ (false = true) by decide)] at H
   obtain rfl := Option.some.inj H
   go_enter Tryd.func112, Tryd.ntmps112
   go_wp2_with (first | ((with_reducible refine gate_dst (N := 1) rfl ?_); refine be 1 26 #[.int .i64 a0_0, .int .i64 a0_1] ?_; intro gb423 hg w11 hbox hb; have BK423 := Aside0.mk hbox; have GW423 := Aside0.mk (bg (n := w.heap.size) hg); have GE423 := Aside0.mk (bg (n := w.heap.size) hg); replace HB := sb HB hb; clear hb hbox hg; obtain ⟨_, _, _, _⟩ := b2 BK423) | ((with_reducible refine gate_callee (f := 35) rfl ?_); refine gl (some 4) Tryd.func35 #[.agg #[.int .i64 a0_0, .int .i64 a0_1]] ?_; (with_reducible refine (glidepathbase_IsLowest.calls k a0_0 a0_1 true _ A2.out).mono ?_); rintro e w13 ⟨rfl, hb⟩; refine ⟨_, rfl, ?_⟩; replace BK423 := bb BK423 hb; replace HB := sb HB hb; (try clear hb); obtain ⟨_, _, _, _⟩ := b2 BK423) | ((with_reducible refine gate_callee (f := 36) rfl ?_); refine gl (some 7) Tryd.func36 #[.agg #[.int .i64 a0_0, .int .i64 a0_1]] ?_; (with_reducible refine (glidepathbase_IsSmall.calls a0_0 a0_1 false _ A4.out).mono ?_); rintro e w15 ⟨rfl, hb⟩; refine ⟨_, rfl, ?_⟩; replace BK423 := bb BK423 hb; replace HB := sb HB hb; (try clear hb)))
   go_ret
   exact ez
 ·replace c3 := Bool.eq_false_iff.mpr c3
  subst c3
  rw [if_neg (show ¬ (false = true) by decide)] at H
  obtain rfl := Option.some.inj H
  go_enter Tryd.func112, Tryd.ntmps112
  go_wp2_with (first | ((with_reducible refine gate_dst (N := 1) rfl ?_); refine be 1 26 #[.int .i64 a0_0, .int .i64 a0_1] ?_; intro gb423 hg w16 hbox hb; have BK423 := Aside0.mk hbox; have GW423 := Aside0.mk (bg (n := w.heap.size) hg); have GE423 := Aside0.mk (bg (n := w.heap.size) hg); replace HB := sb HB hb; clear hb hbox hg; obtain ⟨_, _, _, _⟩ := b2 BK423) | ((with_reducible refine gate_callee (f := 35) rfl ?_); refine gl (some 4) Tryd.func35 #[.agg #[.int .i64 a0_0, .int .i64 a0_1]] ?_; (with_reducible refine (glidepathbase_IsLowest.calls k a0_0 a0_1 false _ A2.out).mono ?_); rintro e w18 ⟨rfl, hb⟩; refine ⟨_, rfl, ?_⟩; replace BK423 := bb BK423 hb; replace HB := sb HB hb; (try clear hb)))
  go_ret
  exact ez
end
section
def glidepathref02_TruthErr.f (k : Nat) (a0_0 : Int) (a0_1 : Int) : Option (Int) := (glidepathref02_FracErr.f k a0_0 a0_1).bind fun t427 => (if t427 = 0 then ((glidepathbase_Within.f a0_0 (-100) 100).bind fun t428 => (if t428 = true then (if a0_1 > 100 then (some 2) else (some 0)) else (some 2))) else (some t427))
theorem glidepathref02_TruthErr.mono : ∀ a0 a1 k, LeO (glidepathref02_TruthErr.f k a0 a1) (glidepathref02_TruthErr.f (k + 1) a0 a1) := by
 intro a0 a1 k
 unfold glidepathref02_TruthErr.f
 repeat' first
   | (with_reducible exact glidepathref02_FracErr.mono _ _ _)
   | (with_reducible exact LeO.refl _)
   | (with_reducible exact LeO.none _)
   | (with_reducible refine LeO.ite ?_ ?_)
   | (with_reducible refine LeO.bind ?_ (fun _ => ?_))
   | exact glidepathref02_FracErr.mono _ _ _
   | exact LeO.none _
   | refine LeO.ite ?_ ?_
   | refine LeO.bind ?_ (fun _ => ?_)
set_option maxHeartbeats 8000000 in
set_option maxRecDepth 100000 in
theorem glidepathref02_TruthErr.calls (k : Nat) (a0_0 : Int) (a0_1 : Int) (r : Int) (w : World) (h : glidepathref02_TruthErr.f k a0_0 a0_1 = some r) :
  Calls Tryd.prog 98 #[.agg #[.int .i64 a0_0, .int .i64 a0_1]] w fun e w' => e = .returned (.int .i64 r) ∧ Below w.heap.size w w' := by
 have hu26 := Tryd.underlying26
 have HB := Aside0.mk (Below.refl w.heap.size w)
 have H : ((glidepathref02_FracErr.f k a0_0 a0_1).bind fun t427 => (if t427 = 0 then ((glidepathbase_Within.f a0_0 (-100) 100).bind fun t428 => (if t428 = true then (if a0_1 > 100 then (some 2) else (some 0)) else (some 2))) else (some t427))) = some r := h
 clear h
 replace H := Option.bind_eq_some_iff.mp H
 obtain ⟨t427, A20, H⟩ := H
 (try dsimp only at H)
 have A2 := Aside0.mk A20
 clear A20
 by_cases c3 : t427 = 0
 ·rw [if_pos c3] at H
  have c3b0 := beq_iff_eq.mpr c3
  have c3b1 := bne_eq_false_iff_eq.mpr c3
  clear c3
  replace H := Option.bind_eq_some_iff.mp H
  obtain ⟨t428, A40, H⟩ := H
  (try dsimp only at H)
  have A4 := Aside0.mk A40
  clear A40
  by_cases c5 : t428 = true
  ·subst c5
   rw [if_pos rfl] at H
   by_cases c6 : a0_1 > 100
   ·rw [if_pos c6] at H
    have c6b0 := decide_eq_true c6
    clear c6
    obtain rfl := Option.some.inj H
    go_enter Tryd.func98, Tryd.ntmps98
    go_wp2_with (first | ((with_reducible refine gate_dst (N := 1) rfl ?_); refine be 1 26 #[.int .i64 a0_0, .int .i64 a0_1] ?_; intro gb426 hg w7 hbox hb; have BK426 := Aside0.mk hbox; have GW426 := Aside0.mk (bg (n := w.heap.size) hg); have GE426 := Aside0.mk (bg (n := w.heap.size) hg); replace HB := sb HB hb; clear hb hbox hg; obtain ⟨_, _, _, _⟩ := b2 BK426) | ((with_reducible refine gate_callee (f := 112) rfl ?_); refine gl (some 5) Tryd.func112 #[.agg #[.int .i64 a0_0, .int .i64 a0_1]] ?_; (with_reducible refine (glidepathref02_FracErr.calls k a0_0 a0_1 t427 _ A2.out).mono ?_); rintro e w9 ⟨rfl, hb⟩; refine ⟨_, rfl, ?_⟩; replace BK426 := bb BK426 hb; replace HB := sb HB hb; (try clear hb); obtain ⟨_, _, _, _⟩ := b2 BK426) | ((with_reducible refine gate_callee (f := 31) rfl ?_); refine gl (some 11) Tryd.func31 #[.int .i64 a0_0, .int .i64 (-100), .int .i64 100] ?_; (with_reducible refine (glidepathbase_Within.calls a0_0 (-100) 100 true _ A4.out).mono ?_); rintro e w' ⟨rfl, ⟨nd, rfl⟩⟩; refine ⟨_, rfl, ?_⟩))
    go_ret
    exact ez
   ·rw [if_neg c6] at H
    have c6b0 := decide_eq_false c6
    clear c6
    obtain rfl := Option.some.inj H
    go_enter Tryd.func98, Tryd.ntmps98
    go_wp2_with (first | ((with_reducible refine gate_dst (N := 1) rfl ?_); refine be 1 26 #[.int .i64 a0_0, .int .i64 a0_1] ?_; intro gb426 hg w11 hbox hb; have BK426 := Aside0.mk hbox; have GW426 := Aside0.mk (bg (n := w.heap.size) hg); have GE426 := Aside0.mk (bg (n := w.heap.size) hg); replace HB := sb HB hb; clear hb hbox hg; obtain ⟨_, _, _, _⟩ := b2 BK426) | ((with_reducible refine gate_callee (f := 112) rfl ?_); refine gl (some 5) Tryd.func112 #[.agg #[.int .i64 a0_0, .int .i64 a0_1]] ?_; (with_reducible refine (glidepathref02_FracErr.calls k a0_0 a0_1 t427 _ A2.out).mono ?_); rintro e w13 ⟨rfl, hb⟩; refine ⟨_, rfl, ?_⟩; replace BK426 := bb BK426 hb; replace HB := sb HB hb; (try clear hb); obtain ⟨_, _, _, _⟩ := b2 BK426) | ((with_reducible refine gate_callee (f := 31) rfl ?_); refine gl (some 11) Tryd.func31 #[.int .i64 a0_0, .int .i64 (-100), .int .i64 100] ?_; (with_reducible refine (glidepathbase_Within.calls a0_0 (-100) 100 true _ A4.out).mono ?_); rintro e w' ⟨rfl, ⟨nd, rfl⟩⟩; refine ⟨_, rfl, ?_⟩))
    go_ret
    exact ez
  ·replace c5 := Bool.eq_false_iff.mpr c5
   subst c5
   rw [if_neg (show ¬ (false = true) by decide)] at H
   obtain rfl := Option.some.inj H
   go_enter Tryd.func98, Tryd.ntmps98
   go_wp2_with (first | ((with_reducible refine gate_dst (N := 1) rfl ?_); refine be 1 26 #[.int .i64 a0_0, .int .i64 a0_1] ?_; intro gb426 hg w15 hbox hb; have BK426 := Aside0.mk hbox; have GW426 := Aside0.mk (bg (n := w.heap.size) hg); have GE426 := Aside0.mk (bg (n := w.heap.size) hg); replace HB := sb HB hb; clear hb hbox hg; obtain ⟨_, _, _, _⟩ := b2 BK426) | ((with_reducible refine gate_callee (f := 112) rfl ?_); refine gl (some 5) Tryd.func112 #[.agg #[.int .i64 a0_0, .int .i64 a0_1]] ?_; (with_reducible refine (glidepathref02_FracErr.calls k a0_0 a0_1 t427 _ A2.out).mono ?_); rintro e w17 ⟨rfl, hb⟩; refine ⟨_, rfl, ?_⟩; replace BK426 := bb BK426 hb; replace HB := sb HB hb; (try clear hb); obtain ⟨_, _, _, _⟩ := b2 BK426) | ((with_reducible refine gate_callee (f := 31) rfl ?_); refine gl (some 11) Tryd.func31 #[.int .i64 a0_0, .int .i64 (-100), .int .i64 100] ?_; (with_reducible refine (glidepathbase_Within.calls a0_0 (-100) 100 false _ A4.out).mono ?_); rintro e w' ⟨rfl, ⟨nd, rfl⟩⟩; refine ⟨_, rfl, ?_⟩))
   go_ret
   exact ez
 ·rw [if_neg c3] at H
  have c3b0 := beq_eq_false_iff_ne.mpr c3
  have c3b1 := bne_iff_ne.mpr c3
  obtain rfl := Option.some.inj H
  go_enter Tryd.func98, Tryd.ntmps98
  go_wp2_with (first | ((with_reducible refine gate_dst (N := 1) rfl ?_); refine be 1 26 #[.int .i64 a0_0, .int .i64 a0_1] ?_; intro gb426 hg w19 hbox hb; have BK426 := Aside0.mk hbox; have GW426 := Aside0.mk (bg (n := w.heap.size) hg); have GE426 := Aside0.mk (bg (n := w.heap.size) hg); replace HB := sb HB hb; clear hb hbox hg; obtain ⟨_, _, _, _⟩ := b2 BK426) | ((with_reducible refine gate_callee (f := 112) rfl ?_); refine gl (some 5) Tryd.func112 #[.agg #[.int .i64 a0_0, .int .i64 a0_1]] ?_; (with_reducible refine (glidepathref02_FracErr.calls k a0_0 a0_1 t427 _ A2.out).mono ?_); rintro e w21 ⟨rfl, hb⟩; refine ⟨_, rfl, ?_⟩; replace BK426 := bb BK426 hb; replace HB := sb HB hb; (try clear hb)))
  go_ret
  exact ez
end
section
def glidepathref02_CaseErr.l0 : Nat → Int → List Int → List Int → Int → Int → Option (Int)
  | 0, _, _, _, _, _ => none
  | k + 1, x5, x430000, x430001, x430002, x430003 => if x5 < (x430000.length : Int) then (if 0 ≤ x5 then (if (rd x430000 x5) > 9000 then (some 2) else (glidepathref02_CaseErr.l0 k (wrap64 (x5 + 1)) x430000 x430001 x430002 x430003)) else (none)) else ((glidepathref02_Cases.f k x430001 (x430000.length : Int)).bind fun t433 => (if t433 > 4096 then (some 8) else ((glidepathref02_TruthErr.f k x430002 x430003).bind fun t434 => (some t434))))
def glidepathref02_CaseErr.f (k : Nat) (l0_0 : List Int) (l0_1 : List Int) (a0_2 : Int) (a0_3 : Int) : Option (Int) := (glidepathref02_SpectrumErr.f k l0_0).bind fun t430 => (if t430 = 0 then ((glidepathref02_NoiseErr.f k l0_1).bind fun t431 => (if t431 = 0 then (glidepathref02_CaseErr.l0 k 0 l0_0 l0_1 a0_2 a0_3) else (some t431))) else (some t430))
theorem glidepathref02_CaseErr.mono_l : ∀ k, (∀ y0 y1 y2 y3 y4, LeO (glidepathref02_CaseErr.l0 k y0 y1 y2 y3 y4) (glidepathref02_CaseErr.l0 (k + 1) y0 y1 y2 y3 y4))
  | 0 => fun _ _ _ _ _ r h => by simp [glidepathref02_CaseErr.l0] at h
  | k + 1 => by
    have ih0 := glidepathref02_CaseErr.mono_l k
    · intro y0 y1 y2 y3 y4
      unfold glidepathref02_CaseErr.l0
      repeat' first
      | (with_reducible exact ih0 _ _ _ _ _)
      | (with_reducible exact glidepathref02_Cases.mono _ _ _)
      | (with_reducible exact glidepathref02_NoiseErr.mono _ _)
      | (with_reducible exact glidepathref02_SpectrumErr.mono _ _)
      | (with_reducible exact glidepathref02_TruthErr.mono _ _ _)
      | (with_reducible exact LeO.refl _)
      | (with_reducible exact LeO.none _)
      | (with_reducible refine LeO.ite ?_ ?_)
      | (with_reducible refine LeO.bind ?_ (fun _ => ?_))
      | exact ih0 _ _ _ _ _
      | exact glidepathref02_Cases.mono _ _ _
      | exact glidepathref02_NoiseErr.mono _ _
      | exact glidepathref02_SpectrumErr.mono _ _
      | exact glidepathref02_TruthErr.mono _ _ _
      | exact LeO.none _
      | refine LeO.ite ?_ ?_
      | refine LeO.bind ?_ (fun _ => ?_)
theorem glidepathref02_CaseErr.mono : ∀ a0 a1 a2 a3 k, LeO (glidepathref02_CaseErr.f k a0 a1 a2 a3) (glidepathref02_CaseErr.f (k + 1) a0 a1 a2 a3) := by
  intro a0 a1 a2 a3 k
  have ih0 := glidepathref02_CaseErr.mono_l k
  unfold glidepathref02_CaseErr.f
  repeat' first
      | (with_reducible exact ih0 _ _ _ _ _)
      | (with_reducible exact glidepathref02_Cases.mono _ _ _)
      | (with_reducible exact glidepathref02_NoiseErr.mono _ _)
      | (with_reducible exact glidepathref02_SpectrumErr.mono _ _)
      | (with_reducible exact glidepathref02_TruthErr.mono _ _ _)
      | (with_reducible exact LeO.refl _)
      | (with_reducible exact LeO.none _)
      | (with_reducible refine LeO.ite ?_ ?_)
      | (with_reducible refine LeO.bind ?_ (fun _ => ?_))
      | exact ih0 _ _ _ _ _
      | exact glidepathref02_Cases.mono _ _ _
      | exact glidepathref02_NoiseErr.mono _ _
      | exact glidepathref02_SpectrumErr.mono _ _
      | exact glidepathref02_TruthErr.mono _ _ _
      | exact LeO.none _
      | refine LeO.ite ?_ ?_
      | refine LeO.bind ?_ (fun _ => ?_)
set_option maxHeartbeats 8000000 in
set_option maxRecDepth 100000 in
theorem glidepathref02_CaseErr.calls (k : Nat) (A0_0 : Option Addr) (c0_0 : Nat) (l0_0 : List Int) (A0_1 : Option Addr) (c0_1 : Nat) (l0_1 : List Int) (a0_2 : Int) (a0_3 : Int) (r : Int) (w : World) (hr0_0 : Kd.C (Kd.int .i64) w A0_0 l0_0.length l0_0) (hc0_0 : l0_0.length ≤ c0_0) (hr0_1 : Kd.C (Kd.int .i64) w A0_1 l0_1.length l0_1) (hc0_1 : l0_1.length ≤ c0_1) (h : glidepathref02_CaseErr.f k l0_0 l0_1 a0_2 a0_3 = some r) :
    Calls Tryd.prog 23 #[.agg #[.slice A0_0 l0_0.length c0_0, .slice A0_1 l0_1.length c0_1, .int .i64 a0_2, .int .i64 a0_3]] w fun e w' => e = .returned (.int .i64 r) ∧ Below w.heap.size w w' := by
  have hu28 := Tryd.underlying28
  have hu24 := Tryd.underlying24
  have hu26 := Tryd.underlying26
  have HR0_0 := Aside0.mk hr0_0
  have HC0_0 := Aside0.mk hc0_0
  clear hr0_0 hc0_0
  have HR0_1 := Aside0.mk hr0_1
  have HC0_1 := Aside0.mk hc0_1
  clear hr0_1 hc0_1
  have HB := Aside0.mk (Below.refl w.heap.size w)
  have H : ((glidepathref02_SpectrumErr.f k l0_0).bind fun t430 => (if t430 = 0 then ((glidepathref02_NoiseErr.f k l0_1).bind fun t431 => (if t431 = 0 then (glidepathref02_CaseErr.l0 k 0 l0_0 l0_1 a0_2 a0_3) else (some t431))) else (some t430))) = some r := h
  clear h
  replace H := Option.bind_eq_some_iff.mp H
  obtain ⟨t430, A20, H⟩ := H
  (try dsimp only at H)
  have A2 := Aside0.mk A20
  clear A20
  by_cases c3 : t430 = 0
  · rw [if_pos c3] at H
    have c3b0 := beq_iff_eq.mpr c3
    have c3b1 := bne_eq_false_iff_eq.mpr c3
    clear c3
    replace H := Option.bind_eq_some_iff.mp H
    obtain ⟨t431, A40, H⟩ := H
    (try dsimp only at H)
    have A4 := Aside0.mk A40
    clear A40
    by_cases c5 : t431 = 0
    · rw [if_pos c5] at H
      have c5b0 := beq_iff_eq.mpr c5
      have c5b1 := bne_eq_false_iff_eq.mpr c5
      clear c5
      have H' := Aside0.mk H
      clear H
      go_enter Tryd.func23, Tryd.ntmps23
      go_wp2_with (first | ((with_reducible refine gate_dst (N := 1) rfl ?_); refine be 1 28 #[.slice A0_0 l0_0.length c0_0, .slice A0_1 l0_1.length c0_1, .int .i64 a0_2, .int .i64 a0_3] ?_; intro gb429 hg w6 hbox hb; have BK429 := Aside0.mk hbox; have GW429 := Aside0.mk (bg (n := w.heap.size) hg); have GE429 := Aside0.mk (bg (n := w.heap.size) hg); replace HB := sb HB hb; clear hb hbox hg; obtain ⟨hcz7_0, hcz7_1, hcz7_2, hcz7_3, hfz7_0, hfz7_1, hfz7_2, hfz7_3⟩ := b4 BK429) | ((with_reducible refine gate_callee (f := 30) rfl ?_); refine gl (some 8) Tryd.func30 #[.slice A0_0 l0_0.length c0_0] ?_; (with_reducible refine (glidepathref02_SpectrumErr.calls k _ _ l0_0 t430 _ ?side1 ?side2 A2.out).mono ?_); (case side1 => exact bc (Kd.C_below HR0_0.out HB.out)); (case side2 => exact HC0_0.out); rintro e w' ⟨rfl, ⟨nd, rfl⟩⟩; refine ⟨_, rfl, ?_⟩) | ((with_reducible refine gate_callee (f := 82) rfl ?_); refine gl (some 14) Tryd.func82 #[.agg #[.slice A0_1 l0_1.length c0_1]] ?_; (with_reducible refine (glidepathref02_NoiseErr.calls k _ _ l0_1 t431 _ ?side1 ?side2 A4.out).mono ?_); (case side1 => repeat (first | exact (Kd.C_below HR0_1.out bz) | (with_reducible refine Kd.C_alloc ?_ _) | (with_reducible refine Kd.C_drewN ?_ _) | (with_reducible refine Kd.C_drew ?_))); (case side2 => exact HC0_1.out); rintro e w8 ⟨rfl, hb⟩; refine ⟨_, rfl, ?_⟩; replace BK429 := bb BK429 hb; replace HB := sb HB hb; (try clear hb)))
      go_loopg [5] k (fun kq v5 w' => ∃ (x5_1 : Int), v5 = .int .i64 x5_1 ∧ Aside0 (glidepathref02_CaseErr.l0 kq x5_1 l0_0 l0_1 a0_2 a0_3 = some r) ∧ Aside0 (kq ≤ k) ∧ Aside0 (w'.heap[gb429]? = some (.cells #[(.slice A0_0 l0_0.length c0_0), (.slice A0_1 l0_1.length c0_1), .int .i64 a0_2, .int .i64 a0_3] 28 (0, 0))) ∧ Aside0 (Below w.heap.size w w'))
      case atStart => exact ⟨(0), (by first | rfl | (simp; done) | (simp [*]; done)), H', ⟨Nat.le_refl _⟩, ⟨by (with_reducible repeat (first | refine blk_drewN ?_ _ | refine blk_drew ?_ | refine blk_alloc ?_ _)); exact BK429.out⟩, ⟨by repeat (first | (with_reducible first | exact HB.out | apply below_alloc | apply pw_below_drewN | apply below_drew1 | refine below_set ?_ GE429.out) | exact HB.out)⟩⟩
      case round =>
        clear H'
        try clear c2
        try clear p2
        try clear c3
        try clear c3b0
        try clear c3b1
        try clear c5
        try clear c5b0
        try clear c5b1
        try clear c8
        try clear hcz7_0
        try clear hcz7_1
        try clear hcz7_2
        try clear hcz7_3
        try clear hfz7_0
        try clear hfz7_1
        try clear hfz7_2
        try clear hfz7_3
        obtain ⟨x5_1, rfl, HA, HK1, BK429, HB⟩ := hrel
        cases gk with
        | zero => exact absurd HA.out (by simp [glidepathref02_CaseErr.l0])
        | succ k1 =>
          have H := HA.out
          clear HA
          simp only [glidepathref02_CaseErr.l0] at H
          by_cases c9 : x5_1 < (l0_0.length : Int)
          · rw [if_pos c9] at H
            have c9b0 := decide_eq_true c9
            clear c9
            by_cases c10 : 0 ≤ x5_1
            · rw [if_pos c10] at H
              have c10b0 := decide_eq_true c10
              clear c10
              by_cases c11 : (rd l0_0 x5_1) > 9000
              · rw [if_pos c11] at H
                have c11b0 := decide_eq_true c11
                clear c11
                obtain rfl := Option.some.inj H
                obtain ⟨_, _, _, _, _, _, _, _⟩ := b4 BK429
                have p432 : 0 ≤ (x5_1 : Int) := of_decide_eq_true (by first | (with_reducible assumption) | assumption)
                have q432 : x5_1 < (l0_0.length : Int) := of_decide_eq_true (by first | (with_reducible assumption) | assumption)
                obtain ⟨ad432, e432, hx432_0⟩ := Kd.at_int HR0_0.out x5_1 p432 q432
                cases e432
                replace hx432_0 := (HB.out.cell (World.block_lt_of_cell? w _ hx432_0)).trans hx432_0
                replace p432 := eq_true p432
                replace q432 := eq_true q432
                go_wp2
                go_ret
                exact ez
              · rw [if_neg c11] at H
                have c11b0 := decide_eq_false c11
                clear c11
                have H' := Aside0.mk H
                clear H
                obtain ⟨_, _, _, _, _, _, _, _⟩ := b4 BK429
                have p432 : 0 ≤ (x5_1 : Int) := of_decide_eq_true (by first | (with_reducible assumption) | assumption)
                have q432 : x5_1 < (l0_0.length : Int) := of_decide_eq_true (by first | (with_reducible assumption) | assumption)
                obtain ⟨ad432, e432, hx432_0⟩ := Kd.at_int HR0_0.out x5_1 p432 q432
                cases e432
                replace hx432_0 := (HB.out.cell (World.block_lt_of_cell? w _ hx432_0)).trans hx432_0
                replace p432 := eq_true p432
                replace q432 := eq_true q432
                go_wp2
                go_roundg k1
                case measure => have := HK1.out; omega
                case rel => exact ⟨(wrap64 (x5_1 + 1)), (by first | rfl | (simp; done) | (simp [*]; done)), H', ⟨by have := HK1.out; omega⟩, ⟨by (with_reducible repeat (first | refine blk_drewN ?_ _ | refine blk_drew ?_ | refine blk_alloc ?_ _)); exact BK429.out⟩, ⟨by repeat (first | (with_reducible first | exact HB.out | apply below_alloc | apply pw_below_drewN | apply below_drew1 | refine below_set ?_ GE429.out) | exact HB.out)⟩⟩
            · rw [if_neg c10] at H
              exact absurd H (by simp)
          · rw [if_neg c9] at H
            have c9b0 := decide_eq_false c9
            clear c9
            replace H := Option.bind_eq_some_iff.mp H
            obtain ⟨t433, A140, H⟩ := H
            (try dsimp only at H)
            have A14 := Aside0.mk A140
            clear A140
            by_cases c15 : t433 > 4096
            · rw [if_pos c15] at H
              have c15b0 := decide_eq_true c15
              clear c15
              obtain rfl := Option.some.inj H
              obtain ⟨_, _, _, _, _, _, _, _⟩ := b4 BK429
              go_wp2_with (first | ((with_reducible refine gate_callee (f := 56) rfl ?_); refine gl (some 36) Tryd.func56 #[.agg #[.slice A0_1 l0_1.length c0_1], .int .i64 (l0_0.length : Int)] ?_; (with_reducible refine (glidepathref02_Cases.calls k1 _ _ l0_1 (l0_0.length : Int) t433 _ ?side1 ?side2 A14.out).mono ?_); (case side1 => exact bc (Kd.C_below HR0_1.out HB.out)); (case side2 => exact HC0_1.out); rintro e w17 ⟨rfl, hb⟩; refine ⟨_, rfl, ?_⟩; replace BK429 := bb BK429 hb; replace HB := sb HB hb; (try clear hb)))
              go_ret
              exact ez
            · rw [if_neg c15] at H
              have c15b0 := decide_eq_false c15
              clear c15
              replace H := Option.bind_eq_some_iff.mp H
              obtain ⟨t434, A180, H⟩ := H
              (try dsimp only at H)
              have A18 := Aside0.mk A180
              clear A180
              obtain rfl := Option.some.inj H
              obtain ⟨_, _, _, _, _, _, _, _⟩ := b4 BK429
              go_wp2_with (first | ((with_reducible refine gate_callee (f := 56) rfl ?_); refine gl (some 36) Tryd.func56 #[.agg #[.slice A0_1 l0_1.length c0_1], .int .i64 (l0_0.length : Int)] ?_; (with_reducible refine (glidepathref02_Cases.calls k1 _ _ l0_1 (l0_0.length : Int) t433 _ ?side1 ?side2 A14.out).mono ?_); (case side1 => exact bc (Kd.C_below HR0_1.out HB.out)); (case side2 => exact HC0_1.out); rintro e w20 ⟨rfl, hb⟩; refine ⟨_, rfl, ?_⟩; replace BK429 := bb BK429 hb; replace HB := sb HB hb; (try clear hb); obtain ⟨_, _, _, _, _, _, _, _⟩ := b4 BK429) | ((with_reducible refine gate_callee (f := 98) rfl ?_); refine gl (some 40) Tryd.func98 #[.agg #[.int .i64 a0_2, .int .i64 a0_3]] ?_; (with_reducible refine (glidepathref02_TruthErr.calls k1 a0_2 a0_3 t434 _ A18.out).mono ?_); rintro e w22 ⟨rfl, hb⟩; refine ⟨_, rfl, ?_⟩; replace BK429 := bb BK429 hb; replace HB := sb HB hb; (try clear hb)))
              go_ret
              exact ez
    · rw [if_neg c5] at H
      have c5b0 := beq_eq_false_iff_ne.mpr c5
      have c5b1 := bne_iff_ne.mpr c5
      obtain rfl := Option.some.inj H
      go_enter Tryd.func23, Tryd.ntmps23
      go_wp2_with (first | ((with_reducible refine gate_dst (N := 1) rfl ?_); refine be 1 28 #[.slice A0_0 l0_0.length c0_0, .slice A0_1 l0_1.length c0_1, .int .i64 a0_2, .int .i64 a0_3] ?_; intro gb429 hg w23 hbox hb; have BK429 := Aside0.mk hbox; have GW429 := Aside0.mk (bg (n := w.heap.size) hg); have GE429 := Aside0.mk (bg (n := w.heap.size) hg); replace HB := sb HB hb; clear hb hbox hg; obtain ⟨_, _, _, _, _, _, _, _⟩ := b4 BK429) | ((with_reducible refine gate_callee (f := 30) rfl ?_); refine gl (some 8) Tryd.func30 #[.slice A0_0 l0_0.length c0_0] ?_; (with_reducible refine (glidepathref02_SpectrumErr.calls k _ _ l0_0 t430 _ ?side1 ?side2 A2.out).mono ?_); (case side1 => exact bc (Kd.C_below HR0_0.out HB.out)); (case side2 => exact HC0_0.out); rintro e w' ⟨rfl, ⟨nd, rfl⟩⟩; refine ⟨_, rfl, ?_⟩) | ((with_reducible refine gate_callee (f := 82) rfl ?_); refine gl (some 14) Tryd.func82 #[.agg #[.slice A0_1 l0_1.length c0_1]] ?_; (with_reducible refine (glidepathref02_NoiseErr.calls k _ _ l0_1 t431 _ ?side1 ?side2 A4.out).mono ?_); (case side1 => repeat (first | exact (Kd.C_below HR0_1.out bz) | (with_reducible refine Kd.C_alloc ?_ _) | (with_reducible refine Kd.C_drewN ?_ _) | (with_reducible refine Kd.C_drew ?_))); (case side2 => exact HC0_1.out); rintro e w25 ⟨rfl, hb⟩; refine ⟨_, rfl, ?_⟩; replace BK429 := bb BK429 hb; replace HB := sb HB hb; (try clear hb)))
      go_ret
      exact ez
  · rw [if_neg c3] at H
    have c3b0 := beq_eq_false_iff_ne.mpr c3
    have c3b1 := bne_iff_ne.mpr c3
    obtain rfl := Option.some.inj H
    go_enter Tryd.func23, Tryd.ntmps23
    go_wp2_with (first | ((with_reducible refine gate_dst (N := 1) rfl ?_); refine be 1 28 #[.slice A0_0 l0_0.length c0_0, .slice A0_1 l0_1.length c0_1, .int .i64 a0_2, .int .i64 a0_3] ?_; intro gb429 hg w26 hbox hb; have BK429 := Aside0.mk hbox; have GW429 := Aside0.mk (bg (n := w.heap.size) hg); have GE429 := Aside0.mk (bg (n := w.heap.size) hg); replace HB := sb HB hb; clear hb hbox hg; obtain ⟨_, _, _, _, _, _, _, _⟩ := b4 BK429) | ((with_reducible refine gate_callee (f := 30) rfl ?_); refine gl (some 8) Tryd.func30 #[.slice A0_0 l0_0.length c0_0] ?_; (with_reducible refine (glidepathref02_SpectrumErr.calls k _ _ l0_0 t430 _ ?side1 ?side2 A2.out).mono ?_); (case side1 => exact bc (Kd.C_below HR0_0.out HB.out)); (case side2 => exact HC0_0.out); rintro e w' ⟨rfl, ⟨nd, rfl⟩⟩; refine ⟨_, rfl, ?_⟩))
    go_ret
    exact ez
end
section
def glidepathlaw02_short.f (l0 : List Int) : Option (Bool) := some (decide ((l0.length : Int) ≤ 20))
set_option maxHeartbeats 8000000 in
set_option maxRecDepth 100000 in
theorem glidepathlaw02_short.calls (A0 : Option Addr) (c0 : Nat) (l0 : List Int) (r : Bool) (w : World) (hr0 : Kd.C (Kd.int .i64) w A0 l0.length l0) (hc0 : l0.length ≤ c0) (h : glidepathlaw02_short.f l0 = some r) :
  Calls Tryd.prog 50 #[.slice A0 l0.length c0] w fun e w' => e = .returned (.bool r) ∧ Drawn0 w w' := by
 have HR0 := Aside0.mk hr0
 have HC0 := Aside0.mk hc0
 clear hr0 hc0
 have H : (some (decide ((l0.length : Int) ≤ 20))) = some r := h
 clear h
 obtain rfl := Option.some.inj H
 go_enter Tryd.func50, Tryd.ntmps50
 go_wp2
 go_ret
 exact ⟨by first | rfl | (simp; done) | (simp [*]; done), by repeat (first | exact Drawn0.refl _ | apply Drawn0.step)⟩
end
section
def glidepathbase_CopyInts.f (l0 : List Int) : Option (List Int) := (some (([] : List Int) : List Int)).bind fun y440 => (if y440.length + l0.length < 17592186044416 then (some (y440 ++ l0)) else (none))
set_option maxHeartbeats 8000000 in
set_option maxRecDepth 100000 in
theorem glidepathbase_CopyInts.calls (A0 : Option Addr) (c0 : Nat) (l0 : List Int) (r : List Int) (w : World) (hr0 : Kd.C (Kd.int .i64) w A0 l0.length l0) (hc0 : l0.length ≤ c0) (h : glidepathbase_CopyInts.f l0 = some r) :
  Calls Tryd.prog 33 #[.slice A0 l0.length c0] w fun e w' => ∃ v0_ : Value, e = .returned (v0_) ∧ Kd.R (Kd.int .i64) 3 w' w.heap.size (fun _ => True) v0_ r ∧ Below w.heap.size w w' := by
 have HR0 := Aside0.mk hr0
 have HC0 := Aside0.mk hc0
 clear hr0 hc0
 have HB := Aside0.mk (Below.refl w.heap.size w)
 have H : ((some (([] : List Int) : List Int)).bind fun y440 => (if y440.length + l0.length < 17592186044416 then (some (y440 ++ l0)) else (none))) = some r := h
 clear h
 obtain ⟨y440, hy440⟩ : ∃ y_ : List Int, y_ = (([] : List Int)) := ⟨_, rfl⟩
 replace H : (if y440.length + l0.length < 17592186044416 then (some (y440 ++ l0)) else (none)) = some r := by first | (rw [hy440]; with_reducible exact H) | (have H2_ := (Option.bind_some _ _).symm.trans H; rw [hy440]; with_reducible exact H2_) | (have H2_ := (Option.bind_some _ _).symm.trans H; with_reducible exact H2_) | with_reducible exact H | (rw [hy440]; exact H) | exact H
 have Ny440 := Aside0.mk hy440
 clear hy440
 by_cases c2 : y440.length + l0.length < 17592186044416
 ·rw [if_pos c2] at H
  have LMc2 := Aside0.mk c2
  clear c2
  obtain ⟨y443, hy443⟩ : ∃ y_ : List Int, y_ = (y440 ++ l0) := ⟨_, rfl⟩
  replace H : (some y443) = some r := by first | (rw [hy443]; with_reducible exact H) | (have H2_ := (Option.bind_some _ _).symm.trans H; rw [hy443]; with_reducible exact H2_) | (have H2_ := (Option.bind_some _ _).symm.trans H; with_reducible exact H2_) | with_reducible exact H | (rw [hy443]; exact H) | exact H
  have Ny443 := Aside0.mk hy443
  clear hy443
  obtain rfl := Option.some.inj H
  go_enter Tryd.func33, Tryd.ntmps33
  go_wp2_with (first | ((with_reducible refine gate_dst (N := 3) rfl ?_); refine Kd.R_lit (Kd.int .i64) _ 3 ?hg (N := 3) ?hd (xs := ([] : List Int)) (inner := []) (ok := fun _ => True) (okp := fun _ => True) ?hr ?hp (fun _ hk => hk) trivial (Below.refl _ _) (Nat.le_refl _) (by simp) ?_; (case hd => rfl); (case hg => rfl); (case hr => first | (go_simp; done) | (go_simp; rfl)); (case hp => exact (Reps.none _ _)); intro v441 w3 ho4 hb hg_ hnew_; clear hg_ hnew_; (first | rw [← Ny440.out] at ho4 | (simp only [Int.reduceToNat] at ho4; rw [← Ny440.out] at ho4)); have HO442 := Aside0.mk (Kd.R_lower ho4 (below_size bz)); replace HB := sb HB hb; clear hb ho4) | ((with_reducible refine gate_builtin (b := .append) (xs := #[.tmp 3, .tmp 4]) rfl ?_); at_builtin; refine Kd.R_append_rows (Kd.int .i64) (w0 := w) w.heap.size rfl (.tmp 3) (.tmp 4) 22 3 (.int .i64 0) 8 rfl Tryd.underlying22 info3 rfl (by decide) (by omega) v441 y440 l0 _ _ _ (fun _ => True) (fun _ => False) rfl rfl ?aO ?aR (fun _ _ h => h) (fun _ h => h.elim) ?aF ?aB ?aS ?aL ?_; (case aR => exact bc (Kd.C_below HR0.out HB.out)); (case aB => exact bz); (case aF => exact (fun _ _ => trivial)); (case aO => exact (br HO442.out)); (case aS => exact (below_size bz)); (case aL => have := LMc2.out; omega); intro v444 w5 ho hb hg hat; rw [← Ny443.out] at ho; have n0_ := Aside0.mk (hb); have n1_ := Aside0.mk (ho); clear HB; clear HO442; have HB := n0_; have HO445 := n1_; clear n0_ n1_; clear ho hb hg hat))
  go_ret
  exact ⟨_, by first | rfl | (simp [errW_none, errW_some] <;> rfl) | (simp [*, errW_none, errW_some] <;> rfl), by (with_reducible repeat (first | apply Kd.R_alloc | apply Kd.R_drewN | apply Kd.R_drew)); exact HO445.out, by repeat (first | (with_reducible first | exact HB.out | apply below_alloc | apply pw_below_drewN | apply below_drew1) | exact HB.out)⟩
 ·rw [if_neg c2] at H
  exact absurd H (by simp)
end
section
def glidepathref02_CopyNoise.f (l0_0 : List Int) : Option (List Int) := (glidepathbase_CopyInts.f l0_0).bind fun t448 => (some t448)
set_option maxHeartbeats 8000000 in
set_option maxRecDepth 100000 in
theorem glidepathref02_CopyNoise.calls (A0_0 : Option Addr) (c0_0 : Nat) (l0_0 : List Int) (r : List Int) (w : World) (hr0_0 : Kd.C (Kd.int .i64) w A0_0 l0_0.length l0_0) (hc0_0 : l0_0.length ≤ c0_0) (h : glidepathref02_CopyNoise.f l0_0 = some r) :
  Calls Tryd.prog 52 #[.agg #[.slice A0_0 l0_0.length c0_0]] w fun e w' => ∃ v0_ : Value, e = .returned (.agg #[v0_]) ∧ Kd.R (Kd.int .i64) 3 w' w.heap.size (fun _ => True) v0_ r ∧ Below w.heap.size w w' := by
 have hu24 := Tryd.underlying24
 have HR0_0 := Aside0.mk hr0_0
 have HC0_0 := Aside0.mk hc0_0
 clear hr0_0 hc0_0
 have HB := Aside0.mk (Below.refl w.heap.size w)
 have H : ((glidepathbase_CopyInts.f l0_0).bind fun t448 => (some t448)) = some r := h
 clear h
 replace H := Option.bind_eq_some_iff.mp H
 obtain ⟨t448, A20, H⟩ := H
 (try dsimp only at H)
 have A2 := Aside0.mk A20
 clear A20
 obtain rfl := Option.some.inj H
 go_enter Tryd.func52, Tryd.ntmps52
 go_wp2_with (first | ((with_reducible refine gate_dst (N := 1) rfl ?_); refine be 1 24 #[.slice A0_0 l0_0.length c0_0] ?_; intro gb446 hg w3 hbox hb; have BK446 := Aside0.mk hbox; have GW446 := Aside0.mk (bg (n := w.heap.size) hg); have GE446 := Aside0.mk (bg (n := w.heap.size) hg); replace HB := sb HB hb; clear hb hbox hg) | ((with_reducible refine gate_dst (N := 2) rfl ?_); refine be 2 24 #[.slice none 0 0] ?_; intro gb447 hg w4 hbox hb; have BK447 := Aside0.mk hbox; have GW447 := Aside0.mk (bg (n := w.heap.size) hg); have GE447 := Aside0.mk (bg (n := w.heap.size) hg); replace HB := sb HB hb; have NB446_447 := nl BK446 hg; have NB447_446 := ng (nl BK446 hg); replace BK446 := bb BK446 hb; clear hb hbox hg; have hnb5 := NB446_447.out; have hnc5 := NB447_446.out; obtain ⟨_, _⟩ := b1 BK446) | ((with_reducible refine gate_callee (f := 33) rfl ?_); refine gl (some 5) Tryd.func33 #[.slice A0_0 l0_0.length c0_0] ?_; (with_reducible refine (glidepathbase_CopyInts.calls _ _ l0_0 t448 _ ?side1 ?side2 A2.out).mono ?_); (case side1 => exact bc (Kd.C_below HR0_0.out HB.out)); (case side2 => exact HC0_0.out); rintro e w7 ⟨v449, rfl, ho0, hb⟩; refine ⟨_, rfl, ?_⟩; have HO450 := Aside0.mk (Kd.R_lower ho0 (below_size bz)); replace BK446 := bb BK446 hb; replace BK447 := bb BK447 hb; replace HB := sb HB hb; (try clear hb); (try clear ho0); obtain ⟨Ao8, co8, eo8⟩ := Kd.R_slice HO450.out; subst eo8; obtain ⟨_, _⟩ := b1 BK447))
 refine bodyPost_ret (results_cell_row rfl _ _ gb447 24 #[.slice Ao8 t448.length co8] (0, 0) _ rfl (by (with_reducible repeat (first | refine blk_drewN ?_ _ | refine blk_drew ?_ | refine blk_alloc ?_ _)); refine blk_put (cs := #[.slice none 0 0]) ?_ 0 _ rfl; (with_reducible repeat (first | refine blk_drewN ?_ _ | refine blk_drew ?_ | refine blk_alloc ?_ _)); exact BK447.out) Tryd.underlying24 rfl (by kernel_rfl)) rfl ?_
 exact ⟨_, by first | rfl | (simp [errW_none, errW_some] <;> rfl) | (simp [*, errW_none, errW_some] <;> rfl), by (with_reducible repeat (first | apply Kd.R_alloc | apply Kd.R_drewN | apply Kd.R_drew)); exact Kd.R_mono (Kd.R_far (p := ⟨gb447, 0, none⟩) (Kd.R_types HO450.out BK447.out (by decide)) (fun _ hk => hk.2) (.slice Ao8 t448.length co8)) (fun _ hk => trivial), by repeat (first | (with_reducible first | exact HB.out | apply below_alloc | apply pw_below_drewN | apply below_drew1 | refine below_set ?_ GE446.out | refine below_set ?_ GE447.out) | exact HB.out)⟩
end
section
def glidepathref02_CopyCase.f (l0_0 : List Int) (l0_1 : List Int) (a0_2 : Int) (a0_3 : Int) : Option (List Int × List Int × Int × Int) := (glidepathbase_CopyInts.f l0_0).bind fun t453 => ((glidepathref02_CopyNoise.f l0_1).bind fun t456 => (some (t453, t456, a0_2, a0_3)))
def glidepathref02_CopyCase.T1 : Bool × List (List Nat × List Nat) := (true, [([], []), ([0], [0]), ([1], [1]), ([], []), ([3], [3]), ([4, 2], [4]), ([], []), ([6], [6]), ([2, 5, 7], [2, 5, 7]), ([8, 5, 0, 1, 2, 3, 4, 5, 6, 7, 8], [8])])
def glidepathref02_CopyCase.B1 : List Nat := [0, 1, 3, 0, 8, 31, 0, 64, 255, 511]
theorem glidepathref02_CopyCase.tab1 : rtab .any (opsOf Tryd.f21 1) = glidepathref02_CopyCase.T1 := by kernel_rfl
theorem glidepathref02_CopyCase.bits1 : waitsOk glidepathref02_CopyCase.T1.2 glidepathref02_CopyCase.B1 = true := by kernel_rfl
set_option maxHeartbeats 8000000 in
set_option maxRecDepth 100000 in
theorem glidepathref02_CopyCase.calls (A0_0 : Option Addr) (c0_0 : Nat) (l0_0 : List Int) (A0_1 : Option Addr) (c0_1 : Nat) (l0_1 : List Int) (a0_2 : Int) (a0_3 : Int) (r1 : List Int) (r2 : List Int) (r3 : Int) (r4 : Int) (w : World) (hr0_0 : Kd.C (Kd.int .i64) w A0_0 l0_0.length l0_0) (hc0_0 : l0_0.length ≤ c0_0) (hr0_1 : Kd.C (Kd.int .i64) w A0_1 l0_1.length l0_1) (hc0_1 : l0_1.length ≤ c0_1) (h : glidepathref02_CopyCase.f l0_0 l0_1 a0_2 a0_3 = some (r1, r2, r3, r4)) :
  Calls Tryd.prog 21 #[.agg #[.slice A0_0 l0_0.length c0_0, .slice A0_1 l0_1.length c0_1, .int .i64 a0_2, .int .i64 a0_3]] w fun e w' => ∃ v0_ v1_ : Value, e = .returned (.agg #[v0_, v1_, .int .i64 r3, .int .i64 r4]) ∧ Kd.R (Kd.int .i64) 3 w' w.heap.size (fun k_ => some k_ ≠ (v1_ : Value).ownBlock) v0_ r1 ∧ Kd.R (Kd.int .i64) 3 w' w.heap.size (fun k_ => some k_ ≠ (v0_ : Value).ownBlock) v1_ r2 ∧ Below w.heap.size w w' := by
 have hu28 := Tryd.underlying28
 have hu24 := Tryd.underlying24
 have hu26 := Tryd.underlying26
 have HR0_0 := Aside0.mk hr0_0
 have HC0_0 := Aside0.mk hc0_0
 clear hr0_0 hc0_0
 have HR0_1 := Aside0.mk hr0_1
 have HC0_1 := Aside0.mk hc0_1
 clear hr0_1 hc0_1
 have HB := Aside0.mk (Below.refl w.heap.size w)
 have H : ((glidepathbase_CopyInts.f l0_0).bind fun t453 => ((glidepathref02_CopyNoise.f l0_1).bind fun t456 => (some (t453, t456, a0_2, a0_3)))) = some (r1, r2, r3, r4) := h
 clear h
 replace H := Option.bind_eq_some_iff.mp H
 obtain ⟨t453, A20, H⟩ := H
 (try dsimp only at H)
 have A2 := Aside0.mk A20
 clear A20
 replace H := Option.bind_eq_some_iff.mp H
 obtain ⟨t456, A30, H⟩ := H
 (try dsimp only at H)
 have A3 := Aside0.mk A30
 clear A30
 simp only [Option.some.injEq, Prod.mk.injEq] at H
 obtain ⟨rfl, rfl, rfl, rfl⟩ := H
 go_enter Tryd.func21, Tryd.ntmps21
 try go_wp2_with (first | ((with_reducible refine gate_dst (N := 1) rfl ?_); refine be 1 28 #[.slice A0_0 l0_0.length c0_0, .slice A0_1 l0_1.length c0_1, .int .i64 a0_2, .int .i64 a0_3] ?_; intro gb451 hg w4 hbox hb; have BK451 := Aside0.mk hbox; have GW451 := Aside0.mk (bg (n := w.heap.size) hg); have GE451 := Aside0.mk (bg (n := w.heap.size) hg); replace HB := sb HB hb; clear hb hbox hg) | ((with_reducible refine gate_dst (N := 2) rfl ?_); refine be 2 28 #[.slice none 0 0, .slice none 0 0, .int .i64 0, .int .i64 0] ?_; intro gb452 hg w5 hbox hb; have BK452 := Aside0.mk hbox; have GW452 := Aside0.mk (bg (n := w.heap.size) hg); have GE452 := Aside0.mk (bg (n := w.heap.size) hg); replace HB := sb HB hb; have NB451_452 := nl BK451 hg; have NB452_451 := ng (nl BK451 hg); replace BK451 := bb BK451 hb; clear hb hbox hg))
 replace BK451 := Aside0.mk (blk_drew BK451.out); replace BK452 := Aside0.mk (blk_drew BK452.out); replace HB := Aside0.mk (below_drew1 HB.out)
 refine start_ (n := 10) (S := fun w' => w'.cell? ⟨gb451, 0, none⟩ = some (.slice A0_0 l0_0.length c0_0) ∧ w'.cell? ⟨gb451, 1, none⟩ = some (.slice A0_1 l0_1.length c0_1) ∧ w'.cell? ⟨gb451, 2, none⟩ = some (.int .i64 a0_2) ∧ w'.cell? ⟨gb451, 3, none⟩ = some (.int .i64 a0_3)) (ds := []) #[false, false, false, false, false, false, false, false, false, false] (by kernel_rfl) rfl rfl ⟨(blk_cell BK451.out 0).trans rfl, (blk_cell BK451.out 1).trans rfl, (blk_cell BK451.out 2).trans rfl, (blk_cell BK451.out 3).trans rfl⟩ (fun hHeld => ?_); refine with_tabW glidepathref02_CopyCase.tab1 glidepathref02_CopyCase.bits1 (fun HT_ HW_ => ?_)
 generalize w5.drew = w6 at BK451 BK452 HB hHeld ⊢
 refine pureZ (i := 0) (N := some 3) #[true, false, false, false, false, false, false, false, false, false] HT_ ?_
 refine pureZ (i := 3) (N := some 6) #[true, false, false, true, false, false, false, false, false, false] HT_ ?_
 refine pureZ (i := 6) (N := some 9) #[true, false, false, true, false, false, true, false, false, false] HT_ ?_
 refine take_ (i := 1) (N := some 4) (v := ?_) (a' := ?_) #[true, true, false, true, false, false, true, false, false, false] rfl rfl (take_ofW HT_.out HW_.out (by kernel_rfl)) (fun _ _ _ h => h) (Or.inl ⟨by rfl, ?_⟩) hHeld ?_ ?_
 rotate_left
 ·rintro w' ⟨s0, s1, s2, s3⟩
  go_simp
  with_reducible rfl
 rotate_left
 ·exact pz
 refine take_ (i := 4) (N := some 7) (v := ?_) (a' := ?_) #[true, true, false, true, true, false, true, false, false, false] rfl rfl (take_ofW HT_.out HW_.out (by kernel_rfl)) (fun _ _ _ h => h) (Or.inl ⟨by rfl, ?_⟩) hHeld ?_ ?_
 rotate_left
 ·rintro w' ⟨s0, s1, s2, s3⟩
  go_simp
  with_reducible rfl
 rotate_left
 ·exact pz
 refine take_ (i := 7) (N := some 10) (v := ?_) (a' := ?_) #[true, true, false, true, true, false, true, true, false, false] rfl rfl (take_ofW HT_.out HW_.out (by kernel_rfl)) (fun _ _ _ h => h) (Or.inl ⟨by rfl, ?_⟩) hHeld ?_ ?_
 rotate_left
 ·rintro w' ⟨s0, s1, s2, s3⟩
  go_simp
  with_reducible rfl
 rotate_left
 ·exact pz
 refine one_ (i := 2) (N := some 5) #[true, true, true, true, true, false, true, true, false, false] rfl rfl (one_of HT_.out (by kernel_rfl)) (by decide) (fun K hK => ?_)
 refine goes_ Tryd.func33 (by kernel_rfl) rfl #[.slice A0_0 l0_0.length c0_0] (by rfl) rfl rfl mz ?_
 with_reducible refine (glidepathbase_CopyInts.calls _ _ l0_0 t453 _ ?side1 ?side2 A2.out).mono ?_
 (case side1 => exact bc (Kd.C_below HR0_0.out HB.out))
 (case side2 => exact HC0_0.out)
 rintro e w7 ⟨v454, rfl, ho0, hb⟩
 refine ⟨_, rfl, ?_⟩
 have HO455 := Aside0.mk (Kd.R_lower ho0 (below_size bz)); replace BK451 := bb BK451 hb; replace BK452 := bb BK452 hb; replace HB := sb HB hb
 (try clear hb)
 (try clear hb2)
 (try clear hk)
 (try clear hi)
 (try clear ho0)
 refine hK.out _ _ ⟨(blk_cell BK451.out 0).trans rfl, (blk_cell BK451.out 1).trans rfl, (blk_cell BK451.out 2).trans rfl, (blk_cell BK451.out 3).trans rfl⟩ (fun hHeld => ?_)
 clear hK K
 refine norm_ (a' := ?_) ?_ ?_
 rotate_left
 ·show Act.put _ (some 5) _ = _
  exact pz
 refine one_ (i := 5) (N := some 8) #[true, true, true, true, true, true, true, true, false, false] rfl rfl (one_of HT_.out (by kernel_rfl)) (by decide) (fun K hK => ?_)
 refine goes_ Tryd.func52 (by kernel_rfl) rfl #[.agg #[.slice A0_1 l0_1.length c0_1]] (by rfl) rfl rfl mz ?_
 with_reducible refine (glidepathref02_CopyNoise.calls _ _ l0_1 t456 _ ?side1 ?side2 A3.out).mono ?_
 (case side1 => exact bc (Kd.C_below HR0_1.out HB.out))
 (case side2 => exact HC0_1.out)
 rintro e w8 ⟨v457, rfl, ho0, hb⟩
 refine ⟨_, rfl, ?_⟩
 have HO458 := Aside0.mk (Kd.R_lower (Kd.R_new' ho0 (Kd.R_lt (br HO455.out))) (below_size bz)); replace HO455 := Aside0.mk (Kd.R_elder' (br HO455.out) (Kd.R_base ho0) hb); replace BK451 := bb BK451 hb; replace BK452 := bb BK452 hb; replace HB := sb HB hb
 (try clear hb)
 (try clear hb2)
 (try clear hk)
 (try clear hi)
 (try clear ho0)
 obtain ⟨Ao9, co9, eo9⟩ := Kd.R_slice HO458.out
 (first | subst eo9 | (injection eo9 with f1_ f2_ f3_; have f4_ := f1_.symm; have f5_ := f3_.symm; clear f1_ f2_ f3_; subst f4_; subst f5_))
 obtain ⟨Ao10, co10, eo10⟩ := Kd.R_slice HO455.out
 (first | subst eo10 | (injection eo10 with f1_ f2_ f3_; have f4_ := f1_.symm; have f5_ := f3_.symm; clear f1_ f2_ f3_; subst f4_; subst f5_))
 refine hK.out _ _ ⟨(blk_cell BK451.out 0).trans rfl, (blk_cell BK451.out 1).trans rfl, (blk_cell BK451.out 2).trans rfl, (blk_cell BK451.out 3).trans rfl⟩ (fun hHeld => ?_)
 clear hK K
 refine norm_ (a' := ?_) ?_ ?_
 rotate_left
 ·show Act.put _ (some 8) _ = _
  exact pz
 refine pureZ (i := 8) (N := some 11) #[true, true, true, true, true, true, true, true, true, false] HT_ ?_
 refine one_ (i := 9) (N := none) #[true, true, true, true, true, true, true, true, true, true] rfl rfl (one_of HT_.out (by kernel_rfl)) (by decide) (fun K hK => ?_)
 have hs11 : w8.cell? ⟨gb452, 0, none⟩ = some (.slice none 0 0) := (blk_cell BK452.out 0).trans rfl
 have hfs11 := blk_frozen BK452.out 0
 have hns11_0 := NB451_452.out
 have hms11_0 := NB452_451.out
 have hs12 : w8.cell? ⟨gb452, 1, none⟩ = some (.slice none 0 0) := (blk_cell BK452.out 1).trans rfl
 have hfs12 := blk_frozen BK452.out 1
 have hns12_0 := NB451_452.out
 have hms12_0 := NB452_451.out
 have hs13 : w8.cell? ⟨gb452, 2, none⟩ = some (.int .i64 0) := (blk_cell BK452.out 2).trans rfl
 have hfs13 := blk_frozen BK452.out 2
 have hns13_0 := NB451_452.out
 have hms13_0 := NB452_451.out
 have hs14 : w8.cell? ⟨gb452, 3, none⟩ = some (.int .i64 0) := (blk_cell BK452.out 3).trans rfl
 have hfs14 := blk_frozen BK452.out 3
 have hns14_0 := NB451_452.out
 have hms14_0 := NB452_451.out
 refine skip_ (w1 := ?_) (by rfl) rfl ?_ ?_
 rotate_left
 ·go_simp
  rfl
 refine hK.out _ _ ⟨((cell_far (p := ⟨gb452, _, none⟩) NB451_452.out _).trans (((cell_far (p := ⟨gb452, _, none⟩) NB451_452.out _).trans (((cell_far (p := ⟨gb452, _, none⟩) NB451_452.out _).trans (((cell_far (p := ⟨gb452, _, none⟩) NB451_452.out _).trans (hHeld.1)))))))), ((cell_far (p := ⟨gb452, _, none⟩) NB451_452.out _).trans (((cell_far (p := ⟨gb452, _, none⟩) NB451_452.out _).trans (((cell_far (p := ⟨gb452, _, none⟩) NB451_452.out _).trans (((cell_far (p := ⟨gb452, _, none⟩) NB451_452.out _).trans (hHeld.2.1)))))))), ((cell_far (p := ⟨gb452, _, none⟩) NB451_452.out _).trans (((cell_far (p := ⟨gb452, _, none⟩) NB451_452.out _).trans (((cell_far (p := ⟨gb452, _, none⟩) NB451_452.out _).trans (((cell_far (p := ⟨gb452, _, none⟩) NB451_452.out _).trans (hHeld.2.2.1)))))))), ((cell_far (p := ⟨gb452, _, none⟩) NB451_452.out _).trans (((cell_far (p := ⟨gb452, _, none⟩) NB451_452.out _).trans (((cell_far (p := ⟨gb452, _, none⟩) NB451_452.out _).trans (((cell_far (p := ⟨gb452, _, none⟩) NB451_452.out _).trans (hHeld.2.2.2))))))))⟩ (fun hHeld => ?_)
 clear hK K
 refine done_ (done_of HT_.out (by kernel_rfl)) ?_
 try go_wp2
 refine bodyPost_ret (results_cell_row rfl _ _ gb452 28 #[.slice Ao10 t453.length co10, .slice Ao9 t456.length co9, .int .i64 a0_2, .int .i64 a0_3] (0, 0) _ rfl (by (with_reducible repeat (first | refine blk_drewN ?_ _ | refine blk_drew ?_ | refine blk_alloc ?_ _)); refine blk_put (cs := #[.slice Ao10 t453.length co10, .slice Ao9 t456.length co9, .int .i64 a0_2, .int .i64 0]) ?_ 3 _ rfl; (with_reducible repeat (first | refine blk_drewN ?_ _ | refine blk_drew ?_ | refine blk_alloc ?_ _)); refine blk_put (cs := #[.slice Ao10 t453.length co10, .slice Ao9 t456.length co9, .int .i64 0, .int .i64 0]) ?_ 2 _ rfl; (with_reducible repeat (first | refine blk_drewN ?_ _ | refine blk_drew ?_ | refine blk_alloc ?_ _)); refine blk_put (cs := #[.slice Ao10 t453.length co10, .slice none 0 0, .int .i64 0, .int .i64 0]) ?_ 1 _ rfl; (with_reducible repeat (first | refine blk_drewN ?_ _ | refine blk_drew ?_ | refine blk_alloc ?_ _)); refine blk_put (cs := #[.slice none 0 0, .slice none 0 0, .int .i64 0, .int .i64 0]) ?_ 0 _ rfl; (with_reducible repeat (first | refine blk_drewN ?_ _ | refine blk_drew ?_ | refine blk_alloc ?_ _)); exact BK452.out) Tryd.underlying28 rfl (by kernel_rfl)) rfl ?_
 exact ⟨_, _, by first | rfl | (simp [errW_none, errW_some] <;> rfl) | (simp [*, errW_none, errW_some] <;> rfl), by (with_reducible repeat (first | apply Kd.R_alloc | apply Kd.R_drewN | apply Kd.R_drew)); exact Kd.R_mono (Kd.R_far (p := ⟨gb452, 3, none⟩) (Kd.R_far (p := ⟨gb452, 2, none⟩) (Kd.R_far (p := ⟨gb452, 1, none⟩) (Kd.R_far (p := ⟨gb452, 0, none⟩) (Kd.R_types HO455.out BK452.out (by decide)) (fun _ hk => hk.2) (.slice Ao10 t453.length co10)) (fun _ hk => hk.2) (.slice Ao9 t456.length co9)) (fun _ hk => hk.2) (.int .i64 a0_2)) (fun _ hk => hk.2) (.int .i64 a0_3)) (fun _ hk => hk.1.2), by (with_reducible repeat (first | apply Kd.R_alloc | apply Kd.R_drewN | apply Kd.R_drew)); exact Kd.R_mono (Kd.R_far (p := ⟨gb452, 3, none⟩) (Kd.R_far (p := ⟨gb452, 2, none⟩) (Kd.R_far (p := ⟨gb452, 1, none⟩) (Kd.R_far (p := ⟨gb452, 0, none⟩) (Kd.R_types HO458.out BK452.out (by decide)) (fun _ hk => hk.2) (.slice Ao10 t453.length co10)) (fun _ hk => hk.2) (.slice Ao9 t456.length co9)) (fun _ hk => hk.2) (.int .i64 a0_2)) (fun _ hk => hk.2) (.int .i64 a0_3)) (fun _ hk => hk.1.2), by repeat (first | (with_reducible first | exact HB.out | apply below_alloc | apply pw_below_drewN | apply below_drew1 | refine below_set ?_ GE451.out | refine below_set ?_ GE452.out) | exact HB.out)⟩
end
section
def glidepathref02_Noisy.l0 : Nat → List Int → Int → List Int → Int → List Int → Option (List Int)
 | 0, _, _, _, _, _ => none
 | k + 1, x0, x2, x7, x8, x463000 => if x8 < (x0.length : Int) then (if 0 ≤ x8 then (if (x463000.length : Int) = 0 then (none) else (if 0 ≤ (Int.tmod x2 (x463000.length : Int)) then (if (Int.tmod x2 (x463000.length : Int)) < (x463000.length : Int) then (if x7.length < 17592186044416 then (glidepathref02_Noisy.l0 k x0 (wrap64 (Int.tdiv x2 (x463000.length : Int))) (x7 ++ [wrap64 ((rd x0 x8) + (rd x463000 (Int.tmod x2 (x463000.length : Int))))]) (wrap64 (x8 + 1)) x463000) else (none)) else (none)) else (none))) else (none)) else (some x7)
def glidepathref02_Noisy.f (k : Nat) (l0 : List Int) (l1_0 : List Int) (a2 : Int) : Option (List Int) := glidepathref02_Noisy.l0 k l0 a2 ([] : List Int) 0 l1_0
theorem glidepathref02_Noisy.mono_l : ∀ k, (∀ y0 y1 y2 y3 y4, LeO (glidepathref02_Noisy.l0 k y0 y1 y2 y3 y4) (glidepathref02_Noisy.l0 (k + 1) y0 y1 y2 y3 y4))
 | 0 => fun _ _ _ _ _ r h => by simp [glidepathref02_Noisy.l0] at h
 | k + 1 => by
  have ih0 := glidepathref02_Noisy.mono_l k
  ·intro y0 y1 y2 y3 y4
   unfold glidepathref02_Noisy.l0
   repeat' first
   | (with_reducible exact ih0 _ _ _ _ _)
   | (with_reducible exact LeO.refl _)
   | (with_reducible exact LeO.none _)
   | (with_reducible refine LeO.ite ?_ ?_)
   | (with_reducible refine LeO.bind ?_ (fun _ => ?_))
   | exact ih0 _ _ _ _ _
   | exact LeO.none _
   | refine LeO.ite ?_ ?_
   | refine LeO.bind ?_ (fun _ => ?_)
theorem glidepathref02_Noisy.mono : ∀ a0 a1 a2 k, LeO (glidepathref02_Noisy.f k a0 a1 a2) (glidepathref02_Noisy.f (k + 1) a0 a1 a2) := by
 intro a0 a1 a2 k
 have ih0 := glidepathref02_Noisy.mono_l k
 unfold glidepathref02_Noisy.f
 repeat' first
   | (with_reducible exact ih0 _ _ _ _ _)
   | (with_reducible exact LeO.refl _)
   | (with_reducible exact LeO.none _)
   | (with_reducible refine LeO.ite ?_ ?_)
   | (with_reducible refine LeO.bind ?_ (fun _ => ?_))
   | exact ih0 _ _ _ _ _
   | exact LeO.none _
   | refine LeO.ite ?_ ?_
   | refine LeO.bind ?_ (fun _ => ?_)
def glidepathref02_Noisy.T5 : Bool × List (List Nat × List Nat) := (true, [([], []), ([], []), ([], []), ([1, 2], [1, 2]), ([3], [3]), ([], []), ([5], [5]), ([], []), ([], []), ([8], [8]), ([9], [9]), ([7, 10], [7, 10]), ([6, 11], [6, 11]), ([12], [12]), ([4, 13], [4, 13]), ([14], [14]), ([0, 15], [0, 15]), ([16, 16, 0, 1, 2, 3, 4, 5, 6, 7, 8, 9, 10, 11, 12, 13, 14, 15, 16], [0, 16])])
def glidepathref02_Noisy.B5 : List Nat := [0, 0, 0, 6, 14, 0, 32, 0, 0, 256, 768, 1920, 4064, 8160, 16382, 32766, 65535, 131071]
theorem glidepathref02_Noisy.tab5 : rtab .any (opsOf Tryd.f58 5) = glidepathref02_Noisy.T5 := by kernel_rfl
theorem glidepathref02_Noisy.bits5 : waitsOk glidepathref02_Noisy.T5.2 glidepathref02_Noisy.B5 = true := by kernel_rfl
set_option maxHeartbeats 8000000 in
set_option maxRecDepth 100000 in
theorem glidepathref02_Noisy.calls (k : Nat) (A0 : Option Addr) (c0 : Nat) (l0 : List Int) (A1_0 : Option Addr) (c1_0 : Nat) (l1_0 : List Int) (a2 : Int) (r : List Int) (w : World) (hr0 : Kd.C (Kd.int .i64) w A0 l0.length l0) (hc0 : l0.length ≤ c0) (hr1_0 : Kd.C (Kd.int .i64) w A1_0 l1_0.length l1_0) (hc1_0 : l1_0.length ≤ c1_0) (h : glidepathref02_Noisy.f k l0 l1_0 a2 = some r) :
  Calls Tryd.prog 58 #[.slice A0 l0.length c0, .agg #[.slice A1_0 l1_0.length c1_0], .int .i64 a2] w fun e w' => ∃ v0_ : Value, e = .returned (v0_) ∧ Kd.R (Kd.int .i64) 3 w' w.heap.size (fun _ => True) v0_ r ∧ Below w.heap.size w w' := by
 have hu24 := Tryd.underlying24
 have HR0 := Aside0.mk hr0
 have HC0 := Aside0.mk hc0
 clear hr0 hc0
 have HR1_0 := Aside0.mk hr1_0
 have HC1_0 := Aside0.mk hc1_0
 clear hr1_0 hc1_0
 have HB := Aside0.mk (Below.refl w.heap.size w)
 have H : (glidepathref02_Noisy.l0 k l0 a2 ([] : List Int) 0 l1_0) = some r := h
 clear h
 have H' := Aside0.mk H
 clear H
 go_enter Tryd.func58, Tryd.ntmps58
 go_wp2_with (first | ((with_reducible refine gate_dst (N := 4) rfl ?_); refine be 4 24 #[.slice A1_0 l1_0.length c1_0] ?_; intro gb462 hg w4 hbox hb; have BK462 := Aside0.mk hbox; have GW462 := Aside0.mk (bg (n := w.heap.size) hg); have GE462 := Aside0.mk (bg (n := w.heap.size) hg); replace HB := sb HB hb; clear hb hbox hg))
 go_loopg [2, 7, 8] k (fun kq v2 v7 v8 w' => ∃ (x2_1 : Int) (x7_1 : List Int) (x8_1 : Int), v2 = .int .i64 x2_1 ∧ v8 = .int .i64 x8_1 ∧ Aside0 (glidepathref02_Noisy.l0 kq l0 x2_1 x7_1 x8_1 l1_0 = some r) ∧ Aside0 (kq ≤ k) ∧ Aside0 (Kd.R (Kd.int .i64) 3 w' w.heap.size (fun _ => True) v7 x7_1) ∧ Aside0 (w'.heap[gb462]? = some (.cells #[(.slice A1_0 l1_0.length c1_0)] 24 (0, 0))) ∧ Aside0 (Below w.heap.size w w'))
 case atStart => exact ⟨(a2), (([] : List Int)), (0), (by first | rfl | (simp; done) | (simp [*]; done)), (by first | rfl | (simp; done) | (simp [*]; done)), H', ⟨Nat.le_refl _⟩, ⟨by first | exact Kd.R_nil _ _ _ _ _ | exact Kd.N_nil _ _ _ _ _ | exact Kd.V_nil _ _ _ _ _ | exact Kd.Q_nil _ _ _ _ _ | exact Kd.S_nil _ _ _ _ _⟩, ⟨by (with_reducible repeat (first | refine blk_drewN ?_ _ | refine blk_drew ?_ | refine blk_alloc ?_ _)); exact BK462.out⟩, ⟨by repeat (first | (with_reducible first | exact HB.out | apply below_alloc | apply pw_below_drewN | apply below_drew1 | refine below_set ?_ GE462.out) | exact HB.out)⟩⟩
 case round =>
  clear H'
  try clear c1
  try clear p2
  obtain ⟨x2_1, x7_1, x8_1, rfl, rfl, HA, HK1, HO_7, BK462, HB⟩ := hrel
  cases gk with
  | zero => exact absurd HA.out (by simp [glidepathref02_Noisy.l0])
  | succ k1 =>
   have H := HA.out
   clear HA
   simp only [glidepathref02_Noisy.l0] at H
   by_cases c5 : x8_1 < (l0.length : Int)
   ·rw [if_pos c5] at H
    have c5b0 := decide_eq_true c5
    clear c5
    by_cases c6 : 0 ≤ x8_1
    ·rw [if_pos c6] at H
     have c6b0 := decide_eq_true c6
     clear c6
     by_cases c7 : (l1_0.length : Int) = 0
     ·rw [if_pos c7] at H
      exact absurd H (by simp)
     ·rw [if_neg c7] at H
      have c7b0 := beq_eq_false_iff_ne.mpr c7
      have c7b1 := bne_iff_ne.mpr c7
      have c7b2 : ¬ (l1_0 = []) := fun h_ => c7 (by rw [h_]; rfl)
      obtain ⟨ji8, hji8⟩ : ∃ j_ : Int, (Int.tmod x2_1 (l1_0.length : Int)) = j_ := ⟨_, rfl⟩
      replace H : (if 0 ≤ (ji8) then (if (ji8) < (l1_0.length : Int) then (if x7_1.length < 17592186044416 then (glidepathref02_Noisy.l0 k1 l0 (wrap64 (Int.tdiv x2_1 (l1_0.length : Int))) (x7_1 ++ [wrap64 ((rd l0 x8_1) + (rd l1_0 (ji8)))]) (wrap64 (x8_1 + 1)) l1_0) else (none)) else (none)) else (none)) = some r := by first | (rw [hji8] at H; exact H) | (simp only [hji8] at H ⊢; exact H)
      by_cases c9 : 0 ≤ (ji8)
      ·rw [if_pos c9] at H
       have c9b0 := decide_eq_true c9
       clear c9
       by_cases c10 : (ji8) < (l1_0.length : Int)
       ·rw [if_pos c10] at H
        have c10b0 := decide_eq_true c10
        clear c10
        by_cases c11 : x7_1.length < 17592186044416
        ·rw [if_pos c11] at H
         have LMc11 := Aside0.mk c11
         clear c11
         obtain ⟨y465, hy465⟩ : ∃ y_ : List Int, y_ = (x7_1 ++ [wrap64 ((rd l0 x8_1) + (rd l1_0 (ji8)))]) := ⟨_, rfl⟩
         replace H : (glidepathref02_Noisy.l0 k1 l0 (wrap64 (Int.tdiv x2_1 (l1_0.length : Int))) y465 (wrap64 (x8_1 + 1)) l1_0) = some r := by first | (rw [hy465]; with_reducible exact H) | (have H2_ := (Option.bind_some _ _).symm.trans H; rw [hy465]; with_reducible exact H2_) | (have H2_ := (Option.bind_some _ _).symm.trans H; with_reducible exact H2_) | with_reducible exact H | (rw [hy465]; exact H) | exact H
         have Ny465 := Aside0.mk hy465
         clear hy465
         have H' := Aside0.mk H
         clear H
         try go_wp2
         replace HO_7 := Aside0.mk (Kd.R_drew HO_7.out); replace BK462 := Aside0.mk (blk_drew BK462.out); replace HB := Aside0.mk (below_drew1 HB.out)
         have p463 : 0 ≤ (x8_1 : Int) := of_decide_eq_true (by first | (with_reducible assumption) | assumption)
         have q463 : x8_1 < (l0.length : Int) := of_decide_eq_true (by first | (with_reducible assumption) | assumption)
         obtain ⟨ad463, e463, hx463_0⟩ := Kd.at_int HR0.out x8_1 p463 q463
         have hw463_0 := hx463_0
         cases e463
         replace hx463_0 := (HB.out.cell (World.block_lt_of_cell? w _ hx463_0)).trans hx463_0
         replace p463 := eq_true p463
         replace q463 := eq_true q463
         have p464 : 0 ≤ ((ji8) : Int) := of_decide_eq_true (by first | (with_reducible assumption) | assumption)
         have q464 : (ji8) < (l1_0.length : Int) := of_decide_eq_true (by first | (with_reducible assumption) | assumption)
         obtain ⟨ad464, e464, hx464_0⟩ := Kd.at_int HR1_0.out (ji8) p464 q464
         have hw464_0 := hx464_0
         cases e464
         replace hx464_0 := (HB.out.cell (World.block_lt_of_cell? w _ hx464_0)).trans hx464_0
         replace p464 := eq_true p464
         replace q464 := eq_true q464
         refine start_ (n := 18) (S := fun w' => w'.cell? ⟨gb462, 0, none⟩ = some (.slice (some ad464) l1_0.length c1_0) ∧ w'.cell? (ad463.add (x8_1).toNat) = some (.int .i64 (rd l0 x8_1)) ∧ w'.cell? (ad464.add ((ji8)).toNat) = some (.int .i64 (rd l1_0 (ji8)))) (ds := []) #[false, false, false, false, false, false, false, false, false, false, false, false, false, false, false, false, false, false] (by kernel_rfl) rfl rfl ⟨(blk_cell BK462.out 0).trans rfl, ((HB.out.cell (World.block_lt_of_cell? w _ hw463_0)).trans hw463_0), ((HB.out.cell (World.block_lt_of_cell? w _ hw464_0)).trans hw464_0)⟩ (fun hHeld => ?_); refine with_tabW glidepathref02_Noisy.tab5 glidepathref02_Noisy.bits5 (fun HT_ HW_ => ?_)
         generalize wr.drew = w12 at HO_7 BK462 HB hx463_0 hx464_0 hHeld ⊢
         refine pureZ (i := 0) (N := some 15) (bs 18 1) HT_ ?_
         refine pureZ (i := 1) (N := some 16) (bs 18 3) HT_ ?_
         refine pureZ (i := 2) (N := some 17) (bs 18 7) HT_ ?_
         refine pureZ (i := 3) (N := some 18) (bs 18 15) HT_ ?_
         refine pureZ (i := 5) (N := some 20) (bs 18 47) HT_ ?_
         refine pureZ (i := 7) (N := some 22) (bs 18 175) HT_ ?_
         refine pureZ (i := 8) (N := some 23) (bs 18 431) HT_ ?_
         refine take_ (i := 4) (N := some 19) (v := ?_) (a' := ?_) (bs 18 447) rfl rfl (take_ofW HT_.out HW_.out (by kernel_rfl)) (fun _ _ _ h => h) (Or.inl ⟨by rfl, ?_⟩) hHeld ?_ ?_
         rotate_left
         ·rintro w' ⟨s0, s1, s2⟩
          go_simp
          with_reducible rfl
         rotate_left
         ·exact pz
         refine take_ (i := 6) (N := some 21) (v := ?_) (a' := ?_) (bs 18 511) rfl rfl (take_ofW HT_.out HW_.out (by kernel_rfl)) (fun _ _ _ h => h) (Or.inl ⟨by rfl, ?_⟩) hHeld ?_ ?_
         rotate_left
         ·rintro w' ⟨s0, s1, s2⟩
          go_simp
          with_reducible rfl
         rotate_left
         ·exact pz
         refine take_ (i := 9) (N := some 24) (v := ?_) (a' := ?_) (bs 18 1023) rfl rfl (take_ofW HT_.out HW_.out (by kernel_rfl)) (fun _ _ _ h => h) (Or.inl ⟨by rfl, ?_⟩) hHeld ?_ ?_
         rotate_left
         ·rintro w' ⟨s0, s1, s2⟩
          go_simp
          with_reducible rfl
         rotate_left
         ·exact pz
         refine pureZ (i := 10) (N := some 25) (bs 18 2047) HT_ ?_
         refine pureZ (i := 11) (N := some 26) (bs 18 4095) HT_ ?_
         refine pureZ (i := 12) (N := some 27) (bs 18 8191) HT_ ?_
         refine take_ (i := 13) (N := some 28) (v := ?_) (a' := ?_) (bs 18 16383) rfl rfl (take_ofW HT_.out HW_.out (by kernel_rfl)) (fun _ _ _ h => h) (Or.inl ⟨by rfl, ?_⟩) hHeld ?_ ?_
         rotate_left
         ·rintro w' ⟨s0, s1, s2⟩
          go_simp
          with_reducible rfl
         rotate_left
         ·exact pz
         refine pureZ (i := 14) (N := some 29) (bs 18 32767) HT_ ?_
         refine one_ (i := 15) (N := some 30) (bs 18 65535) rfl rfl (one_of HT_.out (by kernel_rfl)) (by decide) (fun K hK => ?_)
         refine value_ (w1 := ?_) (v := ?_) (by rfl) rfl ?_ ?_
         rotate_left 2
         ·go_simp
          constructor
          ·rfl
          ·rfl
         refine hK.out _ _ ⟨(blk_cell (blk_alloc BK462.out _) 0).trans rfl, (World.cell?_alloc_lt _ _ _ (World.block_lt_of_cell? _ _ (((HB.out.cell (World.block_lt_of_cell? w _ hw463_0)).trans hw463_0)))).trans (((HB.out.cell (World.block_lt_of_cell? w _ hw463_0)).trans hw463_0)), (World.cell?_alloc_lt _ _ _ (World.block_lt_of_cell? _ _ (((HB.out.cell (World.block_lt_of_cell? w _ hw464_0)).trans hw464_0)))).trans (((HB.out.cell (World.block_lt_of_cell? w _ hw464_0)).trans hw464_0))⟩ (fun hHeld => ?_)
         clear hK K
         refine norm_ (a' := ?_) ?_ ?_
         rotate_left
         ·show Act.put _ (some 30) _ = _
          exact pz
         refine one_ (i := 16) (N := some 31) (bs 18 131071) rfl rfl (one_of HT_.out (by kernel_rfl)) (by decide) (fun K hK => ?_)
         refine Kd.R_append_step (Kd.int .i64) (w0 := w) w.heap.size (by rfl) (.tmp 15) (.tmp 30) 22 3 (.int .i64 0) 8 rfl Tryd.underlying22 info3 rfl (by decide) (by omega) u7 x7_1 (wrap64 ((rd l0 x8_1) + (rd l1_0 (ji8)))) [.int .i64 (wrap64 ((rd l0 x8_1) + (rd l1_0 (ji8))))] (fun _ => True) (fun _ => False) rfl rfl ?aP (fun _ hk => hk.elim) ?aF ?aO ?aB ?aS ?aL ?_
         (case aP => exact rfl)
         (case aB => exact bz)
         (case aF => exact (fun _ _ => trivial))
         (case aO => exact (br HO_7.out))
         (case aS => exact (below_size bz))
         (case aL => have := LMc11.out; omega)
         intro v466 w13 ho hb hg hat
         rw [← Ny465.out] at ho
         have n0_ := Aside0.mk (blk_grown (g := gb462) (o := .cells #[.slice (some ad464) l1_0.length c1_0] 24 (0, 0)) (bk BK462.out) hg (Kd.R_ne HO_7.out BK462.out (by decide))); have n1_ := Aside0.mk (hb); have n2_ := Aside0.mk (ho); clear BK462; clear HB; clear HO_7; have BK462 := n0_; have HB := n1_; have HO467 := n2_; clear n0_ n1_ n2_
         clear ho hb hg hat
         refine hK.out _ _ ⟨(blk_cell BK462.out 0).trans rfl, ((HB.out.cell (World.block_lt_of_cell? w _ hw463_0)).trans hw463_0), ((HB.out.cell (World.block_lt_of_cell? w _ hw464_0)).trans hw464_0)⟩ (fun hHeld => ?_)
         clear hK K
         refine norm_ (a' := ?_) ?_ ?_
         rotate_left
         ·show Act.put _ (some 31) _ = _
          exact pz
         refine pureZ (i := 17) (N := some 7) (bs 18 262143) HT_ ?_
         refine done_ (done_of HT_.out (by kernel_rfl)) ?_
         obtain ⟨_, _⟩ := b1 BK462
         try go_wp2
         go_roundg k1
         case measure => have := HK1.out; omega
         case rel => exact ⟨(wrap64 (Int.tdiv x2_1 (l1_0.length : Int))), (y465), (wrap64 (x8_1 + 1)), (by first | rfl | (simp; done) | (simp [*]; done)), (by first | rfl | (simp; done) | (simp [*]; done)), H', ⟨by have := HK1.out; omega⟩, ⟨by (with_reducible repeat (first | apply Kd.R_alloc | apply Kd.R_drewN | apply Kd.R_drew)); exact HO467.out⟩, ⟨by (with_reducible repeat (first | refine blk_drewN ?_ _ | refine blk_drew ?_ | refine blk_alloc ?_ _)); exact BK462.out⟩, ⟨by repeat (first | (with_reducible first | exact HB.out | apply below_alloc | apply pw_below_drewN | apply below_drew1 | refine below_set ?_ GE462.out) | exact HB.out)⟩⟩
        ·rw [if_neg c11] at H
         exact absurd H (by simp)
       ·rw [if_neg c10] at H
        exact absurd H (by simp)
      ·rw [if_neg c9] at H
       exact absurd H (by simp)
    ·rw [if_neg c6] at H
     exact absurd H (by simp)
   ·rw [if_neg c5] at H
    have c5b0 := decide_eq_false c5
    clear c5
    obtain rfl := Option.some.inj H
    go_wp2
    go_ret
    exact ⟨_, by first | rfl | (simp [errW_none, errW_some] <;> rfl) | (simp [*, errW_none, errW_some] <;> rfl), by (with_reducible repeat (first | apply Kd.R_alloc | apply Kd.R_drewN | apply Kd.R_drew)); exact HO_7.out, by repeat (first | (with_reducible first | exact HB.out | apply below_alloc | apply pw_below_drewN | apply below_drew1 | refine below_set ?_ GE462.out) | exact HB.out)⟩
end
section
def line_Noisy.f (k : Nat) (l0_0 : List Int) (l0_1 : List Int) (a0_2 : Int) (a0_3 : Int) (a1 : Int) : Option (List Int × Int) := (line_CheckCase.f k l0_0 l0_1 a0_2 a0_3).bind fun t1052 => (if t1052 = 0 then ((line_cases.f k l0_1 (l0_0.length : Int)).bind fun bt1053 => ((line_within.f a1 0 (wrap64 (bt1053.1 - 1))).bind fun t1055 => (if t1055 = true then ((line_noisy.f k l0_0 l0_1 a1).bind fun t1056 => (some (t1056, 0))) else (some (([] : List Int), 6))))) else (some (([] : List Int), t1052)))
theorem line_Noisy.mono : ∀ a0 a1 a2 a3 a4 k, LeO (line_Noisy.f k a0 a1 a2 a3 a4) (line_Noisy.f (k + 1) a0 a1 a2 a3 a4) := by
 intro a0 a1 a2 a3 a4 k
 unfold line_Noisy.f
 repeat' first
   | (with_reducible exact line_CheckCase.mono _ _ _ _ _)
   | (with_reducible exact line_cases.mono _ _ _)
   | (with_reducible exact line_noisy.mono _ _ _ _)
   | (with_reducible exact LeO.refl _)
   | (with_reducible exact LeO.none _)
   | (with_reducible refine LeO.ite ?_ ?_)
   | (with_reducible refine LeO.bind ?_ (fun _ => ?_))
   | exact line_CheckCase.mono _ _ _ _ _
   | exact line_cases.mono _ _ _
   | exact line_noisy.mono _ _ _ _
   | exact LeO.none _
   | refine LeO.ite ?_ ?_
   | refine LeO.bind ?_ (fun _ => ?_)
set_option maxHeartbeats 8000000 in
set_option maxRecDepth 100000 in
theorem line_Noisy.calls (k : Nat) (A0_0 : Option Addr) (c0_0 : Nat) (l0_0 : List Int) (A0_1 : Option Addr) (c0_1 : Nat) (l0_1 : List Int) (a0_2 : Int) (a0_3 : Int) (a1 : Int) (r1 : List Int) (r2 : Int) (w : World) (hr0_0 : Kd.C (Kd.int .i64) w A0_0 l0_0.length l0_0) (hc0_0 : l0_0.length ≤ c0_0) (hr0_1 : Kd.C (Kd.int .i64) w A0_1 l0_1.length l0_1) (hc0_1 : l0_1.length ≤ c0_1) (h : line_Noisy.f k l0_0 l0_1 a0_2 a0_3 a1 = some (r1, r2)) :
  Calls Tryd.prog 54 #[.agg #[.slice A0_0 l0_0.length c0_0, .slice A0_1 l0_1.length c0_1, .int .i64 a0_2, .int .i64 a0_3], .int .i64 a1] w fun e w' => ∃ v0_ : Value, e = .returned (.tuple #[v0_, .int .i64 r2]) ∧ Kd.R (Kd.int .i64) 3 w' w.heap.size (fun _ => True) v0_ r1 ∧ Below w.heap.size w w' := by
 have hu28 := Tryd.underlying28
 have hu24 := Tryd.underlying24
 have HR0_0 := Aside0.mk hr0_0
 have HC0_0 := Aside0.mk hc0_0
 clear hr0_0 hc0_0
 have HR0_1 := Aside0.mk hr0_1
 have HC0_1 := Aside0.mk hc0_1
 clear hr0_1 hc0_1
 have HB := Aside0.mk (Below.refl w.heap.size w)
 have H : ((line_CheckCase.f k l0_0 l0_1 a0_2 a0_3).bind fun t1052 => (if t1052 = 0 then ((line_cases.f k l0_1 (l0_0.length : Int)).bind fun bt1053 => ((line_within.f a1 0 (wrap64 (bt1053.1 - 1))).bind fun t1055 => (if t1055 = true then ((line_noisy.f k l0_0 l0_1 a1).bind fun t1056 => (some (t1056, 0))) else (some (([] : List Int), 6))))) else (some (([] : List Int), t1052)))) = some (r1, r2) := h
 clear h
 replace H := Option.bind_eq_some_iff.mp H
 obtain ⟨t1052, A30, H⟩ := H
 (try dsimp only at H)
 have A3 := Aside0.mk A30
 clear A30
 by_cases c4 : t1052 = 0
 ·rw [if_pos c4] at H
  have c4b0 := beq_iff_eq.mpr c4
  have c4b1 := bne_eq_false_iff_eq.mpr c4
  clear c4
  replace H := Option.bind_eq_some_iff.mp H
  obtain ⟨⟨t1053, t1054⟩, A50, H⟩ := H
  (try dsimp only at H)
  have A5 := Aside0.mk A50
  clear A50
  replace H := Option.bind_eq_some_iff.mp H
  obtain ⟨t1055, A60, H⟩ := H
  (try dsimp only at H)
  have A6 := Aside0.mk A60
  clear A60
  by_cases c7 : t1055 = true
  ·subst c7
   rw [if_pos rfl] at H
   replace H := Option.bind_eq_some_iff.mp H
   obtain ⟨t1056, A80, H⟩ := H
   (try dsimp only at H)
   have A8 := Aside0.mk A80
   clear A80
   simp only [Option.some.injEq, Prod.mk.injEq] at H
   obtain ⟨rfl, rfl⟩ := H
   go_enter Tryd.func54, Tryd.ntmps54
   go_wp2_with (first | ((with_reducible refine gate_dst (N := 2) rfl ?_); refine be 2 28 #[.slice A0_0 l0_0.length c0_0, .slice A0_1 l0_1.length c0_1, .int .i64 a0_2, .int .i64 a0_3] ?_; intro gb1051 hg w9 hbox hb; have BK1051 := Aside0.mk hbox; have GW1051 := Aside0.mk (bg (n := w.heap.size) hg); have GE1051 := Aside0.mk (bg (n := w.heap.size) hg); replace HB := sb HB hb; clear hb hbox hg; obtain ⟨_, _, _, _, _, _, _, _⟩ := b4 BK1051) | ((with_reducible refine gate_callee (f := 53) rfl ?_); refine gl (some 10) Tryd.func53 #[.agg #[.slice A0_0 l0_0.length c0_0, .slice A0_1 l0_1.length c0_1, .int .i64 a0_2, .int .i64 a0_3]] ?_; (with_reducible refine (line_CheckCase.calls k _ _ l0_0 _ _ l0_1 a0_2 a0_3 t1052 _ ?side1 ?side2 ?side3 ?side4 A3.out).mono ?_); (case side1 => exact bc (Kd.C_below HR0_0.out HB.out)); (case side2 => exact HC0_0.out); (case side3 => exact bc (Kd.C_below HR0_1.out HB.out)); (case side4 => exact HC0_1.out); rintro e w11 ⟨rfl, hb⟩; refine ⟨_, rfl, ?_⟩; replace BK1051 := bb BK1051 hb; replace HB := sb HB hb; (try clear hb); obtain ⟨_, _, _, _, _, _, _, _⟩ := b4 BK1051) | ((with_reducible refine gate_callee (f := 121) rfl ?_); refine gl (some 20) Tryd.func121 #[.agg #[.slice A0_1 l0_1.length c0_1], .int .i64 (l0_0.length : Int)] ?_; (with_reducible refine (line_cases.calls k _ _ l0_1 (l0_0.length : Int) t1053 t1054 _ ?side1 ?side2 A5.out).mono ?_); (case side1 => exact bc (Kd.C_below HR0_1.out HB.out)); (case side2 => exact HC0_1.out); rintro e w13 ⟨rfl, hb⟩; refine ⟨_, rfl, ?_⟩; replace BK1051 := bb BK1051 hb; replace HB := sb HB hb; (try clear hb)) | ((with_reducible refine gate_callee (f := 105) rfl ?_); refine gl (some 26) Tryd.func105 #[.int .i64 a1, .int .i64 0, .int .i64 (wrap64 (t1053 - 1))] ?_; (with_reducible refine (line_within.calls a1 0 (wrap64 (t1053 - 1)) true _ A6.out).mono ?_); rintro e w' ⟨rfl, ⟨nd, rfl⟩⟩; refine ⟨_, rfl, ?_⟩; obtain ⟨_, _, _, _, _, _, _, _⟩ := b4 BK1051) | ((with_reducible refine gate_callee (f := 123) rfl ?_); refine gl (some 33) Tryd.func123 #[.slice A0_0 l0_0.length c0_0, .agg #[.slice A0_1 l0_1.length c0_1], .int .i64 a1] ?_; (with_reducible refine (line_noisy.calls k _ _ l0_0 _ _ l0_1 a1 t1056 _ ?side1 ?side2 ?side3 ?side4 A8.out).mono ?_); (case side1 => repeat (first | exact (Kd.C_below HR0_0.out bz) | (with_reducible refine Kd.C_alloc ?_ _) | (with_reducible refine Kd.C_drewN ?_ _) | (with_reducible refine Kd.C_drew ?_))); (case side2 => exact HC0_0.out); (case side3 => repeat (first | exact (Kd.C_below HR0_1.out bz) | (with_reducible refine Kd.C_alloc ?_ _) | (with_reducible refine Kd.C_drewN ?_ _) | (with_reducible refine Kd.C_drew ?_))); (case side4 => exact HC0_1.out); rintro e w15 ⟨v1057, rfl, ho0, hb⟩; refine ⟨_, rfl, ?_⟩; have HO1058 := Aside0.mk (Kd.R_lower ho0 (below_size bz)); replace BK1051 := bb BK1051 hb; replace HB := sb HB hb; (try clear hb); (try clear ho0)))
   go_ret2
   exact ⟨_, by first | rfl | (simp [errW_none, errW_some] <;> rfl) | (simp [*, errW_none, errW_some] <;> rfl), by (with_reducible repeat (first | apply Kd.R_alloc | apply Kd.R_drewN | apply Kd.R_drew)); exact HO1058.out, by repeat (first | (with_reducible first | exact HB.out | apply below_alloc | apply pw_below_drewN | apply below_drew1 | refine below_set ?_ GE1051.out) | exact HB.out)⟩
  ·replace c7 := Bool.eq_false_iff.mpr c7
   subst c7
   rw [if_neg (show ¬ (false = true) by decide)] at H
   simp only [Option.some.injEq, Prod.mk.injEq] at H
   obtain ⟨rfl, rfl⟩ := H
   go_enter Tryd.func54, Tryd.ntmps54
   go_wp2_with (first | ((with_reducible refine gate_dst (N := 2) rfl ?_); refine be 2 28 #[.slice A0_0 l0_0.length c0_0, .slice A0_1 l0_1.length c0_1, .int .i64 a0_2, .int .i64 a0_3] ?_; intro gb1051 hg w16 hbox hb; have BK1051 := Aside0.mk hbox; have GW1051 := Aside0.mk (bg (n := w.heap.size) hg); have GE1051 := Aside0.mk (bg (n := w.heap.size) hg); replace HB := sb HB hb; clear hb hbox hg; obtain ⟨_, _, _, _, _, _, _, _⟩ := b4 BK1051) | ((with_reducible refine gate_callee (f := 53) rfl ?_); refine gl (some 10) Tryd.func53 #[.agg #[.slice A0_0 l0_0.length c0_0, .slice A0_1 l0_1.length c0_1, .int .i64 a0_2, .int .i64 a0_3]] ?_; (with_reducible refine (line_CheckCase.calls k _ _ l0_0 _ _ l0_1 a0_2 a0_3 t1052 _ ?side1 ?side2 ?side3 ?side4 A3.out).mono ?_); (case side1 => exact bc (Kd.C_below HR0_0.out HB.out)); (case side2 => exact HC0_0.out); (case side3 => exact bc (Kd.C_below HR0_1.out HB.out)); (case side4 => exact HC0_1.out); rintro e w18 ⟨rfl, hb⟩; refine ⟨_, rfl, ?_⟩; replace BK1051 := bb BK1051 hb; replace HB := sb HB hb; (try clear hb); obtain ⟨_, _, _, _, _, _, _, _⟩ := b4 BK1051) | ((with_reducible refine gate_callee (f := 121) rfl ?_); refine gl (some 20) Tryd.func121 #[.agg #[.slice A0_1 l0_1.length c0_1], .int .i64 (l0_0.length : Int)] ?_; (with_reducible refine (line_cases.calls k _ _ l0_1 (l0_0.length : Int) t1053 t1054 _ ?side1 ?side2 A5.out).mono ?_); (case side1 => exact bc (Kd.C_below HR0_1.out HB.out)); (case side2 => exact HC0_1.out); rintro e w20 ⟨rfl, hb⟩; refine ⟨_, rfl, ?_⟩; replace BK1051 := bb BK1051 hb; replace HB := sb HB hb; (try clear hb)) | ((with_reducible refine gate_callee (f := 105) rfl ?_); refine gl (some 26) Tryd.func105 #[.int .i64 a1, .int .i64 0, .int .i64 (wrap64 (t1053 - 1))] ?_; (with_reducible refine (line_within.calls a1 0 (wrap64 (t1053 - 1)) false _ A6.out).mono ?_); rintro e w' ⟨rfl, ⟨nd, rfl⟩⟩; refine ⟨_, rfl, ?_⟩))
   go_ret2
   exact ⟨_, by first | rfl | (simp [errW_none, errW_some] <;> rfl) | (simp [*, errW_none, errW_some] <;> rfl), by first | exact Kd.R_nil _ _ _ _ _ | exact Kd.N_nil _ _ _ _ _ | exact Kd.V_nil _ _ _ _ _ | exact Kd.Q_nil _ _ _ _ _ | exact Kd.S_nil _ _ _ _ _, by repeat (first | (with_reducible first | exact HB.out | apply below_alloc | apply pw_below_drewN | apply below_drew1 | refine below_set ?_ GE1051.out) | exact HB.out)⟩
 ·rw [if_neg c4] at H
  have c4b0 := beq_eq_false_iff_ne.mpr c4
  have c4b1 := bne_iff_ne.mpr c4
  simp only [Option.some.injEq, Prod.mk.injEq] at H
  obtain ⟨rfl, rfl⟩ := H
  go_enter Tryd.func54, Tryd.ntmps54
  go_wp2_with (first | ((with_reducible refine gate_dst (N := 2) rfl ?_); refine be 2 28 #[.slice A0_0 l0_0.length c0_0, .slice A0_1 l0_1.length c0_1, .int .i64 a0_2, .int .i64 a0_3] ?_; intro gb1051 hg w21 hbox hb; have BK1051 := Aside0.mk hbox; have GW1051 := Aside0.mk (bg (n := w.heap.size) hg); have GE1051 := Aside0.mk (bg (n := w.heap.size) hg); replace HB := sb HB hb; clear hb hbox hg; obtain ⟨_, _, _, _, _, _, _, _⟩ := b4 BK1051) | ((with_reducible refine gate_callee (f := 53) rfl ?_); refine gl (some 10) Tryd.func53 #[.agg #[.slice A0_0 l0_0.length c0_0, .slice A0_1 l0_1.length c0_1, .int .i64 a0_2, .int .i64 a0_3]] ?_; (with_reducible refine (line_CheckCase.calls k _ _ l0_0 _ _ l0_1 a0_2 a0_3 t1052 _ ?side1 ?side2 ?side3 ?side4 A3.out).mono ?_); (case side1 => exact bc (Kd.C_below HR0_0.out HB.out)); (case side2 => exact HC0_0.out); (case side3 => exact bc (Kd.C_below HR0_1.out HB.out)); (case side4 => exact HC0_1.out); rintro e w23 ⟨rfl, hb⟩; refine ⟨_, rfl, ?_⟩; replace BK1051 := bb BK1051 hb; replace HB := sb HB hb; (try clear hb)))
  go_ret2
  exact ⟨_, by first | rfl | (simp [errW_none, errW_some] <;> rfl) | (simp [*, errW_none, errW_some] <;> rfl), by first | exact Kd.R_nil _ _ _ _ _ | exact Kd.N_nil _ _ _ _ _ | exact Kd.V_nil _ _ _ _ _ | exact Kd.Q_nil _ _ _ _ _ | exact Kd.S_nil _ _ _ _ _, by repeat (first | (with_reducible first | exact HB.out | apply below_alloc | apply pw_below_drewN | apply below_drew1 | refine below_set ?_ GE1051.out) | exact HB.out)⟩
end
end Go.Proofs.YtjnkphmcndaijaaDoor.A
