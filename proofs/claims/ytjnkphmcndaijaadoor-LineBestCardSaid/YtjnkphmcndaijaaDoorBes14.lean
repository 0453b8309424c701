/- Walks of the program's functions (printed, made shorter), each with what it computes. -/
import Derived.Test.YtjnkphmcndaijaaDoorBes04
import Derived.Test.YtjnkphmcndaijaaDoorBes13
import Derived.Test.YtjnkphmcndaijaaDoorBes03
namespace Go.Proofs.YtjnkphmcndaijaaDoor.A
set_option maxHeartbeats 8000000
set_option maxRecDepth 100000
open Go.RowKit Go.Proofs.YtjnkphmcndaijaaDoorW.PrintWords Go.Proofs.YtjnkphmcndaijaaDoorW.PrintLast Go.Proofs.YtjnkphmcndaijaaDoorW.PrintMore
attribute [local go_sem] max2_int min2_int max_two min_two max_three min_three max_four min_four
set_option linter.unusedVariables false
set_option linter.unusedSimpArgs false
section
def Rf_FracErr.f (k : Nat) (a0_0 : Int) (a0_1 : Int) : Option (Int) := (Bs_IsLowest.f k a0_0 a0_1).bind fun t424 => (if t424 = true then ((Bs_IsSmall.f a0_0 a0_1).bind fun t425 => (if t425 = true then (some 0) else (some 2))) else (some 3))
theorem Rf_FracErr.mono : ∀ a0 a1 k, LeO (Rf_FracErr.f k a0 a1) (Rf_FracErr.f (k + 1) a0 a1) := by
 intro a0 a1 k
 unfold Rf_FracErr.f
 repeat' first
   | (with_reducible exact Bs_IsLowest.mono _ _ _)
   | (with_reducible exact LeO.refl _)
   | (with_reducible exact LeO.none _)
   | (with_reducible refine LeO.ite ?_ ?_)
   | (with_reducible refine LeO.bind ?_ (fun _ => ?_))
   | exact Bs_IsLowest.mono _ _ _
   | exact LeO.none _
   | refine LeO.ite ?_ ?_
   | refine LeO.bind ?_ (fun _ => ?_)
theorem Rf_FracErr.calls (k : Nat) (a0_0 : Int) (a0_1 : Int) (r : Int) (w : World) (h : Rf_FracErr.f k a0_0 a0_1 = some r) :
  Calls Tryd.prog 112 #[.agg #[.int .i64 a0_0, .int .i64 a0_1]] w fun e w' => e = .returned (.int .i64 r) ∧ Below w.heap.size w w' := by
 have hu26 := Tryd.underlying26
 have HB := m0 (Below.refl w.heap.size w)
 have H : ((Bs_IsLowest.f k a0_0 a0_1).bind fun t424 => (if t424 = true then ((Bs_IsSmall.f a0_0 a0_1).bind fun t425 => (if t425 = true then (some 0) else (some 2))) else (some 3))) = some r := h
 clear h
 replace H := ob H
 obtain ⟨t424, A20, H⟩ := H
 (try dsimp only at H)
 have A2 := m0 A20
 clear A20
 by_cases c3 : t424 = true
 ·subst c3
  rw [if_pos rfl] at H
  replace H := ob H
  obtain ⟨t425, A40, H⟩ := H
  (try dsimp only at H)
  have A4 := m0 A40
  clear A40
  by_cases c5 : t425 = true
  ·subst c5
   rw [if_pos rfl] at H
   obtain rfl := Option.some.inj H
   go_enter Tryd.func112, Tryd.ntmps112
   go_wp2_with (first | ((with_reducible refine gate_dst (N := 1) rfl ?_); refine be 1 26 #[.int .i64 a0_0, .int .i64 a0_1] ?_; intro gb423 hg w6 hbox hb; have BK423 := m0 hbox; have GW423 := m0 (bg (n := w.heap.size) hg); have GE423 := m0 (bg (n := w.heap.size) hg); replace HB := sb HB hb; clear hb hbox hg; obtain ⟨_, _, _, _⟩ := b2 BK423) | ((with_reducible refine gate_callee (f := 35) rfl ?_); refine gl (some 4) Tryd.func35 #[.agg #[.int .i64 a0_0, .int .i64 a0_1]] ?_; (with_reducible refine (Bs_IsLowest.calls k a0_0 a0_1 true _ A2.out).mono ?_); rintro e w8 ⟨rfl, hb⟩; refine ⟨_, rfl, ?_⟩; replace BK423 := bb BK423 hb; replace HB := sb HB hb; (try clear hb); obtain ⟨_, _, _, _⟩ := b2 BK423) | ((with_reducible refine gate_callee (f := 36) rfl ?_); refine gl (some 7) Tryd.func36 #[.agg #[.int .i64 a0_0, .int .i64 a0_1]] ?_; (with_reducible refine (Bs_IsSmall.calls a0_0 a0_1 true _ A4.out).mono ?_); rintro e w10 ⟨rfl, hb⟩; refine ⟨_, rfl, ?_⟩; replace BK423 := bb BK423 hb; replace HB := sb HB hb; (try clear hb)))
   go_ret
   exact ez
  ·replace c5 := Bool.eq_false_iff.mpr c5
   subst c5
   rw [if_neg (show ¬ (false = true) by decide)] at H
   obtain rfl := Option.some.inj H
   go_enter Tryd.func112, Tryd.ntmps112
   go_wp2_with (first | ((with_reducible refine gate_dst (N := 1) rfl ?_); refine be 1 26 #[.int .i64 a0_0, .int .i64 a0_1] ?_; intro gb423 hg w11 hbox hb; have BK423 := m0 hbox; have GW423 := m0 (bg (n := w.heap.size) hg); have GE423 := m0 (bg (n := w.heap.size) hg); replace HB := sb HB hb; clear hb hbox hg; obtain ⟨_, _, _, _⟩ := b2 BK423) | ((with_reducible refine gate_callee (f := 35) rfl ?_); refine gl (some 4) Tryd.func35 #[.agg #[.int .i64 a0_0, .int .i64 a0_1]] ?_; (with_reducible refine (Bs_IsLowest.calls k a0_0 a0_1 true _ A2.out).mono ?_); rintro e w13 ⟨rfl, hb⟩; refine ⟨_, rfl, ?_⟩; replace BK423 := bb BK423 hb; replace HB := sb HB hb; (try clear hb); obtain ⟨_, _, _, _⟩ := b2 BK423) | ((with_reducible refine gate_callee (f := 36) rfl ?_); refine gl (some 7) Tryd.func36 #[.agg #[.int .i64 a0_0, .int .i64 a0_1]] ?_; (with_reducible refine (Bs_IsSmall.calls a0_0 a0_1 false _ A4.out).mono ?_); rintro e w15 ⟨rfl, hb⟩; refine ⟨_, rfl, ?_⟩; replace BK423 := bb BK423 hb; replace HB := sb HB hb; (try clear hb)))
   go_ret
   exact ez
 ·replace c3 := Bool.eq_false_iff.mpr c3
  subst c3
  rw [if_neg (show ¬ (false = true) by decide)] at H
  obtain rfl := Option.some.inj H
  go_enter Tryd.func112, Tryd.ntmps112
  go_wp2_with (first | ((with_reducible refine gate_dst (N := 1) rfl ?_); refine be 1 26 #[.int .i64 a0_0, .int .i64 a0_1] ?_; intro gb423 hg w16 hbox hb; have BK423 := m0 hbox; have GW423 := m0 (bg (n := w.heap.size) hg); have GE423 := m0 (bg (n := w.heap.size) hg); replace HB := sb HB hb; clear hb hbox hg; obtain ⟨_, _, _, _⟩ := b2 BK423) | ((with_reducible refine gate_callee (f := 35) rfl ?_); refine gl (some 4) Tryd.func35 #[.agg #[.int .i64 a0_0, .int .i64 a0_1]] ?_; (with_reducible refine (Bs_IsLowest.calls k a0_0 a0_1 false _ A2.out).mono ?_); rintro e w18 ⟨rfl, hb⟩; refine ⟨_, rfl, ?_⟩; replace BK423 := bb BK423 hb; replace HB := sb HB hb; (try clear hb)))
  go_ret
  exact ez
end
section
def Rf_TruthErr.f (k : Nat) (a0_0 : Int) (a0_1 : Int) : Option (Int) := (Rf_FracErr.f k a0_0 a0_1).bind fun t427 => (if t427 = 0 then ((Bs_Within.f a0_0 (-100) 100).bind fun t428 => (if t428 = true then (if a0_1 > 100 then (some 2) else (some 0)) else (some 2))) else (some t427))
theorem Rf_TruthErr.mono : ∀ a0 a1 k, LeO (Rf_TruthErr.f k a0 a1) (Rf_TruthErr.f (k + 1) a0 a1) := by
 intro a0 a1 k
 unfold Rf_TruthErr.f
 repeat' first
   | (with_reducible exact Rf_FracErr.mono _ _ _)
   | (with_reducible exact LeO.refl _)
   | (with_reducible exact LeO.none _)
   | (with_reducible refine LeO.ite ?_ ?_)
   | (with_reducible refine LeO.bind ?_ (fun _ => ?_))
   | exact Rf_FracErr.mono _ _ _
   | exact LeO.none _
   | refine LeO.ite ?_ ?_
   | refine LeO.bind ?_ (fun _ => ?_)
theorem Rf_TruthErr.calls (k : Nat) (a0_0 : Int) (a0_1 : Int) (r : Int) (w : World) (h : Rf_TruthErr.f k a0_0 a0_1 = some r) :
  Calls Tryd.prog 98 #[.agg #[.int .i64 a0_0, .int .i64 a0_1]] w fun e w' => e = .returned (.int .i64 r) ∧ Below w.heap.size w w' := by
 have hu26 := Tryd.underlying26
 have HB := m0 (Below.refl w.heap.size w)
 have H : ((Rf_FracErr.f k a0_0 a0_1).bind fun t427 => (if t427 = 0 then ((Bs_Within.f a0_0 (-100) 100).bind fun t428 => (if t428 = true then (if a0_1 > 100 then (some 2) else (some 0)) else (some 2))) else (some t427))) = some r := h
 clear h
 replace H := ob H
 obtain ⟨t427, A20, H⟩ := H
 (try dsimp only at H)
 have A2 := m0 A20
 clear A20
 by_cases c3 : t427 = 0
 ·rw [if_pos c3] at H
  have c3b0 := beq_iff_eq.mpr c3
  have c3b1 := bne_eq_false_iff_eq.mpr c3
  clear c3
  replace H := ob H
  obtain ⟨t428, A40, H⟩ := H
  (try dsimp only at H)
  have A4 := m0 A40
  clear A40
  by_cases c5 : t428 = true
  ·subst c5
   rw [if_pos rfl] at H
   by_cases c6 : a0_1 > 100
   ·rw [if_pos c6] at H
    have c6b0 := decide_eq_true c6
    clear c6
    obtain rfl := Option.some.inj H
    go_enter Tryd.func98, Tryd.ntmps98
    go_wp2_with (first | ((with_reducible refine gate_dst (N := 1) rfl ?_); refine be 1 26 #[.int .i64 a0_0, .int .i64 a0_1] ?_; intro gb426 hg w7 hbox hb; have BK426 := m0 hbox; have GW426 := m0 (bg (n := w.heap.size) hg); have GE426 := m0 (bg (n := w.heap.size) hg); replace HB := sb HB hb; clear hb hbox hg; obtain ⟨_, _, _, _⟩ := b2 BK426) | ((with_reducible refine gate_callee (f := 112) rfl ?_); refine gl (some 5) Tryd.func112 #[.agg #[.int .i64 a0_0, .int .i64 a0_1]] ?_; (with_reducible refine (Rf_FracErr.calls k a0_0 a0_1 t427 _ A2.out).mono ?_); rintro e w9 ⟨rfl, hb⟩; refine ⟨_, rfl, ?_⟩; replace BK426 := bb BK426 hb; replace HB := sb HB hb; (try clear hb); obtain ⟨_, _, _, _⟩ := b2 BK426) | ((with_reducible refine gate_callee (f := 31) rfl ?_); refine gl (some 11) Tryd.func31 #[.int .i64 a0_0, .int .i64 (-100), .int .i64 100] ?_; (with_reducible refine (Bs_Within.calls a0_0 (-100) 100 true _ A4.out).mono ?_); rintro e w' ⟨rfl, ⟨nd, rfl⟩⟩; refine ⟨_, rfl, ?_⟩))
    go_ret
    exact ez
   ·rw [if_neg c6] at H
    have c6b0 := decide_eq_false c6
    clear c6
    obtain rfl := Option.some.inj H
    go_enter Tryd.func98, Tryd.ntmps98
    go_wp2_with (first | ((with_reducible refine gate_dst (N := 1) rfl ?_); refine be 1 26 #[.int .i64 a0_0, .int .i64 a0_1] ?_; intro gb426 hg w11 hbox hb; have BK426 := m0 hbox; have GW426 := m0 (bg (n := w.heap.size) hg); have GE426 := m0 (bg (n := w.heap.size) hg); replace HB := sb HB hb; clear hb hbox hg; obtain ⟨_, _, _, _⟩ := b2 BK426) | ((with_reducible refine gate_callee (f := 112) rfl ?_); refine gl (some 5) Tryd.func112 #[.agg #[.int .i64 a0_0, .int .i64 a0_1]] ?_; (with_reducible refine (Rf_FracErr.calls k a0_0 a0_1 t427 _ A2.out).mono ?_); rintro e w13 ⟨rfl, hb⟩; refine ⟨_, rfl, ?_⟩; replace BK426 := bb BK426 hb; replace HB := sb HB hb; (try clear hb); obtain ⟨_, _, _, _⟩ := b2 BK426) | ((with_reducible refine gate_callee (f := 31) rfl ?_); refine gl (some 11) Tryd.func31 #[.int .i64 a0_0, .int .i64 (-100), .int .i64 100] ?_; (with_reducible refine (Bs_Within.calls a0_0 (-100) 100 true _ A4.out).mono ?_); rintro e w' ⟨rfl, ⟨nd, rfl⟩⟩; refine ⟨_, rfl, ?_⟩))
    go_ret
    exact ez
  ·replace c5 := Bool.eq_false_iff.mpr c5
   subst c5
   rw [if_neg (show ¬ (false = true) by decide)] at H
   obtain rfl := Option.some.inj H
   go_enter Tryd.func98, Tryd.ntmps98
   go_wp2_with (first | ((with_reducible refine gate_dst (N := 1) rfl ?_); refine be 1 26 #[.int .i64 a0_0, .int .i64 a0_1] ?_; intro gb426 hg w15 hbox hb; have BK426 := m0 hbox; have GW426 := m0 (bg (n := w.heap.size) hg); have GE426 := m0 (bg (n := w.heap.size) hg); replace HB := sb HB hb; clear hb hbox hg; obtain ⟨_, _, _, _⟩ := b2 BK426) | ((with_reducible refine gate_callee (f := 112) rfl ?_); refine gl (some 5) Tryd.func112 #[.agg #[.int .i64 a0_0, .int .i64 a0_1]] ?_; (with_reducible refine (Rf_FracErr.calls k a0_0 a0_1 t427 _ A2.out).mono ?_); rintro e w17 ⟨rfl, hb⟩; refine ⟨_, rfl, ?_⟩; replace BK426 := bb BK426 hb; replace HB := sb HB hb; (try clear hb); obtain ⟨_, _, _, _⟩ := b2 BK426) | ((with_reducible refine gate_callee (f := 31) rfl ?_); refine gl (some 11) Tryd.func31 #[.int .i64 a0_0, .int .i64 (-100), .int .i64 100] ?_; (with_reducible refine (Bs_Within.calls a0_0 (-100) 100 false _ A4.out).mono ?_); rintro e w' ⟨rfl, ⟨nd, rfl⟩⟩; refine ⟨_, rfl, ?_⟩))
   go_ret
   exact ez
 ·rw [if_neg c3] at H
  have c3b0 := beq_eq_false_iff_ne.mpr c3
  have c3b1 := bne_iff_ne.mpr c3
  obtain rfl := Option.some.inj H
  go_enter Tryd.func98, Tryd.ntmps98
  go_wp2_with (first | ((with_reducible refine gate_dst (N := 1) rfl ?_); refine be 1 26 #[.int .i64 a0_0, .int .i64 a0_1] ?_; intro gb426 hg w19 hbox hb; have BK426 := m0 hbox; have GW426 := m0 (bg (n := w.heap.size) hg); have GE426 := m0 (bg (n := w.heap.size) hg); replace HB := sb HB hb; clear hb hbox hg; obtain ⟨_, _, _, _⟩ := b2 BK426) | ((with_reducible refine gate_callee (f := 112) rfl ?_); refine gl (some 5) Tryd.func112 #[.agg #[.int .i64 a0_0, .int .i64 a0_1]] ?_; (with_reducible refine (Rf_FracErr.calls k a0_0 a0_1 t427 _ A2.out).mono ?_); rintro e w21 ⟨rfl, hb⟩; refine ⟨_, rfl, ?_⟩; replace BK426 := bb BK426 hb; replace HB := sb HB hb; (try clear hb)))
  go_ret
  exact ez
end
section
def Rf_CaseErr.l0 : Nat → Int → List Int → List Int → Int → Int → Option (Int)
  | 0, _, _, _, _, _ => none
  | k + 1, x5, x430000, x430001, x430002, x430003 => if x5 < (x430000.length : Int) then (if 0 ≤ x5 then (if (rd x430000 x5) > 9000 then (some 2) else (Rf_CaseErr.l0 k (wrap64 (x5 + 1)) x430000 x430001 x430002 x430003)) else (none)) else ((Rf_Cases.f k x430001 (x430000.length : Int)).bind fun t433 => (if t433 > 4096 then (some 8) else ((Rf_TruthErr.f k x430002 x430003).bind fun t434 => (some t434))))
def Rf_CaseErr.f (k : Nat) (l0_0 : List Int) (l0_1 : List Int) (a0_2 : Int) (a0_3 : Int) : Option (Int) := (Rf_SpectrumErr.f k l0_0).bind fun t430 => (if t430 = 0 then ((Rf_NoiseErr.f k l0_1).bind fun t431 => (if t431 = 0 then (Rf_CaseErr.l0 k 0 l0_0 l0_1 a0_2 a0_3) else (some t431))) else (some t430))
theorem Rf_CaseErr.mono_l : ∀ k, (∀ y0 y1 y2 y3 y4, LeO (Rf_CaseErr.l0 k y0 y1 y2 y3 y4) (Rf_CaseErr.l0 (k + 1) y0 y1 y2 y3 y4))
  | 0 => fun _ _ _ _ _ r h => by simp [Rf_CaseErr.l0] at h
  | k + 1 => by
    have ih0 := Rf_CaseErr.mono_l k
    · intro y0 y1 y2 y3 y4
      unfold Rf_CaseErr.l0
      repeat' first
      | (with_reducible exact ih0 _ _ _ _ _)
      | (with_reducible exact Rf_Cases.mono _ _ _)
      | (with_reducible exact Rf_NoiseErr.mono _ _)
      | (with_reducible exact Rf_SpectrumErr.mono _ _)
      | (with_reducible exact Rf_TruthErr.mono _ _ _)
      | (with_reducible exact LeO.refl _)
      | (with_reducible exact LeO.none _)
      | (with_reducible refine LeO.ite ?_ ?_)
      | (with_reducible refine LeO.bind ?_ (fun _ => ?_))
      | exact ih0 _ _ _ _ _
      | exact Rf_Cases.mono _ _ _
      | exact Rf_NoiseErr.mono _ _
      | exact Rf_SpectrumErr.mono _ _
      | exact Rf_TruthErr.mono _ _ _
      | exact LeO.none _
      | refine LeO.ite ?_ ?_
      | refine LeO.bind ?_ (fun _ => ?_)
theorem Rf_CaseErr.mono : ∀ a0 a1 a2 a3 k, LeO (Rf_CaseErr.f k a0 a1 a2 a3) (Rf_CaseErr.f (k + 1) a0 a1 a2 a3) := by
  intro a0 a1 a2 a3 k
  have ih0 := Rf_CaseErr.mono_l k
  unfold Rf_CaseErr.f
  repeat' first
      | (with_reducible exact ih0 _ _ _ _ _)
      | (with_reducible exact Rf_Cases.mono _ _ _)
      | (with_reducible exact Rf_NoiseErr.mono _ _)
      | (with_reducible exact Rf_SpectrumErr.mono _ _)
      | (with_reducible exact Rf_TruthErr.mono _ _ _)
      | (with_reducible exact LeO.refl _)
      | (with_reducible exact LeO.none _)
      | (with_reducible refine LeO.ite ?_ ?_)
      | (with_reducible refine LeO.bind ?_ (fun _ => ?_))
      | exact ih0 _ _ _ _ _
      | exact Rf_Cases.mono _ _ _
      | exact Rf_NoiseErr.mono _ _
      | exact Rf_SpectrumErr.mono _ _
      | exact Rf_TruthErr.mono _ _ _
      | exact LeO.none _
      | refine LeO.ite ?_ ?_
      | refine LeO.bind ?_ (fun _ => ?_)
theorem Rf_CaseErr.calls (k : Nat) (A0_0 : Option Addr) (c0_0 : Nat) (l0_0 : List Int) (A0_1 : Option Addr) (c0_1 : Nat) (l0_1 : List Int) (a0_2 : Int) (a0_3 : Int) (r : Int) (w : World) (hr0_0 : Kd.C (Kd.int .i64) w A0_0 l0_0.length l0_0) (hc0_0 : l0_0.length ≤ c0_0) (hr0_1 : Kd.C (Kd.int .i64) w A0_1 l0_1.length l0_1) (hc0_1 : l0_1.length ≤ c0_1) (h : Rf_CaseErr.f k l0_0 l0_1 a0_2 a0_3 = some r) :
    Calls Tryd.prog 23 #[.agg #[.slice A0_0 l0_0.length c0_0, .slice A0_1 l0_1.length c0_1, .int .i64 a0_2, .int .i64 a0_3]] w fun e w' => e = .returned (.int .i64 r) ∧ Below w.heap.size w w' := by
  have hu28 := Tryd.underlying28
  have hu24 := Tryd.underlying24
  have hu26 := Tryd.underlying26
  have HR0_0 := m0 hr0_0
  have HC0_0 := m0 hc0_0
  clear hr0_0 hc0_0
  have HR0_1 := m0 hr0_1
  have HC0_1 := m0 hc0_1
  clear hr0_1 hc0_1
  have HB := m0 (Below.refl w.heap.size w)
  have H : ((Rf_SpectrumErr.f k l0_0).bind fun t430 => (if t430 = 0 then ((Rf_NoiseErr.f k l0_1).bind fun t431 => (if t431 = 0 then (Rf_CaseErr.l0 k 0 l0_0 l0_1 a0_2 a0_3) else (some t431))) else (some t430))) = some r := h
  clear h
  replace H := ob H
  obtain ⟨t430, A20, H⟩ := H
  (try dsimp only at H)
  have A2 := m0 A20
  clear A20
  by_cases c3 : t430 = 0
  · rw [if_pos c3] at H
    have c3b0 := beq_iff_eq.mpr c3
    have c3b1 := bne_eq_false_iff_eq.mpr c3
    clear c3
    replace H := ob H
    obtain ⟨t431, A40, H⟩ := H
    (try dsimp only at H)
    have A4 := m0 A40
    clear A40
    by_cases c5 : t431 = 0
    · rw [if_pos c5] at H
      have c5b0 := beq_iff_eq.mpr c5
      have c5b1 := bne_eq_false_iff_eq.mpr c5
      clear c5
      have H' := m0 H
      clear H
      go_enter Tryd.func23, Tryd.ntmps23
      go_wp2_with (first | ((with_reducible refine gate_dst (N := 1) rfl ?_); refine be 1 28 #[.slice A0_0 l0_0.length c0_0, .slice A0_1 l0_1.length c0_1, .int .i64 a0_2, .int .i64 a0_3] ?_; intro gb429 hg w6 hbox hb; have BK429 := m0 hbox; have GW429 := m0 (bg (n := w.heap.size) hg); have GE429 := m0 (bg (n := w.heap.size) hg); replace HB := sb HB hb; clear hb hbox hg; obtain ⟨hcz7_0, hcz7_1, hcz7_2, hcz7_3, hfz7_0, hfz7_1, hfz7_2, hfz7_3⟩ := b4 BK429) | ((with_reducible refine gate_callee (f := 30) rfl ?_); refine gl (some 8) Tryd.func30 #[.slice A0_0 l0_0.length c0_0] ?_; (with_reducible refine (Rf_SpectrumErr.calls k _ _ l0_0 t430 _ ?side1 ?side2 A2.out).mono ?_); (case side1 => exact cb HR0_0 HB); (case side2 => exact HC0_0.out); rintro e w' ⟨rfl, ⟨nd, rfl⟩⟩; refine ⟨_, rfl, ?_⟩) | ((with_reducible refine gate_callee (f := 82) rfl ?_); refine gl (some 14) Tryd.func82 #[.agg #[.slice A0_1 l0_1.length c0_1]] ?_; (with_reducible refine (Rf_NoiseErr.calls k _ _ l0_1 t431 _ ?side1 ?side2 A4.out).mono ?_); (case side1 => repeat (first | exact (Kd.C_below HR0_1.out bz) | (with_reducible refine Kd.C_alloc ?_ _) | (with_reducible refine Kd.C_drewN ?_ _) | (with_reducible refine Kd.C_drew ?_))); (case side2 => exact HC0_1.out); rintro e w8 ⟨rfl, hb⟩; refine ⟨_, rfl, ?_⟩; replace BK429 := bb BK429 hb; replace HB := sb HB hb; (try clear hb)))
      go_loopg [5] k (fun kq v5 w' => ∃ (x5_1 : Int), v5 = .int .i64 x5_1 ∧ Aside0 (Rf_CaseErr.l0 kq x5_1 l0_0 l0_1 a0_2 a0_3 = some r) ∧ Aside0 (kq ≤ k) ∧ Aside0 (w'.heap[gb429]? = some (.cells #[(.slice A0_0 l0_0.length c0_0), (.slice A0_1 l0_1.length c0_1), .int .i64 a0_2, .int .i64 a0_3] 28 (0, 0))) ∧ Aside0 (Below w.heap.size w w'))
      case atStart => exact ⟨(0), (by first | rfl | (simp; done) | (simp [*]; done)), H', ⟨Nat.le_refl _⟩, ⟨bk BK429.out⟩, ⟨bz⟩⟩
      case round =>
        clear H'
        try clear c2
        try clear p2
        try clear c3
        try clear c3b0
        try clear c3b1
        try clear c5
        try clear c5b0
        try clear c5b1
        try clear c8
        try clear hcz7_0
        try clear hcz7_1
        try clear hcz7_2
        try clear hcz7_3
        try clear hfz7_0
        try clear hfz7_1
        try clear hfz7_2
        try clear hfz7_3
        obtain ⟨x5_1, rfl, HA, HK1, BK429, HB⟩ := hrel
        cases gk with
        | zero => exact absurd HA.out (by simp [Rf_CaseErr.l0])
        | succ k1 =>
          have H := HA.out
          clear HA
          simp only [Rf_CaseErr.l0] at H
          by_cases c9 : x5_1 < (l0_0.length : Int)
          · rw [if_pos c9] at H
            have c9b0 := decide_eq_true c9
            clear c9
            by_cases c10 : 0 ≤ x5_1
            · rw [if_pos c10] at H
              have c10b0 := decide_eq_true c10
              clear c10
              by_cases c11 : (rd l0_0 x5_1) > 9000
              · rw [if_pos c11] at H
                have c11b0 := decide_eq_true c11
                clear c11
                obtain rfl := Option.some.inj H
                obtain ⟨_, _, _, _, _, _, _, _⟩ := b4 BK429
                have p432 : 0 ≤ (x5_1 : Int) := of_decide_eq_true (by first | (with_reducible assumption) | assumption)
                have q432 : x5_1 < (l0_0.length : Int) := of_decide_eq_true (by first | (with_reducible assumption) | assumption)
                obtain ⟨ad432, e432, hx432_0⟩ := Kd.at_int HR0_0.out x5_1 p432 q432
                cases e432
                replace hx432_0 := (HB.out.cell (World.block_lt_of_cell? w _ hx432_0)).trans hx432_0
                replace p432 := eq_true p432
                replace q432 := eq_true q432
                go_wp2
                go_ret
                exact ez
              · rw [if_neg c11] at H
                have c11b0 := decide_eq_false c11
                clear c11
                have H' := m0 H
                clear H
                obtain ⟨_, _, _, _, _, _, _, _⟩ := b4 BK429
                have p432 : 0 ≤ (x5_1 : Int) := of_decide_eq_true (by first | (with_reducible assumption) | assumption)
                have q432 : x5_1 < (l0_0.length : Int) := of_decide_eq_true (by first | (with_reducible assumption) | assumption)
                obtain ⟨ad432, e432, hx432_0⟩ := Kd.at_int HR0_0.out x5_1 p432 q432
                cases e432
                replace hx432_0 := (HB.out.cell (World.block_lt_of_cell? w _ hx432_0)).trans hx432_0
                replace p432 := eq_true p432
                replace q432 := eq_true q432
                go_wp2
                go_roundg k1
                case measure => have := HK1.out; omega
                case rel => exact ⟨(wrap64 (x5_1 + 1)), (by first | rfl | (simp; done) | (simp [*]; done)), H', ⟨by have := HK1.out; omega⟩, ⟨bk BK429.out⟩, ⟨bz⟩⟩
            · rw [if_neg c10] at H
              exact absurd H (by simp)
          · rw [if_neg c9] at H
            have c9b0 := decide_eq_false c9
            clear c9
            replace H := ob H
            obtain ⟨t433, A140, H⟩ := H
            (try dsimp only at H)
            have A14 := m0 A140
            clear A140
            by_cases c15 : t433 > 4096
            · rw [if_pos c15] at H
              have c15b0 := decide_eq_true c15
              clear c15
              obtain rfl := Option.some.inj H
              obtain ⟨_, _, _, _, _, _, _, _⟩ := b4 BK429
              go_wp2_with (first | ((with_reducible refine gate_callee (f := 56) rfl ?_); refine gl (some 36) Tryd.func56 #[.agg #[.slice A0_1 l0_1.length c0_1], .int .i64 (l0_0.length : Int)] ?_; (with_reducible refine (Rf_Cases.calls k1 _ _ l0_1 (l0_0.length : Int) t433 _ ?side1 ?side2 A14.out).mono ?_); (case side1 => exact cb HR0_1 HB); (case side2 => exact HC0_1.out); rintro e w17 ⟨rfl, hb⟩; refine ⟨_, rfl, ?_⟩; replace BK429 := bb BK429 hb; replace HB := sb HB hb; (try clear hb)))
              go_ret
              exact ez
            · rw [if_neg c15] at H
              have c15b0 := decide_eq_false c15
              clear c15
              replace H := ob H
              obtain ⟨t434, A180, H⟩ := H
              (try dsimp only at H)
              have A18 := m0 A180
              clear A180
              obtain rfl := Option.some.inj H
              obtain ⟨_, _, _, _, _, _, _, _⟩ := b4 BK429
              go_wp2_with (first | ((with_reducible refine gate_callee (f := 56) rfl ?_); refine gl (some 36) Tryd.func56 #[.agg #[.slice A0_1 l0_1.length c0_1], .int .i64 (l0_0.length : Int)] ?_; (with_reducible refine (Rf_Cases.calls k1 _ _ l0_1 (l0_0.length : Int) t433 _ ?side1 ?side2 A14.out).mono ?_); (case side1 => exact cb HR0_1 HB); (case side2 => exact HC0_1.out); rintro e w20 ⟨rfl, hb⟩; refine ⟨_, rfl, ?_⟩; replace BK429 := bb BK429 hb; replace HB := sb HB hb; (try clear hb); obtain ⟨_, _, _, _, _, _, _, _⟩ := b4 BK429) | ((with_reducible refine gate_callee (f := 98) rfl ?_); refine gl (some 40) Tryd.func98 #[.agg #[.int .i64 a0_2, .int .i64 a0_3]] ?_; (with_reducible refine (Rf_TruthErr.calls k1 a0_2 a0_3 t434 _ A18.out).mono ?_); rintro e w22 ⟨rfl, hb⟩; refine ⟨_, rfl, ?_⟩; replace BK429 := bb BK429 hb; replace HB := sb HB hb; (try clear hb)))
              go_ret
              exact ez
    · rw [if_neg c5] at H
      have c5b0 := beq_eq_false_iff_ne.mpr c5
      have c5b1 := bne_iff_ne.mpr c5
      obtain rfl := Option.some.inj H
      go_enter Tryd.func23, Tryd.ntmps23
      go_wp2_with (first | ((with_reducible refine gate_dst (N := 1) rfl ?_); refine be 1 28 #[.slice A0_0 l0_0.length c0_0, .slice A0_1 l0_1.length c0_1, .int .i64 a0_2, .int .i64 a0_3] ?_; intro gb429 hg w23 hbox hb; have BK429 := m0 hbox; have GW429 := m0 (bg (n := w.heap.size) hg); have GE429 := m0 (bg (n := w.heap.size) hg); replace HB := sb HB hb; clear hb hbox hg; obtain ⟨_, _, _, _, _, _, _, _⟩ := b4 BK429) | ((with_reducible refine gate_callee (f := 30) rfl ?_); refine gl (some 8) Tryd.func30 #[.slice A0_0 l0_0.length c0_0] ?_; (with_reducible refine (Rf_SpectrumErr.calls k _ _ l0_0 t430 _ ?side1 ?side2 A2.out).mono ?_); (case side1 => exact cb HR0_0 HB); (case side2 => exact HC0_0.out); rintro e w' ⟨rfl, ⟨nd, rfl⟩⟩; refine ⟨_, rfl, ?_⟩) | ((with_reducible refine gate_callee (f := 82) rfl ?_); refine gl (some 14) Tryd.func82 #[.agg #[.slice A0_1 l0_1.length c0_1]] ?_; (with_reducible refine (Rf_NoiseErr.calls k _ _ l0_1 t431 _ ?side1 ?side2 A4.out).mono ?_); (case side1 => repeat (first | exact (Kd.C_below HR0_1.out bz) | (with_reducible refine Kd.C_alloc ?_ _) | (with_reducible refine Kd.C_drewN ?_ _) | (with_reducible refine Kd.C_drew ?_))); (case side2 => exact HC0_1.out); rintro e w25 ⟨rfl, hb⟩; refine ⟨_, rfl, ?_⟩; replace BK429 := bb BK429 hb; replace HB := sb HB hb; (try clear hb)))
      go_ret
      exact ez
  · rw [if_neg c3] at H
    have c3b0 := beq_eq_false_iff_ne.mpr c3
    have c3b1 := bne_iff_ne.mpr c3
    obtain rfl := Option.some.inj H
    go_enter Tryd.func23, Tryd.ntmps23
    go_wp2_with (first | ((with_reducible refine gate_dst (N := 1) rfl ?_); refine be 1 28 #[.slice A0_0 l0_0.length c0_0, .slice A0_1 l0_1.length c0_1, .int .i64 a0_2, .int .i64 a0_3] ?_; intro gb429 hg w26 hbox hb; have BK429 := m0 hbox; have GW429 := m0 (bg (n := w.heap.size) hg); have GE429 := m0 (bg (n := w.heap.size) hg); replace HB := sb HB hb; clear hb hbox hg; obtain ⟨_, _, _, _, _, _, _, _⟩ := b4 BK429) | ((with_reducible refine gate_callee (f := 30) rfl ?_); refine gl (some 8) Tryd.func30 #[.slice A0_0 l0_0.length c0_0] ?_; (with_reducible refine (Rf_SpectrumErr.calls k _ _ l0_0 t430 _ ?side1 ?side2 A2.out).mono ?_); (case side1 => exact cb HR0_0 HB); (case side2 => exact HC0_0.out); rintro e w' ⟨rfl, ⟨nd, rfl⟩⟩; refine ⟨_, rfl, ?_⟩))
    go_ret
    exact ez
end
section
def Lw_short.f (l0 : List Int) : Option (Bool) := some (decide ((l0.length : Int) ≤ 20))
theorem Lw_short.calls (A0 : Option Addr) (c0 : Nat) (l0 : List Int) (r : Bool) (w : World) (hr0 : Kd.C (Kd.int .i64) w A0 l0.length l0) (hc0 : l0.length ≤ c0) (h : Lw_short.f l0 = some r) :
  Calls Tryd.prog 50 #[.slice A0 l0.length c0] w fun e w' => e = .returned (.bool r) ∧ Drawn0 w w' := by
 have HR0 := m0 hr0
 have HC0 := m0 hc0
 clear hr0 hc0
 have H : (some (decide ((l0.length : Int) ≤ 20))) = some r := h
 clear h
 obtain rfl := Option.some.inj H
 go_enter Tryd.func50, Tryd.ntmps50
 go_wp2
 go_ret
 exact ⟨by first | rfl | (simp; done) | (simp [*]; done), by repeat (first | exact Drawn0.refl _ | apply Drawn0.step)⟩
end
section
def Lw_light.f (k : Nat) (l0_0 : List Int) (l0_1 : List Int) (a0_2 : Int) (a0_3 : Int) : Option (Bool) := (Lw_short.f l0_0).bind fun t436 => (if t436 = true then ((Lw_short.f l0_1).bind fun t437 => (if t437 = true then ((Rf_CaseErr.f k l0_0 l0_1 a0_2 a0_3).bind fun t438 => (if t438 = 0 then ((Rf_Cases.f k l0_1 (l0_0.length : Int)).bind fun t439 => (some (decide (t439 ≤ 256)))) else (some true))) else (some false))) else (some false))
theorem Lw_light.mono : ∀ a0 a1 a2 a3 k, LeO (Lw_light.f k a0 a1 a2 a3) (Lw_light.f (k + 1) a0 a1 a2 a3) := by
 intro a0 a1 a2 a3 k
 unfold Lw_light.f
 repeat' first
   | (with_reducible exact Rf_CaseErr.mono _ _ _ _ _)
   | (with_reducible exact Rf_Cases.mono _ _ _)
   | (with_reducible exact LeO.refl _)
   | (with_reducible exact LeO.none _)
   | (with_reducible refine LeO.ite ?_ ?_)
   | (with_reducible refine LeO.bind ?_ (fun _ => ?_))
   | exact Rf_CaseErr.mono _ _ _ _ _
   | exact Rf_Cases.mono _ _ _
   | exact LeO.none _
   | refine LeO.ite ?_ ?_
   | refine LeO.bind ?_ (fun _ => ?_)
theorem Lw_light.calls (k : Nat) (A0_0 : Option Addr) (c0_0 : Nat) (l0_0 : List Int) (A0_1 : Option Addr) (c0_1 : Nat) (l0_1 : List Int) (a0_2 : Int) (a0_3 : Int) (r : Bool) (w : World) (hr0_0 : Kd.C (Kd.int .i64) w A0_0 l0_0.length l0_0) (hc0_0 : l0_0.length ≤ c0_0) (hr0_1 : Kd.C (Kd.int .i64) w A0_1 l0_1.length l0_1) (hc0_1 : l0_1.length ≤ c0_1) (h : Lw_light.f k l0_0 l0_1 a0_2 a0_3 = some r) :
  Calls Tryd.prog 19 #[.agg #[.slice A0_0 l0_0.length c0_0, .slice A0_1 l0_1.length c0_1, .int .i64 a0_2, .int .i64 a0_3]] w fun e w' => e = .returned (.bool r) ∧ Below w.heap.size w w' := by
 have hu28 := Tryd.underlying28
 have hu24 := Tryd.underlying24
 have HR0_0 := m0 hr0_0
 have HC0_0 := m0 hc0_0
 clear hr0_0 hc0_0
 have HR0_1 := m0 hr0_1
 have HC0_1 := m0 hc0_1
 clear hr0_1 hc0_1
 have HB := m0 (Below.refl w.heap.size w)
 have H : ((Lw_short.f l0_0).bind fun t436 => (if t436 = true then ((Lw_short.f l0_1).bind fun t437 => (if t437 = true then ((Rf_CaseErr.f k l0_0 l0_1 a0_2 a0_3).bind fun t438 => (if t438 = 0 then ((Rf_Cases.f k l0_1 (l0_0.length : Int)).bind fun t439 => (some (decide (t439 ≤ 256)))) else (some true))) else (some false))) else (some false))) = some r := h
 clear h
 replace H := ob H
 obtain ⟨t436, A20, H⟩ := H
 (try dsimp only at H)
 have A2 := m0 A20
 clear A20
 by_cases c3 : t436 = true
 ·subst c3
  rw [if_pos rfl] at H
  replace H := ob H
  obtain ⟨t437, A40, H⟩ := H
  (try dsimp only at H)
  have A4 := m0 A40
  clear A40
  by_cases c5 : t437 = true
  ·subst c5
   rw [if_pos rfl] at H
   replace H := ob H
   obtain ⟨t438, A60, H⟩ := H
   (try dsimp only at H)
   have A6 := m0 A60
   clear A60
   by_cases c7 : t438 = 0
   ·rw [if_pos c7] at H
    have c7b0 := beq_iff_eq.mpr c7
    have c7b1 := bne_eq_false_iff_eq.mpr c7
    clear c7
    replace H := ob H
    obtain ⟨t439, A80, H⟩ := H
    (try dsimp only at H)
    have A8 := m0 A80
    clear A80
    obtain rfl := Option.some.inj H
    go_enter Tryd.func19, Tryd.ntmps19
    go_wp2_with (first | ((with_reducible refine gate_dst (N := 1) rfl ?_); (try (refine gate_guard (by rfl) ?_; dsimp only)); refine be 1 28 #[.slice A0_0 l0_0.length c0_0, .slice A0_1 l0_1.length c0_1, .int .i64 a0_2, .int .i64 a0_3] ?_; intro gb435 hg w9 hbox hb; have BK435 := m0 hbox; have GW435 := m0 (bg (n := w.heap.size) hg); have GE435 := m0 (bg (n := w.heap.size) hg); replace HB := sb HB hb; clear hb hbox hg; obtain ⟨_, _, _, _, _, _, _, _⟩ := b4 BK435) | ((with_reducible refine gate_callee (f := 50) rfl ?_); refine gl (some 5) Tryd.func50 #[.slice A0_0 l0_0.length c0_0] ?_; (with_reducible refine (Lw_short.calls _ _ l0_0 true _ ?side1 ?side2 A2.out).mono ?_); (case side1 => exact cb HR0_0 HB); (case side2 => exact HC0_0.out); rintro e w' ⟨rfl, ⟨nd, rfl⟩⟩; refine ⟨_, rfl, ?_⟩) | (go_at_call 50; (with_reducible refine (Lw_short.calls _ _ l0_1 true _ ?side1 ?side2 A4.out).mono ?_); (case side1 => repeat (first | exact (Kd.C_below HR0_1.out bz) | (with_reducible refine Kd.C_alloc ?_ _) | (with_reducible refine Kd.C_drewN ?_ _) | (with_reducible refine Kd.C_drew ?_))); (case side2 => exact HC0_1.out); rintro e w' ⟨rfl, ⟨nd, rfl⟩⟩) | (go_at_call 23; (with_reducible refine (Rf_CaseErr.calls k _ _ l0_0 _ _ l0_1 a0_2 a0_3 t438 _ ?side1 ?side2 ?side3 ?side4 A6.out).mono ?_); (case side1 => repeat (first | exact (Kd.C_below HR0_0.out bz) | (with_reducible refine Kd.C_alloc ?_ _) | (with_reducible refine Kd.C_drewN ?_ _) | (with_reducible refine Kd.C_drew ?_))); (case side2 => exact HC0_0.out); (case side3 => repeat (first | exact (Kd.C_below HR0_1.out bz) | (with_reducible refine Kd.C_alloc ?_ _) | (with_reducible refine Kd.C_drewN ?_ _) | (with_reducible refine Kd.C_drew ?_))); (case side4 => exact HC0_1.out); rintro e w11 ⟨rfl, hb⟩; replace BK435 := bb BK435 hb; replace HB := sb HB hb; (try clear hb); obtain ⟨_, _, _, _, _, _, _, _⟩ := b4 BK435) | (go_at_call 56; (with_reducible refine (Rf_Cases.calls k _ _ l0_1 (l0_0.length : Int) t439 _ ?side1 ?side2 A8.out).mono ?_); (case side1 => exact cb HR0_1 HB); (case side2 => exact HC0_1.out); rintro e w13 ⟨rfl, hb⟩; replace BK435 := bb BK435 hb; replace HB := sb HB hb; (try clear hb)))
    go_ret
    exact ez
   ·rw [if_neg c7] at H
    have c7b0 := beq_eq_false_iff_ne.mpr c7
    have c7b1 := bne_iff_ne.mpr c7
    obtain rfl := Option.some.inj H
    go_enter Tryd.func19, Tryd.ntmps19
    go_wp2_with (first | ((with_reducible refine gate_dst (N := 1) rfl ?_); (try (refine gate_guard (by rfl) ?_; dsimp only)); refine be 1 28 #[.slice A0_0 l0_0.length c0_0, .slice A0_1 l0_1.length c0_1, .int .i64 a0_2, .int .i64 a0_3] ?_; intro gb435 hg w14 hbox hb; have BK435 := m0 hbox; have GW435 := m0 (bg (n := w.heap.size) hg); have GE435 := m0 (bg (n := w.heap.size) hg); replace HB := sb HB hb; clear hb hbox hg; obtain ⟨_, _, _, _, _, _, _, _⟩ := b4 BK435) | ((with_reducible refine gate_callee (f := 50) rfl ?_); refine gl (some 5) Tryd.func50 #[.slice A0_0 l0_0.length c0_0] ?_; (with_reducible refine (Lw_short.calls _ _ l0_0 true _ ?side1 ?side2 A2.out).mono ?_); (case side1 => exact cb HR0_0 HB); (case side2 => exact HC0_0.out); rintro e w' ⟨rfl, ⟨nd, rfl⟩⟩; refine ⟨_, rfl, ?_⟩) | (go_at_call 50; (with_reducible refine (Lw_short.calls _ _ l0_1 true _ ?side1 ?side2 A4.out).mono ?_); (case side1 => repeat (first | exact (Kd.C_below HR0_1.out bz) | (with_reducible refine Kd.C_alloc ?_ _) | (with_reducible refine Kd.C_drewN ?_ _) | (with_reducible refine Kd.C_drew ?_))); (case side2 => exact HC0_1.out); rintro e w' ⟨rfl, ⟨nd, rfl⟩⟩) | (go_at_call 23; (with_reducible refine (Rf_CaseErr.calls k _ _ l0_0 _ _ l0_1 a0_2 a0_3 t438 _ ?side1 ?side2 ?side3 ?side4 A6.out).mono ?_); (case side1 => repeat (first | exact (Kd.C_below HR0_0.out bz) | (with_reducible refine Kd.C_alloc ?_ _) | (with_reducible refine Kd.C_drewN ?_ _) | (with_reducible refine Kd.C_drew ?_))); (case side2 => exact HC0_0.out); (case side3 => repeat (first | exact (Kd.C_below HR0_1.out bz) | (with_reducible refine Kd.C_alloc ?_ _) | (with_reducible refine Kd.C_drewN ?_ _) | (with_reducible refine Kd.C_drew ?_))); (case side4 => exact HC0_1.out); rintro e w16 ⟨rfl, hb⟩; replace BK435 := bb BK435 hb; replace HB := sb HB hb; (try clear hb)))
    go_ret
    exact ez
  ·replace c5 := Bool.eq_false_iff.mpr c5
   subst c5
   rw [if_neg (show ¬ (false = true) by decide)] at H
   obtain rfl := Option.some.inj H
   go_enter Tryd.func19, Tryd.ntmps19
   go_wp2_with (first | ((with_reducible refine gate_dst (N := 1) rfl ?_); (try (refine gate_guard (by rfl) ?_; dsimp only)); refine be 1 28 #[.slice A0_0 l0_0.length c0_0, .slice A0_1 l0_1.length c0_1, .int .i64 a0_2, .int .i64 a0_3] ?_; intro gb435 hg w17 hbox hb; have BK435 := m0 hbox; have GW435 := m0 (bg (n := w.heap.size) hg); have GE435 := m0 (bg (n := w.heap.size) hg); replace HB := sb HB hb; clear hb hbox hg; obtain ⟨_, _, _, _, _, _, _, _⟩ := b4 BK435) | ((with_reducible refine gate_callee (f := 50) rfl ?_); refine gl (some 5) Tryd.func50 #[.slice A0_0 l0_0.length c0_0] ?_; (with_reducible refine (Lw_short.calls _ _ l0_0 true _ ?side1 ?side2 A2.out).mono ?_); (case side1 => exact cb HR0_0 HB); (case side2 => exact HC0_0.out); rintro e w' ⟨rfl, ⟨nd, rfl⟩⟩; refine ⟨_, rfl, ?_⟩) | (go_at_call 50; (with_reducible refine (Lw_short.calls _ _ l0_1 false _ ?side1 ?side2 A4.out).mono ?_); (case side1 => repeat (first | exact (Kd.C_below HR0_1.out bz) | (with_reducible refine Kd.C_alloc ?_ _) | (with_reducible refine Kd.C_drewN ?_ _) | (with_reducible refine Kd.C_drew ?_))); (case side2 => exact HC0_1.out); rintro e w' ⟨rfl, ⟨nd, rfl⟩⟩))
   go_ret
   exact ez
 ·replace c3 := Bool.eq_false_iff.mpr c3
  subst c3
  rw [if_neg (show ¬ (false = true) by decide)] at H
  obtain rfl := Option.some.inj H
  go_enter Tryd.func19, Tryd.ntmps19
  go_wp2_with (first | ((with_reducible refine gate_dst (N := 1) rfl ?_); (try (refine gate_guard (by rfl) ?_; dsimp only)); refine be 1 28 #[.slice A0_0 l0_0.length c0_0, .slice A0_1 l0_1.length c0_1, .int .i64 a0_2, .int .i64 a0_3] ?_; intro gb435 hg w19 hbox hb; have BK435 := m0 hbox; have GW435 := m0 (bg (n := w.heap.size) hg); have GE435 := m0 (bg (n := w.heap.size) hg); replace HB := sb HB hb; clear hb hbox hg; obtain ⟨_, _, _, _, _, _, _, _⟩ := b4 BK435) | ((with_reducible refine gate_callee (f := 50) rfl ?_); refine gl (some 5) Tryd.func50 #[.slice A0_0 l0_0.length c0_0] ?_; (with_reducible refine (Lw_short.calls _ _ l0_0 false _ ?side1 ?side2 A2.out).mono ?_); (case side1 => exact cb HR0_0 HB); (case side2 => exact HC0_0.out); rintro e w' ⟨rfl, ⟨nd, rfl⟩⟩; refine ⟨_, rfl, ?_⟩))
  go_ret
  exact ez
end
section
def Bs_CopyInts.f (l0 : List Int) : Option (List Int) := (some (([] : List Int) : List Int)).bind fun y440 => (if y440.length + l0.length < 17592186044416 then (some (y440 ++ l0)) else (none))
theorem Bs_CopyInts.calls (A0 : Option Addr) (c0 : Nat) (l0 : List Int) (r : List Int) (w : World) (hr0 : Kd.C (Kd.int .i64) w A0 l0.length l0) (hc0 : l0.length ≤ c0) (h : Bs_CopyInts.f l0 = some r) :
  Calls Tryd.prog 33 #[.slice A0 l0.length c0] w fun e w' => ∃ v0_ : Value, e = .returned (v0_) ∧ Kd.R (Kd.int .i64) 3 w' w.heap.size (fun _ => True) v0_ r ∧ Below w.heap.size w w' := by
 have HR0 := m0 hr0
 have HC0 := m0 hc0
 clear hr0 hc0
 have HB := m0 (Below.refl w.heap.size w)
 have H : ((some (([] : List Int) : List Int)).bind fun y440 => (if y440.length + l0.length < 17592186044416 then (some (y440 ++ l0)) else (none))) = some r := h
 clear h
 obtain ⟨y440, hy440⟩ : ∃ y_ : List Int, y_ = (([] : List Int)) := ⟨_, rfl⟩
 replace H : (if y440.length + l0.length < 17592186044416 then (some (y440 ++ l0)) else (none)) = some r := by first | (rw [hy440]; with_reducible exact H) | (have H2_ := (Option.bind_some _ _).symm.trans H; rw [hy440]; with_reducible exact H2_) | (have H2_ := (Option.bind_some _ _).symm.trans H; with_reducible exact H2_) | with_reducible exact H | (rw [hy440]; exact H) | exact H
 have Ny440 := m0 hy440
 clear hy440
 by_cases c2 : y440.length + l0.length < 17592186044416
 ·rw [if_pos c2] at H
  have LMc2 := m0 c2
  clear c2
  obtain ⟨y443, hy443⟩ : ∃ y_ : List Int, y_ = (y440 ++ l0) := ⟨_, rfl⟩
  replace H : (some y443) = some r := by first | (rw [hy443]; with_reducible exact H) | (have H2_ := (Option.bind_some _ _).symm.trans H; rw [hy443]; with_reducible exact H2_) | (have H2_ := (Option.bind_some _ _).symm.trans H; with_reducible exact H2_) | with_reducible exact H | (rw [hy443]; exact H) | exact H
  have Ny443 := m0 hy443
  clear hy443
  obtain rfl := Option.some.inj H
  go_enter Tryd.func33, Tryd.ntmps33
  go_wp2_with (first | ((with_reducible refine gate_dst (N := 3) rfl ?_); refine Kd.R_lit (Kd.int .i64) _ 3 ?hg (N := 3) ?hd (xs := ([] : List Int)) (inner := []) (ok := fun _ => True) (okp := fun _ => True) ?hr ?hp (fun _ hk => hk) trivial (Below.refl _ _) (Nat.le_refl _) (by simp) ?_; (case hd => rfl); (case hg => rfl); (case hr => first | (go_simp; done) | (go_simp; rfl)); (case hp => exact (Reps.none _ _)); intro v441 w3 ho4 hb hg_ hnew_; clear hg_ hnew_; (first | rw [← Ny440.out] at ho4 | (simp only [Int.reduceToNat] at ho4; rw [← Ny440.out] at ho4)); have HO442 := m0 (Kd.R_lower ho4 (below_size bz)); replace HB := sb HB hb; clear hb ho4) | ((with_reducible refine gate_builtin (b := .append) (xs := #[.tmp 3, .tmp 4]) rfl ?_); at_builtin; refine Kd.R_append_rows (Kd.int .i64) (w0 := w) w.heap.size rfl (.tmp 3) (.tmp 4) 22 3 (.int .i64 0) 8 rfl Tryd.underlying22 info3 rfl (by decide) (by omega) v441 y440 l0 _ _ _ (fun _ => True) (fun _ => False) rfl rfl ?aO ?aR (fun _ _ h => h) (fun _ h => h.elim) ?aF ?aB ?aS ?aL ?_; (case aR => exact cb HR0 HB); (case aB => exact bz); (case aF => exact (fun _ _ => trivial)); (case aO => exact (br HO442.out)); (case aS => exact (below_size bz)); (case aL => have := LMc2.out; omega); intro v444 w5 ho hb hg hat; rw [← Ny443.out] at ho; have n0_ := m0 (hb); have n1_ := m0 (ho); clear HB; clear HO442; have HB := n0_; have HO445 := n1_; clear n0_ n1_; clear ho hb hg hat))
  go_ret
  exact ⟨_, by first | rfl | (simp [errW_none, errW_some] <;> rfl) | (simp [*, errW_none, errW_some] <;> rfl), by (with_reducible repeat (first | apply Kd.R_alloc | apply Kd.R_drewN | apply Kd.R_drew)); exact HO445.out, by repeat (first | (with_reducible first | exact HB.out | apply below_alloc | apply pw_below_drewN | apply below_drew1) | exact HB.out)⟩
 ·rw [if_neg c2] at H
  exact absurd H (by simp)
end
section
def Rf_CopyNoise.f (l0_0 : List Int) : Option (List Int) := (Bs_CopyInts.f l0_0).bind fun t448 => (some t448)
theorem Rf_CopyNoise.calls (A0_0 : Option Addr) (c0_0 : Nat) (l0_0 : List Int) (r : List Int) (w : World) (hr0_0 : Kd.C (Kd.int .i64) w A0_0 l0_0.length l0_0) (hc0_0 : l0_0.length ≤ c0_0) (h : Rf_CopyNoise.f l0_0 = some r) :
  Calls Tryd.prog 52 #[.agg #[.slice A0_0 l0_0.length c0_0]] w fun e w' => ∃ v0_ : Value, e = .returned (.agg #[v0_]) ∧ Kd.R (Kd.int .i64) 3 w' w.heap.size (fun _ => True) v0_ r ∧ Below w.heap.size w w' := by
 have hu24 := Tryd.underlying24
 have HR0_0 := m0 hr0_0
 have HC0_0 := m0 hc0_0
 clear hr0_0 hc0_0
 have HB := m0 (Below.refl w.heap.size w)
 have H : ((Bs_CopyInts.f l0_0).bind fun t448 => (some t448)) = some r := h
 clear h
 replace H := ob H
 obtain ⟨t448, A20, H⟩ := H
 (try dsimp only at H)
 have A2 := m0 A20
 clear A20
 obtain rfl := Option.some.inj H
 go_enter Tryd.func52, Tryd.ntmps52
 go_wp2_with (first | ((with_reducible refine gate_dst (N := 1) rfl ?_); refine be 1 24 #[.slice A0_0 l0_0.length c0_0] ?_; intro gb446 hg w3 hbox hb; have BK446 := m0 hbox; have GW446 := m0 (bg (n := w.heap.size) hg); have GE446 := m0 (bg (n := w.heap.size) hg); replace HB := sb HB hb; clear hb hbox hg) | ((with_reducible refine gate_dst (N := 2) rfl ?_); refine be 2 24 #[.slice none 0 0] ?_; intro gb447 hg w4 hbox hb; have BK447 := m0 hbox; have GW447 := m0 (bg (n := w.heap.size) hg); have GE447 := m0 (bg (n := w.heap.size) hg); replace HB := sb HB hb; have NB446_447 := nl BK446 hg; have NB447_446 := ng (nl BK446 hg); replace BK446 := bb BK446 hb; clear hb hbox hg; have hnb5 := NB446_447.out; have hnc5 := NB447_446.out; obtain ⟨_, _⟩ := b1 BK446) | ((with_reducible refine gate_callee (f := 33) rfl ?_); refine gl (some 5) Tryd.func33 #[.slice A0_0 l0_0.length c0_0] ?_; (with_reducible refine (Bs_CopyInts.calls _ _ l0_0 t448 _ ?side1 ?side2 A2.out).mono ?_); (case side1 => exact cb HR0_0 HB); (case side2 => exact HC0_0.out); rintro e w7 ⟨v449, rfl, ho0, hb⟩; refine ⟨_, rfl, ?_⟩; have HO450 := m0 (Kd.R_lower ho0 (below_size bz)); replace BK446 := bb BK446 hb; replace BK447 := bb BK447 hb; replace HB := sb HB hb; (try clear hb); (try clear ho0); obtain ⟨Ao8, co8, eo8⟩ := Kd.R_slice HO450.out; subst eo8; obtain ⟨_, _⟩ := b1 BK447))
 refine bodyPost_ret (results_cell_row rfl _ _ gb447 24 #[.slice Ao8 t448.length co8] (0, 0) _ rfl (bq BK447.out) Tryd.underlying24 rfl (by kernel_rfl)) rfl ?_
 exact ⟨_, by first | rfl | (simp [errW_none, errW_some] <;> rfl) | (simp [*, errW_none, errW_some] <;> rfl), by (with_reducible repeat (first | apply Kd.R_alloc | apply Kd.R_drewN | apply Kd.R_drew)); exact Kd.R_mono (Kd.R_far (p := ⟨gb447, 0, none⟩) (Kd.R_types HO450.out BK447.out (by decide)) (fun _ hk => hk.2) (.slice Ao8 t448.length co8)) (fun _ hk => trivial), by repeat (first | (with_reducible first | exact HB.out | apply below_alloc | apply pw_below_drewN | apply below_drew1 | refine below_set ?_ GE446.out | refine below_set ?_ GE447.out) | exact HB.out)⟩
end
section
def Rf_CopyCase.f (l0_0 : List Int) (l0_1 : List Int) (a0_2 : Int) (a0_3 : Int) : Option (List Int × List Int × Int × Int) := (Bs_CopyInts.f l0_0).bind fun t453 => ((Rf_CopyNoise.f l0_1).bind fun t456 => (some (t453, t456, a0_2, a0_3)))
def Rf_CopyCase.T1 : Bool × List (List Nat × List Nat) := (true, [([], []), ([0], [0]), ([1], [1]), ([], []), ([3], [3]), ([4, 2], [4]), ([], []), ([6], [6]), ([2, 5, 7], [2, 5, 7]), ([8, 5, 0, 1, 2, 3, 4, 5, 6, 7, 8], [8])])
def Rf_CopyCase.B1 : List Nat := [0, 1, 3, 0, 8, 31, 0, 64, 255, 511]
theorem Rf_CopyCase.tab1 : rtab .any (opsOf Tryd.f21 1) = Rf_CopyCase.T1 := by kernel_rfl
theorem Rf_CopyCase.bits1 : waitsOk Rf_CopyCase.T1.2 Rf_CopyCase.B1 = true := by kernel_rfl
theorem Rf_CopyCase.calls (A0_0 : Option Addr) (c0_0 : Nat) (l0_0 : List Int) (A0_1 : Option Addr) (c0_1 : Nat) (l0_1 : List Int) (a0_2 : Int) (a0_3 : Int) (r1 : List Int) (r2 : List Int) (r3 : Int) (r4 : Int) (w : World) (hr0_0 : Kd.C (Kd.int .i64) w A0_0 l0_0.length l0_0) (hc0_0 : l0_0.length ≤ c0_0) (hr0_1 : Kd.C (Kd.int .i64) w A0_1 l0_1.length l0_1) (hc0_1 : l0_1.length ≤ c0_1) (h : Rf_CopyCase.f l0_0 l0_1 a0_2 a0_3 = some (r1, r2, r3, r4)) :
  Calls Tryd.prog 21 #[.agg #[.slice A0_0 l0_0.length c0_0, .slice A0_1 l0_1.length c0_1, .int .i64 a0_2, .int .i64 a0_3]] w fun e w' => ∃ v0_ v1_ : Value, e = .returned (.agg #[v0_, v1_, .int .i64 r3, .int .i64 r4]) ∧ Kd.R (Kd.int .i64) 3 w' w.heap.size (fun k_ => some k_ ≠ (v1_ : Value).ownBlock) v0_ r1 ∧ Kd.R (Kd.int .i64) 3 w' w.heap.size (fun k_ => some k_ ≠ (v0_ : Value).ownBlock) v1_ r2 ∧ Below w.heap.size w w' := by
 have hu28 := Tryd.underlying28
 have hu24 := Tryd.underlying24
 have hu26 := Tryd.underlying26
 have HR0_0 := m0 hr0_0
 have HC0_0 := m0 hc0_0
 clear hr0_0 hc0_0
 have HR0_1 := m0 hr0_1
 have HC0_1 := m0 hc0_1
 clear hr0_1 hc0_1
 have HB := m0 (Below.refl w.heap.size w)
 have H : ((Bs_CopyInts.f l0_0).bind fun t453 => ((Rf_CopyNoise.f l0_1).bind fun t456 => (some (t453, t456, a0_2, a0_3)))) = some (r1, r2, r3, r4) := h
 clear h
 replace H := ob H
 obtain ⟨t453, A20, H⟩ := H
 (try dsimp only at H)
 have A2 := m0 A20
 clear A20
 replace H := ob H
 obtain ⟨t456, A30, H⟩ := H
 (try dsimp only at H)
 have A3 := m0 A30
 clear A30
 simp only [Option.some.injEq, Prod.mk.injEq] at H
 obtain ⟨rfl, rfl, rfl, rfl⟩ := H
 go_enter Tryd.func21, Tryd.ntmps21
 try go_wp2_with (first | ((with_reducible refine gate_dst (N := 1) rfl ?_); refine be 1 28 #[.slice A0_0 l0_0.length c0_0, .slice A0_1 l0_1.length c0_1, .int .i64 a0_2, .int .i64 a0_3] ?_; intro gb451 hg w4 hbox hb; have BK451 := m0 hbox; have GW451 := m0 (bg (n := w.heap.size) hg); have GE451 := m0 (bg (n := w.heap.size) hg); replace HB := sb HB hb; clear hb hbox hg) | ((with_reducible refine gate_dst (N := 2) rfl ?_); refine be 2 28 #[.slice none 0 0, .slice none 0 0, .int .i64 0, .int .i64 0] ?_; intro gb452 hg w5 hbox hb; have BK452 := m0 hbox; have GW452 := m0 (bg (n := w.heap.size) hg); have GE452 := m0 (bg (n := w.heap.size) hg); replace HB := sb HB hb; have NB451_452 := nl BK451 hg; have NB452_451 := ng (nl BK451 hg); replace BK451 := bb BK451 hb; clear hb hbox hg))
 replace BK451 := bd BK451; replace BK452 := bd BK452; replace HB := sd HB
 refine start_ (n := 10) (S := fun w' => w'.cell? ⟨gb451, 0, none⟩ = some (.slice A0_0 l0_0.length c0_0) ∧ w'.cell? ⟨gb451, 1, none⟩ = some (.slice A0_1 l0_1.length c0_1) ∧ w'.cell? ⟨gb451, 2, none⟩ = some (.int .i64 a0_2) ∧ w'.cell? ⟨gb451, 3, none⟩ = some (.int .i64 a0_3)) (ds := []) #[false, false, false, false, false, false, false, false, false, false] (by kernel_rfl) rfl rfl cz (fun hHeld => ?_); refine with_tabW Rf_CopyCase.tab1 Rf_CopyCase.bits1 (fun HT_ HW_ => ?_)
 generalize w5.drew = w6 at BK451 BK452 HB hHeld ⊢
 refine pureZ (i := 0) (N := some 3) #[true, false, false, false, false, false, false, false, false, false] HT_ ?_
 refine pureZ (i := 3) (N := some 6) #[true, false, false, true, false, false, false, false, false, false] HT_ ?_
 refine pureZ (i := 6) (N := some 9) #[true, false, false, true, false, false, true, false, false, false] HT_ ?_
 refine takeZ 1 (some 4) #[true, true, false, true, false, false, true, false, false, false] (take_ofW HT_.out HW_.out (by kernel_rfl)) hHeld ?_
 refine takeZ 4 (some 7) #[true, true, false, true, true, false, true, false, false, false] (take_ofW HT_.out HW_.out (by kernel_rfl)) hHeld ?_
 refine takeZ 7 (some 10) #[true, true, false, true, true, false, true, true, false, false] (take_ofW HT_.out HW_.out (by kernel_rfl)) hHeld ?_
 refine oneZ 2 (some 5) #[true, true, true, true, true, false, true, true, false, false] (one_of HT_.out (by kernel_rfl)) fun K hK => ?_
 refine goes_ Tryd.func33 (by kernel_rfl) rfl #[.slice A0_0 l0_0.length c0_0] (by rfl) rfl rfl mz ?_
 with_reducible refine (Bs_CopyInts.calls _ _ l0_0 t453 _ ?side1 ?side2 A2.out).mono ?_
 (case side1 => exact cb HR0_0 HB)
 (case side2 => exact HC0_0.out)
 rintro e w7 ⟨v454, rfl, ho0, hb⟩
 refine ⟨_, rfl, ?_⟩
 have HO455 := m0 (Kd.R_lower ho0 (below_size bz)); replace BK451 := bb BK451 hb; replace BK452 := bb BK452 hb; replace HB := sb HB hb
 (try clear hb)
 (try clear ho0)
 refine hK.out _ _ cz (fun hHeld => ?_)
 clear hK K
 refine norm_ (a' := ?_) ?_ ?_
 rotate_left
 ·show Act.put _ (some 5) _ = _
  exact pz
 refine oneZ 5 (some 8) #[true, true, true, true, true, true, true, true, false, false] (one_of HT_.out (by kernel_rfl)) fun K hK => ?_
 refine goes_ Tryd.func52 (by kernel_rfl) rfl #[.agg #[.slice A0_1 l0_1.length c0_1]] (by rfl) rfl rfl mz ?_
 with_reducible refine (Rf_CopyNoise.calls _ _ l0_1 t456 _ ?side1 ?side2 A3.out).mono ?_
 (case side1 => exact cb HR0_1 HB)
 (case side2 => exact HC0_1.out)
 rintro e w8 ⟨v457, rfl, ho0, hb⟩
 refine ⟨_, rfl, ?_⟩
 have HO458 := m0 (Kd.R_lower (Kd.R_new' ho0 (Kd.R_lt (br HO455.out))) (below_size bz)); replace HO455 := m0 (Kd.R_elder' (br HO455.out) (Kd.R_base ho0) hb); replace BK451 := bb BK451 hb; replace BK452 := bb BK452 hb; replace HB := sb HB hb
 (try clear hb)
 (try clear ho0)
 obtain ⟨Ao9, co9, eo9⟩ := Kd.R_slice HO458.out
 (first | subst eo9 | (injection eo9 with f1_ f2_ f3_; have f4_ := f1_.symm; have f5_ := f3_.symm; clear f1_ f2_ f3_; subst f4_; subst f5_))
 obtain ⟨Ao10, co10, eo10⟩ := Kd.R_slice HO455.out
 (first | subst eo10 | (injection eo10 with f1_ f2_ f3_; have f4_ := f1_.symm; have f5_ := f3_.symm; clear f1_ f2_ f3_; subst f4_; subst f5_))
 refine hK.out _ _ cz (fun hHeld => ?_)
 clear hK K
 refine norm_ (a' := ?_) ?_ ?_
 rotate_left
 ·show Act.put _ (some 8) _ = _
  exact pz
 refine pureZ (i := 8) (N := some 11) #[true, true, true, true, true, true, true, true, true, false] HT_ ?_
 refine oneZ 9 (none) #[true, true, true, true, true, true, true, true, true, true] (one_of HT_.out (by kernel_rfl)) fun K hK => ?_
 have hs11 : w8.cell? ⟨gb452, 0, none⟩ = some (.slice none 0 0) := (blk_cell BK452.out 0).trans rfl
 have hfs11 := blk_frozen BK452.out 0
 have hns11_0 := NB451_452.out
 have hms11_0 := NB452_451.out
 have hs12 : w8.cell? ⟨gb452, 1, none⟩ = some (.slice none 0 0) := (blk_cell BK452.out 1).trans rfl
 have hfs12 := blk_frozen BK452.out 1
 have hns12_0 := NB451_452.out
 have hms12_0 := NB452_451.out
 have hs13 : w8.cell? ⟨gb452, 2, none⟩ = some (.int .i64 0) := (blk_cell BK452.out 2).trans rfl
 have hfs13 := blk_frozen BK452.out 2
 have hns13_0 := NB451_452.out
 have hms13_0 := NB452_451.out
 have hs14 : w8.cell? ⟨gb452, 3, none⟩ = some (.int .i64 0) := (blk_cell BK452.out 3).trans rfl
 have hfs14 := blk_frozen BK452.out 3
 have hns14_0 := NB451_452.out
 have hms14_0 := NB452_451.out
 refine skip_ (w1 := ?_) (by rfl) rfl ?_ ?_
 rotate_left
 ·go_simp
  rfl
 refine hK.out _ _ ⟨((cell_far (p := ⟨gb452, _, none⟩) NB451_452.out _).trans (((cell_far (p := ⟨gb452, _, none⟩) NB451_452.out _).trans (((cell_far (p := ⟨gb452, _, none⟩) NB451_452.out _).trans (((cell_far (p := ⟨gb452, _, none⟩) NB451_452.out _).trans (hHeld.1)))))))), ((cell_far (p := ⟨gb452, _, none⟩) NB451_452.out _).trans (((cell_far (p := ⟨gb452, _, none⟩) NB451_452.out _).trans (((cell_far (p := ⟨gb452, _, none⟩) NB451_452.out _).trans (((cell_far (p := ⟨gb452, _, none⟩) NB451_452.out _).trans (hHeld.2.1)))))))), ((cell_far (p := ⟨gb452, _, none⟩) NB451_452.out _).trans (((cell_far (p := ⟨gb452, _, none⟩) NB451_452.out _).trans (((cell_far (p := ⟨gb452, _, none⟩) NB451_452.out _).trans (((cell_far (p := ⟨gb452, _, none⟩) NB451_452.out _).trans (hHeld.2.2.1)))))))), ((cell_far (p := ⟨gb452, _, none⟩) NB451_452.out _).trans (((cell_far (p := ⟨gb452, _, none⟩) NB451_452.out _).trans (((cell_far (p := ⟨gb452, _, none⟩) NB451_452.out _).trans (((cell_far (p := ⟨gb452, _, none⟩) NB451_452.out _).trans (hHeld.2.2.2))))))))⟩ (fun hHeld => ?_)
 clear hK K
 refine done_ (done_of HT_.out (by kernel_rfl)) ?_
 try go_wp2
 refine bodyPost_ret (results_cell_row rfl _ _ gb452 28 #[.slice Ao10 t453.length co10, .slice Ao9 t456.length co9, .int .i64 a0_2, .int .i64 a0_3] (0, 0) _ rfl (bq BK452.out) Tryd.underlying28 rfl (by kernel_rfl)) rfl ?_
 exact ⟨_, _, by first | rfl | (simp [errW_none, errW_some] <;> rfl) | (simp [*, errW_none, errW_some] <;> rfl), by (with_reducible repeat (first | apply Kd.R_alloc | apply Kd.R_drewN | apply Kd.R_drew)); exact Kd.R_mono (Kd.R_far (p := ⟨gb452, 3, none⟩) (Kd.R_far (p := ⟨gb452, 2, none⟩) (Kd.R_far (p := ⟨gb452, 1, none⟩) (Kd.R_far (p := ⟨gb452, 0, none⟩) (Kd.R_types HO455.out BK452.out (by decide)) (fun _ hk => hk.2) (.slice Ao10 t453.length co10)) (fun _ hk => hk.2) (.slice Ao9 t456.length co9)) (fun _ hk => hk.2) (.int .i64 a0_2)) (fun _ hk => hk.2) (.int .i64 a0_3)) (fun _ hk => hk.1.2), by (with_reducible repeat (first | apply Kd.R_alloc | apply Kd.R_drewN | apply Kd.R_drew)); exact Kd.R_mono (Kd.R_far (p := ⟨gb452, 3, none⟩) (Kd.R_far (p := ⟨gb452, 2, none⟩) (Kd.R_far (p := ⟨gb452, 1, none⟩) (Kd.R_far (p := ⟨gb452, 0, none⟩) (Kd.R_types HO458.out BK452.out (by decide)) (fun _ hk => hk.2) (.slice Ao10 t453.length co10)) (fun _ hk => hk.2) (.slice Ao9 t456.length co9)) (fun _ hk => hk.2) (.int .i64 a0_2)) (fun _ hk => hk.2) (.int .i64 a0_3)) (fun _ hk => hk.1.2), by repeat (first | (with_reducible first | exact HB.out | apply below_alloc | apply pw_below_drewN | apply below_drew1 | refine below_set ?_ GE451.out | refine below_set ?_ GE452.out) | exact HB.out)⟩
end
section
def Bs_Cmp.f (a0_0 : Int) (a0_1 : Int) (a1_0 : Int) (a1_1 : Int) : Option (Int) := if (wrap64 (a0_0 * a1_1)) < (wrap64 (a1_0 * a0_1)) then (some (-1)) else (if (wrap64 (a0_0 * a1_1)) > (wrap64 (a1_0 * a0_1)) then (some 1) else (some 0))
theorem Bs_Cmp.calls (a0_0 : Int) (a0_1 : Int) (a1_0 : Int) (a1_1 : Int) (r : Int) (w : World) (h : Bs_Cmp.f a0_0 a0_1 a1_0 a1_1 = some r) :
  Calls Tryd.prog 37 #[.agg #[.int .i64 a0_0, .int .i64 a0_1], .agg #[.int .i64 a1_0, .int .i64 a1_1]] w fun e w' => e = .returned (.int .i64 r) ∧ Below w.heap.size w w' := by
 have hu26 := Tryd.underlying26
 have HB := m0 (Below.refl w.heap.size w)
 have H : (if (wrap64 (a0_0 * a1_1)) < (wrap64 (a1_0 * a0_1)) then (some (-1)) else (if (wrap64 (a0_0 * a1_1)) > (wrap64 (a1_0 * a0_1)) then (some 1) else (some 0))) = some r := h
 clear h
 by_cases c3 : (wrap64 (a0_0 * a1_1)) < (wrap64 (a1_0 * a0_1))
 ·rw [if_pos c3] at H
  have c3b0 := decide_eq_true c3
  clear c3
  obtain rfl := Option.some.inj H
  go_enter Tryd.func37, Tryd.ntmps37
  go_wp2_with (first | ((with_reducible refine gate_dst (N := 2) rfl ?_); refine be 2 26 #[.int .i64 a0_0, .int .i64 a0_1] ?_; intro gb460 hg w4 hbox hb; have BK460 := m0 hbox; have GW460 := m0 (bg (n := w.heap.size) hg); have GE460 := m0 (bg (n := w.heap.size) hg); replace HB := sb HB hb; clear hb hbox hg) | ((with_reducible refine gate_dst (N := 3) rfl ?_); refine be 3 26 #[.int .i64 a1_0, .int .i64 a1_1] ?_; intro gb461 hg w5 hbox hb; have BK461 := m0 hbox; have GW461 := m0 (bg (n := w.heap.size) hg); have GE461 := m0 (bg (n := w.heap.size) hg); replace HB := sb HB hb; have NB460_461 := nl BK460 hg; have NB461_460 := ng (nl BK460 hg); replace BK460 := bb BK460 hb; clear hb hbox hg; have hnb6 := NB460_461.out; have hnc6 := NB461_460.out; obtain ⟨hcz7_0, hcz7_1, hfz7_0, hfz7_1⟩ := b2 BK460; obtain ⟨hcz8_0, hcz8_1, hfz8_0, hfz8_1⟩ := b2 BK461))
  repeat (go_quiet (first | ((with_reducible refine gate_dst (N := 2) rfl ?_); refine be 2 26 #[.int .i64 a0_0, .int .i64 a0_1] ?_; intro gb460 hg w4 hbox hb; have BK460 := m0 hbox; have GW460 := m0 (bg (n := w.heap.size) hg); have GE460 := m0 (bg (n := w.heap.size) hg); replace HB := sb HB hb; clear hb hbox hg) | ((with_reducible refine gate_dst (N := 3) rfl ?_); refine be 3 26 #[.int .i64 a1_0, .int .i64 a1_1] ?_; intro gb461 hg w5 hbox hb; have BK461 := m0 hbox; have GW461 := m0 (bg (n := w.heap.size) hg); have GE461 := m0 (bg (n := w.heap.size) hg); replace HB := sb HB hb; have NB460_461 := nl BK460 hg; have NB461_460 := ng (nl BK460 hg); replace BK460 := bb BK460 hb; clear hb hbox hg; have hnb6 := NB460_461.out; have hnc6 := NB461_460.out; obtain ⟨hcz7_0, hcz7_1, hfz7_0, hfz7_1⟩ := b2 BK460; obtain ⟨hcz8_0, hcz8_1, hfz8_0, hfz8_1⟩ := b2 BK461)); try go_wp2_with (first | ((with_reducible refine gate_dst (N := 2) rfl ?_); refine be 2 26 #[.int .i64 a0_0, .int .i64 a0_1] ?_; intro gb460 hg w4 hbox hb; have BK460 := m0 hbox; have GW460 := m0 (bg (n := w.heap.size) hg); have GE460 := m0 (bg (n := w.heap.size) hg); replace HB := sb HB hb; clear hb hbox hg) | ((with_reducible refine gate_dst (N := 3) rfl ?_); refine be 3 26 #[.int .i64 a1_0, .int .i64 a1_1] ?_; intro gb461 hg w5 hbox hb; have BK461 := m0 hbox; have GW461 := m0 (bg (n := w.heap.size) hg); have GE461 := m0 (bg (n := w.heap.size) hg); replace HB := sb HB hb; have NB460_461 := nl BK460 hg; have NB461_460 := ng (nl BK460 hg); replace BK460 := bb BK460 hb; clear hb hbox hg; have hnb6 := NB460_461.out; have hnc6 := NB461_460.out; obtain ⟨hcz7_0, hcz7_1, hfz7_0, hfz7_1⟩ := b2 BK460; obtain ⟨hcz8_0, hcz8_1, hfz8_0, hfz8_1⟩ := b2 BK461)))
  go_ret
  exact ez
 ·rw [if_neg c3] at H
  have c3b0 := decide_eq_false c3
  clear c3
  by_cases c9 : (wrap64 (a0_0 * a1_1)) > (wrap64 (a1_0 * a0_1))
  ·rw [if_pos c9] at H
   have c9b0 := decide_eq_true c9
   clear c9
   obtain rfl := Option.some.inj H
   go_enter Tryd.func37, Tryd.ntmps37
   go_wp2_with (first | ((with_reducible refine gate_dst (N := 2) rfl ?_); refine be 2 26 #[.int .i64 a0_0, .int .i64 a0_1] ?_; intro gb460 hg w10 hbox hb; have BK460 := m0 hbox; have GW460 := m0 (bg (n := w.heap.size) hg); have GE460 := m0 (bg (n := w.heap.size) hg); replace HB := sb HB hb; clear hb hbox hg) | ((with_reducible refine gate_dst (N := 3) rfl ?_); refine be 3 26 #[.int .i64 a1_0, .int .i64 a1_1] ?_; intro gb461 hg w11 hbox hb; have BK461 := m0 hbox; have GW461 := m0 (bg (n := w.heap.size) hg); have GE461 := m0 (bg (n := w.heap.size) hg); replace HB := sb HB hb; have NB460_461 := nl BK460 hg; have NB461_460 := ng (nl BK460 hg); replace BK460 := bb BK460 hb; clear hb hbox hg; have hnb12 := NB460_461.out; have hnc12 := NB461_460.out; obtain ⟨hcz13_0, hcz13_1, hfz13_0, hfz13_1⟩ := b2 BK460; obtain ⟨hcz14_0, hcz14_1, hfz14_0, hfz14_1⟩ := b2 BK461))
   repeat (go_quiet (first | ((with_reducible refine gate_dst (N := 2) rfl ?_); refine be 2 26 #[.int .i64 a0_0, .int .i64 a0_1] ?_; intro gb460 hg w10 hbox hb; have BK460 := m0 hbox; have GW460 := m0 (bg (n := w.heap.size) hg); have GE460 := m0 (bg (n := w.heap.size) hg); replace HB := sb HB hb; clear hb hbox hg) | ((with_reducible refine gate_dst (N := 3) rfl ?_); refine be 3 26 #[.int .i64 a1_0, .int .i64 a1_1] ?_; intro gb461 hg w11 hbox hb; have BK461 := m0 hbox; have GW461 := m0 (bg (n := w.heap.size) hg); have GE461 := m0 (bg (n := w.heap.size) hg); replace HB := sb HB hb; have NB460_461 := nl BK460 hg; have NB461_460 := ng (nl BK460 hg); replace BK460 := bb BK460 hb; clear hb hbox hg; have hnb12 := NB460_461.out; have hnc12 := NB461_460.out; obtain ⟨hcz13_0, hcz13_1, hfz13_0, hfz13_1⟩ := b2 BK460; obtain ⟨hcz14_0, hcz14_1, hfz14_0, hfz14_1⟩ := b2 BK461)); try go_wp2_with (first | ((with_reducible refine gate_dst (N := 2) rfl ?_); refine be 2 26 #[.int .i64 a0_0, .int .i64 a0_1] ?_; intro gb460 hg w10 hbox hb; have BK460 := m0 hbox; have GW460 := m0 (bg (n := w.heap.size) hg); have GE460 := m0 (bg (n := w.heap.size) hg); replace HB := sb HB hb; clear hb hbox hg) | ((with_reducible refine gate_dst (N := 3) rfl ?_); refine be 3 26 #[.int .i64 a1_0, .int .i64 a1_1] ?_; intro gb461 hg w11 hbox hb; have BK461 := m0 hbox; have GW461 := m0 (bg (n := w.heap.size) hg); have GE461 := m0 (bg (n := w.heap.size) hg); replace HB := sb HB hb; have NB460_461 := nl BK460 hg; have NB461_460 := ng (nl BK460 hg); replace BK460 := bb BK460 hb; clear hb hbox hg; have hnb12 := NB460_461.out; have hnc12 := NB461_460.out; obtain ⟨hcz13_0, hcz13_1, hfz13_0, hfz13_1⟩ := b2 BK460; obtain ⟨hcz14_0, hcz14_1, hfz14_0, hfz14_1⟩ := b2 BK461)))
   go_ret
   exact ez
  ·rw [if_neg c9] at H
   have c9b0 := decide_eq_false c9
   clear c9
   obtain rfl := Option.some.inj H
   go_enter Tryd.func37, Tryd.ntmps37
   go_wp2_with (first | ((with_reducible refine gate_dst (N := 2) rfl ?_); refine be 2 26 #[.int .i64 a0_0, .int .i64 a0_1] ?_; intro gb460 hg w15 hbox hb; have BK460 := m0 hbox; have GW460 := m0 (bg (n := w.heap.size) hg); have GE460 := m0 (bg (n := w.heap.size) hg); replace HB := sb HB hb; clear hb hbox hg) | ((with_reducible refine gate_dst (N := 3) rfl ?_); refine be 3 26 #[.int .i64 a1_0, .int .i64 a1_1] ?_; intro gb461 hg w16 hbox hb; have BK461 := m0 hbox; have GW461 := m0 (bg (n := w.heap.size) hg); have GE461 := m0 (bg (n := w.heap.size) hg); replace HB := sb HB hb; have NB460_461 := nl BK460 hg; have NB461_460 := ng (nl BK460 hg); replace BK460 := bb BK460 hb; clear hb hbox hg; have hnb17 := NB460_461.out; have hnc17 := NB461_460.out; obtain ⟨hcz18_0, hcz18_1, hfz18_0, hfz18_1⟩ := b2 BK460; obtain ⟨hcz19_0, hcz19_1, hfz19_0, hfz19_1⟩ := b2 BK461))
   repeat (go_quiet (first | ((with_reducible refine gate_dst (N := 2) rfl ?_); refine be 2 26 #[.int .i64 a0_0, .int .i64 a0_1] ?_; intro gb460 hg w15 hbox hb; have BK460 := m0 hbox; have GW460 := m0 (bg (n := w.heap.size) hg); have GE460 := m0 (bg (n := w.heap.size) hg); replace HB := sb HB hb; clear hb hbox hg) | ((with_reducible refine gate_dst (N := 3) rfl ?_); refine be 3 26 #[.int .i64 a1_0, .int .i64 a1_1] ?_; intro gb461 hg w16 hbox hb; have BK461 := m0 hbox; have GW461 := m0 (bg (n := w.heap.size) hg); have GE461 := m0 (bg (n := w.heap.size) hg); replace HB := sb HB hb; have NB460_461 := nl BK460 hg; have NB461_460 := ng (nl BK460 hg); replace BK460 := bb BK460 hb; clear hb hbox hg; have hnb17 := NB460_461.out; have hnc17 := NB461_460.out; obtain ⟨hcz18_0, hcz18_1, hfz18_0, hfz18_1⟩ := b2 BK460; obtain ⟨hcz19_0, hcz19_1, hfz19_0, hfz19_1⟩ := b2 BK461)); try go_wp2_with (first | ((with_reducible refine gate_dst (N := 2) rfl ?_); refine be 2 26 #[.int .i64 a0_0, .int .i64 a0_1] ?_; intro gb460 hg w15 hbox hb; have BK460 := m0 hbox; have GW460 := m0 (bg (n := w.heap.size) hg); have GE460 := m0 (bg (n := w.heap.size) hg); replace HB := sb HB hb; clear hb hbox hg) | ((with_reducible refine gate_dst (N := 3) rfl ?_); refine be 3 26 #[.int .i64 a1_0, .int .i64 a1_1] ?_; intro gb461 hg w16 hbox hb; have BK461 := m0 hbox; have GW461 := m0 (bg (n := w.heap.size) hg); have GE461 := m0 (bg (n := w.heap.size) hg); replace HB := sb HB hb; have NB460_461 := nl BK460 hg; have NB461_460 := ng (nl BK460 hg); replace BK460 := bb BK460 hb; clear hb hbox hg; have hnb17 := NB460_461.out; have hnc17 := NB461_460.out; obtain ⟨hcz18_0, hcz18_1, hfz18_0, hfz18_1⟩ := b2 BK460; obtain ⟨hcz19_0, hcz19_1, hfz19_0, hfz19_1⟩ := b2 BK461)))
   go_ret
   exact ez
end
end Go.Proofs.YtjnkphmcndaijaaDoor.A
