/- Walks of the program's functions (printed, made shorter), each with what it computes. -/
import Derived.Test.YtibhfahbabgbaaaTX17
namespace Go.Proofs.Ytibhfahbabgbaaa.A
set_option maxHeartbeats 8000000
set_option maxRecDepth 100000
open Go.RowKit Go.Proofs.YtibhfahbabgbaaaW.PrintWords Go.Proofs.YtibhfahbabgbaaaW.PrintLast Go.Proofs.YtibhfahbabgbaaaW.PrintMore
attribute [local go_sem] max2_int min2_int max_two min_two max_three min_three max_four min_four
set_option linter.unusedVariables false
set_option linter.unusedSimpArgs false
section
def Bs_digit.f (l0 : List Int) (a1 : Int) : Option (Int) := if a1 < (l0.length : Int) then (if 0 ≤ a1 then (some (rd l0 a1)) else (none)) else (some 0)
theorem Bs_digit.calls (A0 : Option Addr) (c0 : Nat) (l0 : List Int) (a1 : Int) (r : Int) (w : World) (hr0 : Kd.C (Kd.int .i64) w A0 l0.length l0) (hc0 : l0.length ≤ c0) (H : Bs_digit.f l0 a1 = some r) :
  Calls Try.prog 175 #[.slice A0 l0.length c0, .int .i64 a1] w fun e w' => e = .returned (.int .i64 r) ∧ Drawn0 w w' := by
 have HR0 := m0 hr0; have HC0 := m0 hc0; clear hr0 hc0; unfold Bs_digit.f at H
 by_cases c3 : a1 < (l0.length : Int)
 ·rw [if_pos c3] at H; have c3b0 := decide_eq_true c3; clear c3
  by_cases c4 : 0 ≤ a1
  ·rw [if_pos c4] at H; have c4b0 := decide_eq_true c4; clear c4; obtain rfl := Option.some.inj H; have p455 : 0 ≤ (a1 : Int) := od; have q455 : a1 < (l0.length : Int) := od; obtain ⟨ad455, e455, hx455_0⟩ := Kd.at_int HR0.out a1 p455 q455
   cases e455
   replace p455 := eq_true p455; replace q455 := eq_true q455; go_enter Try.func175, Try.ntmps175
   go_wp2
   go_ret
   exact ⟨rz, by repeat (first | exact Drawn0.refl _ | apply Drawn0.step)⟩
  ·rw [if_neg c4] at H; exact absurd H (by simp)
 ·rw [if_neg c3] at H; have c3b0 := decide_eq_false c3; clear c3; obtain rfl := Option.some.inj H; go_enter Try.func175, Try.ntmps175
  go_wp2
  go_ret
  exact ⟨rz, by repeat (first | exact Drawn0.refl _ | apply Drawn0.step)⟩
end
section
def Bs_subDigits.l0 : Nat → List Int → List Int → List Int → Int → Int → Option (List Int)
 | 0, _, _, _, _, _ => none
 | k + 1, x0, x1, x5, x6, x7 => if x7 < (x0.length : Int) then (if 0 ≤ x7 then ((Bs_digit.f x1 x7).bind fun t457 => (if (wrap64 ((wrap64 ((rd x0 x7) - t457)) - x6)) < 0 then (if x5.length < 17592186044416 then (Bs_subDigits.l0 k x0 x1 (x5 ++ [wrap64 ((wrap64 ((wrap64 ((rd x0 x7) - t457)) - x6)) + 1000000000)]) 1 (wrap64 (x7 + 1))) else (none)) else (if x5.length < 17592186044416 then (Bs_subDigits.l0 k x0 x1 (x5 ++ [wrap64 ((wrap64 ((rd x0 x7) - t457)) - x6)]) 0 (wrap64 (x7 + 1))) else (none)))) else (none)) else ((Bs_trimmed.f k x5).bind fun t464 => (some t464))
def Bs_subDigits.f (k : Nat) (l0 : List Int) (l1 : List Int) : Option (List Int) := Bs_subDigits.l0 k l0 l1 ([] : List Int) 0 0
theorem Bs_subDigits.mono_l : ∀ k, (∀ y0 y1 y2 y3 y4, LeO (Bs_subDigits.l0 k y0 y1 y2 y3 y4) (Bs_subDigits.l0 (k + 1) y0 y1 y2 y3 y4))
 | 0 => fun _ _ _ _ _ r h => by simp [Bs_subDigits.l0] at h
 | k + 1 => by
  have ih0 := Bs_subDigits.mono_l k
  ·intro y0 y1 y2 y3 y4; unfold Bs_subDigits.l0
   repeat' with_reducible first
    | exact ih0 ..
    | exact Bs_trimmed.mono ..
    | exact LeO.refl ..
    | exact LeO.none ..
    | refine LeO.ite ?_ ?_
    | refine LeO.bind ?_ (fun _ => ?_)
theorem Bs_subDigits.mono : ∀ a0 a1 k, LeO (Bs_subDigits.f k a0 a1) (Bs_subDigits.f (k + 1) a0 a1) := by
 intro a0 a1 k; have ih0 := Bs_subDigits.mono_l k; unfold Bs_subDigits.f
 repeat' with_reducible first
  | exact ih0 ..
  | exact Bs_trimmed.mono ..
  | exact LeO.refl ..
  | exact LeO.none ..
  | refine LeO.ite ?_ ?_
  | refine LeO.bind ?_ (fun _ => ?_)
theorem Bs_subDigits.calls (k : Nat) (A0 : Option Addr) (c0 : Nat) (l0 : List Int) (A1 : Option Addr) (c1 : Nat) (l1 : List Int) (r : List Int) (w : World) (hr0 : Kd.C (Kd.int .i64) w A0 l0.length l0) (hc0 : l0.length ≤ c0) (hr1 : Kd.C (Kd.int .i64) w A1 l1.length l1) (hc1 : l1.length ≤ c1) (H : Bs_subDigits.f k l0 l1 = some r) :
  Calls Try.prog 157 #[.slice A0 l0.length c0, .slice A1 l1.length c1] w fun e w' => ∃ v0_ : Value, e = .returned (v0_) ∧ Kd.V (Kd.int .i64) 3 w' w.heap.size (fun k_ => (w.heap.size ≤ k_)) v0_ r ∧ Below w.heap.size w w' := by
 have HR0 := m0 hr0; have HC0 := m0 hc0; clear hr0 hc0; have HR1 := m0 hr1; have HC1 := m0 hc1; clear hr1 hc1; have HB := m0 (Below.refl w.heap.size w); unfold Bs_subDigits.f at H; have H' := m0 H; clear H; go_enter Try.func157, Try.ntmps157
 go_wp2
 repeat (go_quiet (fail); try go_wp2)
 go_loopg [5, 6, 7] k (fun kq v5 v6 v7 w' => ∃ (x5_1 : List Int) (x6_1 : Int) (x7_1 : Int), v6 = .int .i64 x6_1 ∧ v7 = .int .i64 x7_1 ∧ Aside0 (Bs_subDigits.l0 kq l0 l1 x5_1 x6_1 x7_1 = some r) ∧ Aside0 (kq ≤ k) ∧ Aside0 (Kd.R (Kd.int .i64) 3 w' w.heap.size (fun k_ => (w.heap.size ≤ k_)) v5 x5_1) ∧ Aside0 (Below w.heap.size w w'))
 case atStart => exact ⟨(([] : List Int)), (0), (0), rz, rz, H', ⟨Nat.le_refl _⟩, ⟨by first | exact Kd.R_nil _ _ _ _ _ | exact Kd.N_nil _ _ _ _ _ | exact Kd.V_nil _ _ _ _ _ | exact Kd.Q_nil _ _ _ _ _ | exact Kd.S_nil _ _ _ _ _⟩, ⟨bz⟩⟩
 case round =>
  clear H'; obtain ⟨x5_1, x6_1, x7_1, rfl, rfl, HA, HK1, HO_5, HB⟩ := hrel
  cases gk with
  | zero => exact absurd HA.out (by simp [Bs_subDigits.l0])
  | succ k1 =>
   have H := HA.out; clear HA; simp only [Bs_subDigits.l0] at H
   by_cases c3 : x7_1 < (l0.length : Int)
   ·rw [if_pos c3] at H; have c3b0 := decide_eq_true c3; clear c3
    by_cases c4 : 0 ≤ x7_1
    ·rw [if_pos c4] at H; have c4b0 := decide_eq_true c4; clear c4; replace H := oa H; obtain ⟨t457, A5, H⟩ := H; (try dsimp only at H)
     by_cases c6 : (wrap64 ((wrap64 ((rd l0 x7_1) - t457)) - x6_1)) < 0
     ·rw [if_pos c6] at H; have c6b0 := decide_eq_true c6; clear c6
      by_cases c7 : x5_1.length < 17592186044416
      ·rw [if_pos c7] at H; have LMc7 := m0 c7; clear c7; obtain ⟨y458, hy458⟩ : ∃ y_ : List Int, y_ = (x5_1 ++ [wrap64 ((wrap64 ((wrap64 ((rd l0 x7_1) - t457)) - x6_1)) + 1000000000)]) := ⟨_, rfl⟩; replace H : (Bs_subDigits.l0 k1 l0 l1 y458 1 (wrap64 (x7_1 + 1))) = some r := by first | (rw [hy458]; with_reducible exact H) | (have H2_ := (Option.bind_some _ _).symm.trans H; rw [hy458]; with_reducible exact H2_) | (have H2_ := (Option.bind_some _ _).symm.trans H; with_reducible exact H2_) | with_reducible exact H | (rw [hy458]; exact H) | exact H
       have Ny458 := m0 hy458; clear hy458; have H' := m0 H; clear H; have p456 : 0 ≤ (x7_1 : Int) := od; have q456 : x7_1 < (l0.length : Int) := od; obtain ⟨ad456, e456, hx456_0⟩ := Kd.at_int HR0.out x7_1 p456 q456
       cases e456
       replace hx456_0 := hc HB hx456_0; replace p456 := eq_true p456; replace q456 := eq_true q456
       go_wp2_with (first | (go_at_call 175; (with_reducible refine (Bs_digit.calls _ _ l1 x7_1 t457 _ ?side1 ?side2 A5.out).mono ?_); (case side1 => exact cb HR1 HB); (case side2 => exact HC1.out); rintro e w' ⟨rfl, ⟨nd, rfl⟩⟩; (try first | exact ⟨rfl, _, World.drewN_drewN _ _ _⟩ | exact ⟨rfl, _, Eq.trans (World.drewN_drewN _ _ _) (congrArg (World.drewN _) (Nat.add_assoc _ _ _))⟩)) | ((with_reducible refine gate_builtin (b := .append) (xs := #[.tmp 29, .tmp 31]) rfl ?_); at_builtin; refine Kd.R_append (Kd.int .i64) (w0 := w) w.heap.size rfl (.tmp 29) (.tmp 31) 28 3 (.int .i64 0) 8 rfl Try.underlying28 info3 rfl (by decide) (by omega) u5 x5_1 (wrap64 ((wrap64 ((wrap64 ((rd l0 x7_1) - t457)) - x6_1)) + 1000000000)) [.int .i64 (wrap64 ((wrap64 ((wrap64 ((rd l0 x7_1) - t457)) - x6_1)) + 1000000000))] (fun k_ => (w.heap.size ≤ k_)) (fun _ => False) rfl rfl ?aP (fun _ hk => hk.elim) ?aF ?aO ?aB ?aS ?aL ?_; (case aP => exact rfl); (case aB => exact bz); (case aF => exact (fun k_ hk => (Nat.le_trans (below_size bz) hk))); (case aO => exact (br HO_5.out)); (case aS => exact (below_size bz)); (case aL => have := LMc7.out; omega); intro v459 w8 ho hb hg hat; rw [← Ny458.out] at ho; have n0_ := m0 (hb); have n1_ := m0 (ho); clear HB; clear HO_5; have HB := n0_; have HO460 := n1_; clear n0_ n1_; clear ho hb hg hat))
       repeat (go_quiet (first | (go_at_call 175; (with_reducible refine (Bs_digit.calls _ _ l1 x7_1 t457 _ ?side1 ?side2 A5.out).mono ?_); (case side1 => exact cb HR1 HB); (case side2 => exact HC1.out); rintro e w' ⟨rfl, ⟨nd, rfl⟩⟩; (try first | exact ⟨rfl, _, World.drewN_drewN _ _ _⟩ | exact ⟨rfl, _, Eq.trans (World.drewN_drewN _ _ _) (congrArg (World.drewN _) (Nat.add_assoc _ _ _))⟩)) | ((with_reducible refine gate_builtin (b := .append) (xs := #[.tmp 29, .tmp 31]) rfl ?_); at_builtin; refine Kd.R_append (Kd.int .i64) (w0 := w) w.heap.size rfl (.tmp 29) (.tmp 31) 28 3 (.int .i64 0) 8 rfl Try.underlying28 info3 rfl (by decide) (by omega) u5 x5_1 (wrap64 ((wrap64 ((wrap64 ((rd l0 x7_1) - t457)) - x6_1)) + 1000000000)) [.int .i64 (wrap64 ((wrap64 ((wrap64 ((rd l0 x7_1) - t457)) - x6_1)) + 1000000000))] (fun k_ => (w.heap.size ≤ k_)) (fun _ => False) rfl rfl ?aP (fun _ hk => hk.elim) ?aF ?aO ?aB ?aS ?aL ?_; (case aP => exact rfl); (case aB => exact bz); (case aF => exact (fun k_ hk => (Nat.le_trans (below_size bz) hk))); (case aO => exact (br HO_5.out)); (case aS => exact (below_size bz)); (case aL => have := LMc7.out; omega); intro v459 w8 ho hb hg hat; rw [← Ny458.out] at ho; have n0_ := m0 (hb); have n1_ := m0 (ho); clear HB; clear HO_5; have HB := n0_; have HO460 := n1_; clear n0_ n1_; clear ho hb hg hat)); try go_wp2_with (first | (go_at_call 175; (with_reducible refine (Bs_digit.calls _ _ l1 x7_1 t457 _ ?side1 ?side2 A5.out).mono ?_); (case side1 => exact cb HR1 HB); (case side2 => exact HC1.out); rintro e w' ⟨rfl, ⟨nd, rfl⟩⟩; (try first | exact ⟨rfl, _, World.drewN_drewN _ _ _⟩ | exact ⟨rfl, _, Eq.trans (World.drewN_drewN _ _ _) (congrArg (World.drewN _) (Nat.add_assoc _ _ _))⟩)) | ((with_reducible refine gate_builtin (b := .append) (xs := #[.tmp 29, .tmp 31]) rfl ?_); at_builtin; refine Kd.R_append (Kd.int .i64) (w0 := w) w.heap.size rfl (.tmp 29) (.tmp 31) 28 3 (.int .i64 0) 8 rfl Try.underlying28 info3 rfl (by decide) (by omega) u5 x5_1 (wrap64 ((wrap64 ((wrap64 ((rd l0 x7_1) - t457)) - x6_1)) + 1000000000)) [.int .i64 (wrap64 ((wrap64 ((wrap64 ((rd l0 x7_1) - t457)) - x6_1)) + 1000000000))] (fun k_ => (w.heap.size ≤ k_)) (fun _ => False) rfl rfl ?aP (fun _ hk => hk.elim) ?aF ?aO ?aB ?aS ?aL ?_; (case aP => exact rfl); (case aB => exact bz); (case aF => exact (fun k_ hk => (Nat.le_trans (below_size bz) hk))); (case aO => exact (br HO_5.out)); (case aS => exact (below_size bz)); (case aL => have := LMc7.out; omega); intro v459 w8 ho hb hg hat; rw [← Ny458.out] at ho; have n0_ := m0 (hb); have n1_ := m0 (ho); clear HB; clear HO_5; have HB := n0_; have HO460 := n1_; clear n0_ n1_; clear ho hb hg hat)))
       go_roundg k1
       case measure => have := HK1.out; omega
       case rel => exact ⟨(y458), (1), (wrap64 (x7_1 + 1)), rz, rz, H', ⟨by have := HK1.out; omega⟩, ⟨br HO460.out⟩, ⟨bz⟩⟩
      ·rw [if_neg c7] at H; exact absurd H (by simp)
     ·rw [if_neg c6] at H; have c6b0 := decide_eq_false c6; clear c6
      by_cases c9 : x5_1.length < 17592186044416
      ·rw [if_pos c9] at H; have LMc9 := m0 c9; clear c9; obtain ⟨y461, hy461⟩ : ∃ y_ : List Int, y_ = (x5_1 ++ [wrap64 ((wrap64 ((rd l0 x7_1) - t457)) - x6_1)]) := ⟨_, rfl⟩; replace H : (Bs_subDigits.l0 k1 l0 l1 y461 0 (wrap64 (x7_1 + 1))) = some r := by first | (rw [hy461]; with_reducible exact H) | (have H2_ := (Option.bind_some _ _).symm.trans H; rw [hy461]; with_reducible exact H2_) | (have H2_ := (Option.bind_some _ _).symm.trans H; with_reducible exact H2_) | with_reducible exact H | (rw [hy461]; exact H) | exact H
       have Ny461 := m0 hy461; clear hy461; have H' := m0 H; clear H; have p456 : 0 ≤ (x7_1 : Int) := od; have q456 : x7_1 < (l0.length : Int) := od; obtain ⟨ad456, e456, hx456_0⟩ := Kd.at_int HR0.out x7_1 p456 q456
       cases e456
       replace hx456_0 := hc HB hx456_0; replace p456 := eq_true p456; replace q456 := eq_true q456
       go_wp2_with (first | (go_at_call 175; (with_reducible refine (Bs_digit.calls _ _ l1 x7_1 t457 _ ?side1 ?side2 A5.out).mono ?_); (case side1 => exact cb HR1 HB); (case side2 => exact HC1.out); rintro e w' ⟨rfl, ⟨nd, rfl⟩⟩; (try first | exact ⟨rfl, _, World.drewN_drewN _ _ _⟩ | exact ⟨rfl, _, Eq.trans (World.drewN_drewN _ _ _) (congrArg (World.drewN _) (Nat.add_assoc _ _ _))⟩)) | ((with_reducible refine gate_builtin (b := .append) (xs := #[.tmp 29, .tmp 31]) rfl ?_); at_builtin; refine Kd.R_append (Kd.int .i64) (w0 := w) w.heap.size rfl (.tmp 29) (.tmp 31) 28 3 (.int .i64 0) 8 rfl Try.underlying28 info3 rfl (by decide) (by omega) u5 x5_1 (wrap64 ((wrap64 ((rd l0 x7_1) - t457)) - x6_1)) [.int .i64 (wrap64 ((wrap64 ((rd l0 x7_1) - t457)) - x6_1))] (fun k_ => (w.heap.size ≤ k_)) (fun _ => False) rfl rfl ?aP (fun _ hk => hk.elim) ?aF ?aO ?aB ?aS ?aL ?_; (case aP => exact rfl); (case aB => exact bz); (case aF => exact (fun k_ hk => (Nat.le_trans (below_size bz) hk))); (case aO => exact (br HO_5.out)); (case aS => exact (below_size bz)); (case aL => have := LMc9.out; omega); intro v462 w10 ho hb hg hat; rw [← Ny461.out] at ho; have n0_ := m0 (hb); have n1_ := m0 (ho); clear HB; clear HO_5; have HB := n0_; have HO463 := n1_; clear n0_ n1_; clear ho hb hg hat))
       repeat (go_quiet (first | (go_at_call 175; (with_reducible refine (Bs_digit.calls _ _ l1 x7_1 t457 _ ?side1 ?side2 A5.out).mono ?_); (case side1 => exact cb HR1 HB); (case side2 => exact HC1.out); rintro e w' ⟨rfl, ⟨nd, rfl⟩⟩; (try first | exact ⟨rfl, _, World.drewN_drewN _ _ _⟩ | exact ⟨rfl, _, Eq.trans (World.drewN_drewN _ _ _) (congrArg (World.drewN _) (Nat.add_assoc _ _ _))⟩)) | ((with_reducible refine gate_builtin (b := .append) (xs := #[.tmp 29, .tmp 31]) rfl ?_); at_builtin; refine Kd.R_append (Kd.int .i64) (w0 := w) w.heap.size rfl (.tmp 29) (.tmp 31) 28 3 (.int .i64 0) 8 rfl Try.underlying28 info3 rfl (by decide) (by omega) u5 x5_1 (wrap64 ((wrap64 ((rd l0 x7_1) - t457)) - x6_1)) [.int .i64 (wrap64 ((wrap64 ((rd l0 x7_1) - t457)) - x6_1))] (fun k_ => (w.heap.size ≤ k_)) (fun _ => False) rfl rfl ?aP (fun _ hk => hk.elim) ?aF ?aO ?aB ?aS ?aL ?_; (case aP => exact rfl); (case aB => exact bz); (case aF => exact (fun k_ hk => (Nat.le_trans (below_size bz) hk))); (case aO => exact (br HO_5.out)); (case aS => exact (below_size bz)); (case aL => have := LMc9.out; omega); intro v462 w10 ho hb hg hat; rw [← Ny461.out] at ho; have n0_ := m0 (hb); have n1_ := m0 (ho); clear HB; clear HO_5; have HB := n0_; have HO463 := n1_; clear n0_ n1_; clear ho hb hg hat)); try go_wp2_with (first | (go_at_call 175; (with_reducible refine (Bs_digit.calls _ _ l1 x7_1 t457 _ ?side1 ?side2 A5.out).mono ?_); (case side1 => exact cb HR1 HB); (case side2 => exact HC1.out); rintro e w' ⟨rfl, ⟨nd, rfl⟩⟩; (try first | exact ⟨rfl, _, World.drewN_drewN _ _ _⟩ | exact ⟨rfl, _, Eq.trans (World.drewN_drewN _ _ _) (congrArg (World.drewN _) (Nat.add_assoc _ _ _))⟩)) | ((with_reducible refine gate_builtin (b := .append) (xs := #[.tmp 29, .tmp 31]) rfl ?_); at_builtin; refine Kd.R_append (Kd.int .i64) (w0 := w) w.heap.size rfl (.tmp 29) (.tmp 31) 28 3 (.int .i64 0) 8 rfl Try.underlying28 info3 rfl (by decide) (by omega) u5 x5_1 (wrap64 ((wrap64 ((rd l0 x7_1) - t457)) - x6_1)) [.int .i64 (wrap64 ((wrap64 ((rd l0 x7_1) - t457)) - x6_1))] (fun k_ => (w.heap.size ≤ k_)) (fun _ => False) rfl rfl ?aP (fun _ hk => hk.elim) ?aF ?aO ?aB ?aS ?aL ?_; (case aP => exact rfl); (case aB => exact bz); (case aF => exact (fun k_ hk => (Nat.le_trans (below_size bz) hk))); (case aO => exact (br HO_5.out)); (case aS => exact (below_size bz)); (case aL => have := LMc9.out; omega); intro v462 w10 ho hb hg hat; rw [← Ny461.out] at ho; have n0_ := m0 (hb); have n1_ := m0 (ho); clear HB; clear HO_5; have HB := n0_; have HO463 := n1_; clear n0_ n1_; clear ho hb hg hat)))
       go_roundg k1
       case measure => have := HK1.out; omega
       case rel => exact ⟨(y461), (0), (wrap64 (x7_1 + 1)), rz, rz, H', ⟨by have := HK1.out; omega⟩, ⟨br HO463.out⟩, ⟨bz⟩⟩
      ·rw [if_neg c9] at H; exact absurd H (by simp)
    ·rw [if_neg c4] at H; exact absurd H (by simp)
   ·rw [if_neg c3] at H; have c3b0 := decide_eq_false c3; clear c3; replace H := oa H; obtain ⟨t464, A11, H⟩ := H; (try dsimp only at H); obtain rfl := Option.some.inj H; obtain ⟨Ao12, co12, eo12⟩ := Kd.R_slice HO_5.out; subst eo12
    go_wp2_with (first | (go_at_call 172; (with_reducible refine (Bs_trimmed.calls k1 (fun k_ => some k_ = (.slice Ao12 x5_1.length co12 : Value).ownBlock) _ _ x5_1 t464 _ ?side1 A11.out).mono ?_); (case side1 => exact Kd.R_V (Kd.R_tight rfl (HO_5.out))); rintro e w13 ⟨v465, rfl, ho0, hb⟩; have HO466 := hv w (fun k_ => (w.heap.size ≤ k_)) ho0 (fun k_ hk_ => Or.elim hk_ (fun hs_ => ((HO_5.out).1 k_ hs_.symm)) (fun hn_ => (Nat.le_trans (below_size bz) hn_))); replace HO_5 := rb HO_5 hb; replace HB := sb HB hb; (try clear hb); (try clear ho0)))
    repeat (go_quiet (first | (go_at_call 172; (with_reducible refine (Bs_trimmed.calls k1 (fun k_ => some k_ = (.slice Ao12 x5_1.length co12 : Value).ownBlock) _ _ x5_1 t464 _ ?side1 A11.out).mono ?_); (case side1 => exact Kd.R_V (Kd.R_tight rfl (HO_5.out))); rintro e w13 ⟨v465, rfl, ho0, hb⟩; have HO466 := hv w (fun k_ => (w.heap.size ≤ k_)) ho0 (fun k_ hk_ => Or.elim hk_ (fun hs_ => ((HO_5.out).1 k_ hs_.symm)) (fun hn_ => (Nat.le_trans (below_size bz) hn_))); replace HO_5 := rb HO_5 hb; replace HB := sb HB hb; (try clear hb); (try clear ho0))); try go_wp2_with (first | (go_at_call 172; (with_reducible refine (Bs_trimmed.calls k1 (fun k_ => some k_ = (.slice Ao12 x5_1.length co12 : Value).ownBlock) _ _ x5_1 t464 _ ?side1 A11.out).mono ?_); (case side1 => exact Kd.R_V (Kd.R_tight rfl (HO_5.out))); rintro e w13 ⟨v465, rfl, ho0, hb⟩; have HO466 := hv w (fun k_ => (w.heap.size ≤ k_)) ho0 (fun k_ hk_ => Or.elim hk_ (fun hs_ => ((HO_5.out).1 k_ hs_.symm)) (fun hn_ => (Nat.le_trans (below_size bz) hn_))); replace HO_5 := rb HO_5 hb; replace HB := sb HB hb; (try clear hb); (try clear ho0))))
    go_ret
    exact ⟨_, by first | rfl | (simp [errW_none, errW_some] <;> rfl) | (simp [*, errW_none, errW_some] <;> rfl), by (with_reducible repeat (first | apply Kd.V_alloc | apply Kd.V_drewN | apply Kd.V_drew)); exact HO466.out, by repeat (first | (with_reducible first | exact HB.out | apply below_alloc | apply pw_below_drewN | apply below_drew1) | exact HB.out)⟩
end
end Go.Proofs.Ytibhfahbabgbaaa.A
