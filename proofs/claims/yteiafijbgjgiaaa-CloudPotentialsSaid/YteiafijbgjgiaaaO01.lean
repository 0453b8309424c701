/- Walks of the program's functions (printed, made shorter), each with what it computes. -/
import Derived.Test.YteiafijbgjgiaaaB06
import Derived.Test.YteiafijbgjgiaaaB05
import Derived.Test.YteiafijbgjgiaaaB12
namespace Go.Proofs.Yteiafijbgjgiaaa.A
set_option maxHeartbeats 8000000
set_option maxRecDepth 100000
open Go.RowKit Go.Proofs.YteiafijbgjgiaaaW.PrintWords Go.Proofs.YteiafijbgjgiaaaW.PrintLast Go.Proofs.YteiafijbgjgiaaaW.PrintMore
attribute [local go_sem] max2_int min2_int max_two min_two max_three min_three max_four min_four
set_option linter.unusedVariables false
set_option linter.unusedSimpArgs false
section
def Lw_both.f (a0 : Int) (a1 : Int) : Option (Int) := if a0 = 0 then (some a1) else (some a0)
theorem Lw_both.calls (a0 : Int) (a1 : Int) (r : Int) (w : World) (H : Lw_both.f a0 a1 = some r) :
  Calls Try.prog 15 #[.int .i64 a0, .int .i64 a1] w fun e w' => e = .returned (.int .i64 r) ∧ Drawn0 w w' := by
 unfold Lw_both.f at H
 by_cases c3 : a0 = 0
 ·rw [if_pos c3] at H; have c3b0 := beq_iff_eq.mpr c3; have c3b1 := bne_eq_false_iff_eq.mpr c3; clear c3; obtain rfl := Option.some.inj H; go_enter Try.func15, Try.ntmps15
  go_wp2
  go_ret
  exact ⟨rz, by repeat (first | exact Drawn0.refl _ | apply Drawn0.step)⟩
 ·rw [if_neg c3] at H; have c3b0 := beq_eq_false_iff_ne.mpr c3; have c3b1 := bne_iff_ne.mpr c3; obtain rfl := Option.some.inj H; go_enter Try.func15, Try.ntmps15
  go_wp2
  go_ret
  exact ⟨rz, by repeat (first | exact Drawn0.refl _ | apply Drawn0.step)⟩
end
section
def Bs_CopyInts.f (l0 : List Int) : Option (List Int) := (some (([] : List Int) : List Int)).bind fun y404 => (if y404.length + l0.length < 17592186044416 then (some (y404 ++ l0)) else (none))
theorem Bs_CopyInts.calls (A0 : Option Addr) (c0 : Nat) (l0 : List Int) (r : List Int) (w : World) (hr0 : Kd.C (Kd.int .i64) w A0 l0.length l0) (hc0 : l0.length ≤ c0) (H : Bs_CopyInts.f l0 = some r) :
  Calls Try.prog 26 #[.slice A0 l0.length c0] w fun e w' => ∃ v0_ : Value, e = .returned (v0_) ∧ Kd.R (Kd.int .i64) 3 w' w.heap.size (fun _ => True) v0_ r ∧ Below w.heap.size w w' := by
 have HR0 := m0 hr0; have HC0 := m0 hc0; clear hr0 hc0; have HB := m0 (Below.refl w.heap.size w); unfold Bs_CopyInts.f at H; obtain ⟨y404, hy404⟩ : ∃ y_ : List Int, y_ = (([] : List Int)) := ⟨_, rfl⟩; replace H : (if y404.length + l0.length < 17592186044416 then (some (y404 ++ l0)) else (none)) = some r := by first | (rw [hy404]; with_reducible exact H) | (have H2_ := (Option.bind_some _ _).symm.trans H; rw [hy404]; with_reducible exact H2_) | (have H2_ := (Option.bind_some _ _).symm.trans H; with_reducible exact H2_) | with_reducible exact H | (rw [hy404]; exact H) | exact H
 have Ny404 := m0 hy404; clear hy404
 by_cases c2 : y404.length + l0.length < 17592186044416
 ·rw [if_pos c2] at H; have LMc2 := m0 c2; clear c2; obtain ⟨y407, hy407⟩ : ∃ y_ : List Int, y_ = (y404 ++ l0) := ⟨_, rfl⟩; replace H : (some y407) = some r := by first | (rw [hy407]; with_reducible exact H) | (have H2_ := (Option.bind_some _ _).symm.trans H; rw [hy407]; with_reducible exact H2_) | (have H2_ := (Option.bind_some _ _).symm.trans H; with_reducible exact H2_) | with_reducible exact H | (rw [hy407]; exact H) | exact H
  have Ny407 := m0 hy407; clear hy407; obtain rfl := Option.some.inj H; go_enter Try.func26, Try.ntmps26
  go_wp2_with (first | ((with_reducible refine ga 3 rfl ?_); refine Kd.R_lit (Kd.int .i64) _ 3 ?hg (N := 3) ?hd (xs := ([] : List Int)) (inner := []) (ok := fun _ => True) (okp := fun _ => True) ?hr ?hp (fun _ hk => hk) trivial (Below.refl _ _) (Nat.le_refl _) (by simp) ?_; (case hd => rfl); (case hg => rfl); (case hr => first | (go_simp; done) | (go_simp; rfl)); (case hp => exact (Reps.none _ _)); intro v405 w3 ho4 hb hg_ hnew_; clear hg_ hnew_; (first | rw [← Ny404.out] at ho4 | (simp only [Int.reduceToNat] at ho4; rw [← Ny404.out] at ho4)); have HO406 := m0 (Kd.R_lower ho4 (below_size bz)); replace HB := sb HB hb; clear hb ho4) | ((with_reducible refine gate_builtin (b := .append) (xs := #[.tmp 3, .tmp 4]) rfl ?_); at_builtin; refine Kd.R_append_rows (Kd.int .i64) (w0 := w) w.heap.size rfl (.tmp 3) (.tmp 4) 41 3 (.int .i64 0) 8 rfl Try.underlying41 info3 rfl (by decide) (by omega) v405 y404 l0 _ _ _ (fun _ => True) (fun _ => False) rfl rfl ?aO ?aR (fun _ _ h => h) (fun _ h => h.elim) ?aF ?aB ?aS ?aL ?_; (case aR => exact cb HR0 HB); (case aB => exact bz); (case aF => exact (fun _ _ => trivial)); (case aO => exact (br HO406.out)); (case aS => exact (below_size bz)); (case aL => have := LMc2.out; omega); intro v408 w5 ho hb hg hat; rw [← Ny407.out] at ho; have n0_ := m0 (hb); have n1_ := m0 (ho); clear HB; clear HO406; have HB := n0_; have HO409 := n1_; clear n0_ n1_; clear ho hb hg hat))
  go_ret
  exact ⟨_, by first | rfl | (simp [errW_none, errW_some] <;> rfl) | (simp [*, errW_none, errW_some] <;> rfl), by (with_reducible repeat (first | apply Kd.R_alloc | apply Kd.R_drewN | apply Kd.R_drew)); exact HO409.out, by repeat (first | (with_reducible first | exact HB.out | apply below_alloc | apply pw_below_drewN | apply below_drew1) | exact HB.out)⟩
 ·rw [if_neg c2] at H; exact absurd H (by simp)
end
section
def Lw_few.f (l0 : List Int) : Option (Bool) := some (decide ((l0.length : Int) ≤ 26))
theorem Lw_few.calls (A0 : Option Addr) (c0 : Nat) (l0 : List Int) (r : Bool) (w : World) (hr0 : Kd.C (Kd.int .i64) w A0 l0.length l0) (hc0 : l0.length ≤ c0) (H : Lw_few.f l0 = some r) :
  Calls Try.prog 31 #[.slice A0 l0.length c0] w fun e w' => e = .returned (.bool r) ∧ Drawn0 w w' := by
 have HR0 := m0 hr0; have HC0 := m0 hc0; clear hr0 hc0; unfold Lw_few.f at H; obtain rfl := Option.some.inj H; go_enter Try.func31, Try.ntmps31
 go_wp2
 go_ret
 exact ⟨rz, by repeat (first | exact Drawn0.refl _ | apply Drawn0.step)⟩
end
section
def Bs_Within.f (a0 : Int) (a1 : Int) (a2 : Int) : Option (Bool) := if a1 ≤ a0 then (some (decide (a0 ≤ a2))) else (some false)
theorem Bs_Within.calls (a0 : Int) (a1 : Int) (a2 : Int) (r : Bool) (w : World) (H : Bs_Within.f a0 a1 a2 = some r) :
  Calls Try.prog 19 #[.int .i64 a0, .int .i64 a1, .int .i64 a2] w fun e w' => e = .returned (.bool r) ∧ Drawn0 w w' := by
 unfold Bs_Within.f at H
 by_cases c4 : a1 ≤ a0
 ·rw [if_pos c4] at H; have c4b0 := decide_eq_true c4; clear c4; obtain rfl := Option.some.inj H; go_enter Try.func19, Try.ntmps19
  go_wp2
  go_ret
  exact ⟨rz, by repeat (first | exact Drawn0.refl _ | apply Drawn0.step)⟩
 ·rw [if_neg c4] at H; have c4b0 := decide_eq_false c4; clear c4; obtain rfl := Option.some.inj H; go_enter Try.func19, Try.ntmps19
  go_wp2
  go_ret
  exact ⟨rz, by repeat (first | exact Drawn0.refl _ | apply Drawn0.step)⟩
end
section
def Rf_CheckProfile.l0 : Nat → List Int → Int → Option (Int × Int)
  | 0, _, _ => none
  | k + 1, x0, x4 => if x4 < (x0.length : Int) then (if 0 ≤ x4 then ((Bs_Within.f (rd x0 x4) 0 10000).bind fun t638 => (if t638 = true then (Rf_CheckProfile.l0 k x0 (wrap64 (x4 + 1))) else (some (x4, 2)))) else (none)) else (some (0, 0))
def Rf_CheckProfile.f (k : Nat) (l0 : List Int) : Option (Int × Int) := if (l0.length : Int) = 0 then (some (0, 10)) else (if (l0.length : Int) > 24 then (some (0, 8)) else (Rf_CheckProfile.l0 k l0 0))
theorem Rf_CheckProfile.mono_l : ∀ k, (∀ y0 y1, LeO (Rf_CheckProfile.l0 k y0 y1) (Rf_CheckProfile.l0 (k + 1) y0 y1))
  | 0 => fun _ _ r h => by simp [Rf_CheckProfile.l0] at h
  | k + 1 => by
    have ih0 := Rf_CheckProfile.mono_l k
    · intro y0 y1; unfold Rf_CheckProfile.l0
      repeat' with_reducible first
        | exact ih0 ..
        | exact LeO.refl ..
        | exact LeO.none ..
        | refine LeO.ite ?_ ?_
        | refine LeO.bind ?_ (fun _ => ?_)
theorem Rf_CheckProfile.mono : ∀ a0 k, LeO (Rf_CheckProfile.f k a0) (Rf_CheckProfile.f (k + 1) a0) := by
  intro a0 k; have ih0 := Rf_CheckProfile.mono_l k; unfold Rf_CheckProfile.f
  repeat' with_reducible first
    | exact ih0 ..
    | exact LeO.refl ..
    | exact LeO.none ..
    | refine LeO.ite ?_ ?_
    | refine LeO.bind ?_ (fun _ => ?_)
theorem Rf_CheckProfile.calls (k : Nat) (A0 : Option Addr) (c0 : Nat) (l0 : List Int) (r1 : Int) (r2 : Int) (w : World) (hr0 : Kd.C (Kd.int .i64) w A0 l0.length l0) (hc0 : l0.length ≤ c0) (H : Rf_CheckProfile.f k l0 = some (r1, r2)) :
    Calls Try.prog 46 #[.slice A0 l0.length c0] w fun e w' => e = .returned (.tuple #[.int .i64 r1, .int .i64 r2]) ∧ Drawn0 w w' := by
  have HR0 := m0 hr0; have HC0 := m0 hc0; clear hr0 hc0; unfold Rf_CheckProfile.f at H
  by_cases c2 : (l0.length : Int) = 0
  · rw [if_pos c2] at H; have c2b0 := beq_iff_eq.mpr c2; have c2b1 := bne_eq_false_iff_eq.mpr c2; clear c2; simp only [Option.some.injEq, Prod.mk.injEq] at H; obtain ⟨rfl, rfl⟩ := H; go_enter Try.func46, Try.ntmps46
    go_wp2
    go_ret2
    exact ⟨rz, by repeat (first | exact Drawn0.refl _ | apply Drawn0.step)⟩
  · rw [if_neg c2] at H; have c2b0 := beq_eq_false_iff_ne.mpr c2; have c2b1 := bne_iff_ne.mpr c2; have c2b2 : ¬ (l0 = []) := fun h_ => c2 (by rw [h_]; rfl)
    by_cases c3 : (l0.length : Int) > 24
    · rw [if_pos c3] at H; have c3b0 := decide_eq_true c3; have c3b1 : decide (24 < l0.length) = true := decide_eq_true (by omega); clear c3; simp only [Option.some.injEq, Prod.mk.injEq] at H; obtain ⟨rfl, rfl⟩ := H; go_enter Try.func46, Try.ntmps46
      go_wp2
      go_ret2
      exact ⟨rz, by repeat (first | exact Drawn0.refl _ | apply Drawn0.step)⟩
    · rw [if_neg c3] at H; have c3b0 := decide_eq_false c3; have c3b1 : decide (24 < l0.length) = false := decide_eq_false (by omega); clear c3; have H' := m0 H; clear H; go_enter Try.func46, Try.ntmps46
      go_wp2
      go_loopg [4] k (fun kq v4 w' => ∃ (x4_1 : Int), v4 = .int .i64 x4_1 ∧ Aside0 (Rf_CheckProfile.l0 kq l0 x4_1 = some (r1, r2)) ∧ Aside0 (kq ≤ k) ∧ Drawn0 w w')
      case atStart => exact ⟨(0), rz, H', ⟨Nat.le_refl _⟩, by repeat (first | exact Drawn0.refl _ | apply Drawn0.step)⟩
      case round =>
        clear H'; obtain ⟨x4_1, rfl, HA, HK1, ⟨m1, rfl⟩⟩ := hrel
        cases gk with
        | zero => exact absurd HA.out (by simp [Rf_CheckProfile.l0])
        | succ k1 =>
          have H := HA.out; clear HA; simp only [Rf_CheckProfile.l0] at H
          by_cases c4 : x4_1 < (l0.length : Int)
          · rw [if_pos c4] at H; have c4b0 := decide_eq_true c4; clear c4
            by_cases c5 : 0 ≤ x4_1
            · rw [if_pos c5] at H; have c5b0 := decide_eq_true c5; clear c5; replace H := oa H; obtain ⟨t638, A6, H⟩ := H; (try dsimp only at H)
              by_cases c7 : t638 = true
              · subst c7; rw [if_pos rfl] at H; have H' := m0 H; clear H; have p637 : 0 ≤ (x4_1 : Int) := od; have q637 : x4_1 < (l0.length : Int) := od; obtain ⟨ad637, e637, hx637_0⟩ := Kd.at_int HR0.out x4_1 p637 q637
                cases e637
                replace p637 := eq_true p637; replace q637 := eq_true q637
                go_wp2_with (first | ((with_reducible refine gc 19 rfl ?_); refine gl (some 21) Try.func19 #[.int .i64 (rd l0 x4_1), .int .i64 0, .int .i64 10000] ?_; (with_reducible refine (Bs_Within.calls (rd l0 x4_1) 0 10000 true _ A6.out).mono ?_); rintro e w' ⟨rfl, ⟨nd, rfl⟩⟩; refine ⟨_, rfl, ?_⟩))
                go_roundg k1
                case measure => have := HK1.out; omega
                case rel => exact ⟨(wrap64 (x4_1 + 1)), rz, H', ⟨by have := HK1.out; omega⟩, by repeat (first | exact Drawn0.refl _ | apply Drawn0.step)⟩
              · replace c7 := Bool.eq_false_iff.mpr c7; subst c7; rw [if_neg (show ¬ (false = true) by decide)] at H; simp only [Option.some.injEq, Prod.mk.injEq] at H; obtain ⟨rfl, rfl⟩ := H; have p637 : 0 ≤ (x4_1 : Int) := od; have q637 : x4_1 < (l0.length : Int) := od; obtain ⟨ad637, e637, hx637_0⟩ := Kd.at_int HR0.out x4_1 p637 q637
                cases e637
                replace p637 := eq_true p637; replace q637 := eq_true q637
                go_wp2_with (first | ((with_reducible refine gc 19 rfl ?_); refine gl (some 21) Try.func19 #[.int .i64 (rd l0 x4_1), .int .i64 0, .int .i64 10000] ?_; (with_reducible refine (Bs_Within.calls (rd l0 x4_1) 0 10000 false _ A6.out).mono ?_); rintro e w' ⟨rfl, ⟨nd, rfl⟩⟩; refine ⟨_, rfl, ?_⟩))
                go_ret2
                exact ⟨rz, by repeat (first | exact Drawn0.refl _ | apply Drawn0.step)⟩
            · rw [if_neg c5] at H; exact absurd H (by simp)
          · rw [if_neg c4] at H; have c4b0 := decide_eq_false c4; clear c4; simp only [Option.some.injEq, Prod.mk.injEq] at H; obtain ⟨rfl, rfl⟩ := H
            go_wp2
            go_ret2
            exact ⟨rz, by repeat (first | exact Drawn0.refl _ | apply Drawn0.step)⟩
end
section
def Rf_ProfileErr.f (k : Nat) (l0 : List Int) : Option (Int) := (Rf_CheckProfile.f k l0).bind fun bt639 => (some bt639.2)
theorem Rf_ProfileErr.mono : ∀ a0 k, LeO (Rf_ProfileErr.f k a0) (Rf_ProfileErr.f (k + 1) a0) := by
 intro a0 k; unfold Rf_ProfileErr.f
 repeat' with_reducible first
  | exact Rf_CheckProfile.mono ..
  | exact LeO.refl ..
  | exact LeO.none ..
  | refine LeO.ite ?_ ?_
  | refine LeO.bind ?_ (fun _ => ?_)
theorem Rf_ProfileErr.calls (k : Nat) (A0 : Option Addr) (c0 : Nat) (l0 : List Int) (r : Int) (w : World) (hr0 : Kd.C (Kd.int .i64) w A0 l0.length l0) (hc0 : l0.length ≤ c0) (H : Rf_ProfileErr.f k l0 = some r) :
  Calls Try.prog 35 #[.slice A0 l0.length c0] w fun e w' => e = .returned (.int .i64 r) ∧ Drawn0 w w' := by
 have HR0 := m0 hr0; have HC0 := m0 hc0; clear hr0 hc0; unfold Rf_ProfileErr.f at H; replace H := oa H; obtain ⟨⟨t639, t640⟩, A2, H⟩ := H; (try dsimp only at H); obtain rfl := Option.some.inj H; go_enter Try.func35, Try.ntmps35
 go_wp2_with (first | ((with_reducible refine gc 46 rfl ?_); refine gl (some 7) Try.func46 #[.slice A0 l0.length c0] ?_; (with_reducible refine (Rf_CheckProfile.calls k _ _ l0 t639 t640 _ ?side1 ?side2 A2.out).mono ?_); (case side1 => repeat (first | exact HR0.out | (with_reducible refine Kd.C_alloc ?_ _) | (with_reducible refine Kd.C_drewN ?_ _) | (with_reducible refine Kd.C_drew ?_))); (case side2 => exact HC0.out); rintro e w' ⟨rfl, ⟨nd, rfl⟩⟩; refine ⟨_, rfl, ?_⟩))
 go_ret
 exact ⟨rz, by repeat (first | exact Drawn0.refl _ | apply Drawn0.step)⟩
end
section
def Rf_PenaltyErr.f (a0 : Int) : Option (Int) := (Bs_Within.f a0 0 1000000).bind fun t647 => (if t647 = true then (some 0) else (some 2))
theorem Rf_PenaltyErr.calls (a0 : Int) (r : Int) (w : World) (H : Rf_PenaltyErr.f a0 = some r) :
  Calls Try.prog 38 #[.int .i64 a0] w fun e w' => e = .returned (.int .i64 r) ∧ Drawn0 w w' := by
 unfold Rf_PenaltyErr.f at H; replace H := oa H; obtain ⟨t647, A2, H⟩ := H; (try dsimp only at H)
 by_cases c3 : t647 = true
 ·subst c3; rw [if_pos rfl] at H; obtain rfl := Option.some.inj H; go_enter Try.func38, Try.ntmps38
  go_wp2_with (first | ((with_reducible refine gc 19 rfl ?_); refine gl (some 4) Try.func19 #[.int .i64 a0, .int .i64 0, .int .i64 1000000] ?_; (with_reducible refine (Bs_Within.calls a0 0 1000000 true _ A2.out).mono ?_); rintro e w' ⟨rfl, ⟨nd, rfl⟩⟩; refine ⟨_, rfl, ?_⟩))
  go_ret
  exact ⟨rz, by repeat (first | exact Drawn0.refl _ | apply Drawn0.step)⟩
 ·replace c3 := Bool.eq_false_iff.mpr c3; subst c3; rw [if_neg (show ¬ (false = true) by decide)] at H; obtain rfl := Option.some.inj H; go_enter Try.func38, Try.ntmps38
  go_wp2_with (first | ((with_reducible refine gc 19 rfl ?_); refine gl (some 4) Try.func19 #[.int .i64 a0, .int .i64 0, .int .i64 1000000] ?_; (with_reducible refine (Bs_Within.calls a0 0 1000000 false _ A2.out).mono ?_); rintro e w' ⟨rfl, ⟨nd, rfl⟩⟩; refine ⟨_, rfl, ?_⟩))
  go_ret
  exact ⟨rz, by repeat (first | exact Drawn0.refl _ | apply Drawn0.step)⟩
end
section
def Bs_Size.f (a0 : Int) : Option (Int) := some (mx a0 (wrap64 (-a0)))
theorem Bs_Size.calls (a0 : Int) (r : Int) (w : World) (H : Bs_Size.f a0 = some r) :
  Calls Try.prog 88 #[.int .i64 a0] w fun e w' => e = .returned (.int .i64 r) ∧ Below w.heap.size w w' := by
 have HB := m0 (Below.refl w.heap.size w); unfold Bs_Size.f at H; obtain ⟨ji2, hji2⟩ : ∃ j_ : Int, (mx a0 (wrap64 (-a0))) = j_ := ⟨_, rfl⟩; replace H : (some ji2) = some r := by first | (rw [hji2] at H; exact H) | (simp only [hji2] at H ⊢; exact H)
 have hji2_ : (if a0 < (wrap64 (-a0)) then (wrap64 (-a0)) else a0) = ji2 := hji2; obtain rfl := Option.some.inj H; go_enter Try.func88, Try.ntmps88
 go_wp2
 go_ret
 exact ⟨by first | rfl | (simp [errW_none, errW_some] <;> rfl) | (simp only [← hji2]; first | rfl | (simp [errW_none, errW_some] <;> rfl)) | (simp [*, errW_none, errW_some] <;> rfl), by repeat (first | (with_reducible first | exact HB.out | apply below_alloc | apply pw_below_drewN | apply below_drew1) | exact HB.out)⟩
end
section
mutual
def Rf_Cost.l0 : Nat → List Int → Int → Int → Int → Int → Option (Int)
  | 0, _, _, _, _, _ => none
  | k + 1, x0, x1, x2, x7, x8 => if x8 ≤ x2 then (Rf_Cost.l1 k x0 x1 x2 x7 x8 0 x1) else (some x7)
def Rf_Cost.l1 : Nat → List Int → Int → Int → Int → Int → Int → Int → Option (Int)
  | 0, _, _, _, _, _, _, _ => none
  | k + 1, x0, x1, x2, x7, x8, x9, x10 => if x10 ≤ x2 then (if 0 ≤ x10 then (if x10 < (x0.length : Int) then (if 0 ≤ x8 then (if x8 < (x0.length : Int) then ((Bs_Size.f (wrap64 ((rd x0 x10) - (rd x0 x8)))).bind fun t646 => (Rf_Cost.l1 k x0 x1 x2 x7 x8 (wrap64 (x9 + t646)) (wrap64 (x10 + 1)))) else (none)) else (none)) else (none)) else (none)) else (if x7 < 0 then (Rf_Cost.l0 k x0 x1 x2 x9 (wrap64 (x8 + 1))) else (if x9 < x7 then (Rf_Cost.l0 k x0 x1 x2 x9 (wrap64 (x8 + 1))) else (Rf_Cost.l0 k x0 x1 x2 x7 (wrap64 (x8 + 1)))))
end
def Rf_Cost.f (k : Nat) (l0 : List Int) (a1 : Int) (a2 : Int) : Option (Int) := Rf_Cost.l0 k l0 a1 a2 (-1) a1
theorem Rf_Cost.mono_l : ∀ k, (∀ y0 y1 y2 y3 y4, LeO (Rf_Cost.l0 k y0 y1 y2 y3 y4) (Rf_Cost.l0 (k + 1) y0 y1 y2 y3 y4)) ∧ (∀ y0 y1 y2 y3 y4 y5 y6, LeO (Rf_Cost.l1 k y0 y1 y2 y3 y4 y5 y6) (Rf_Cost.l1 (k + 1) y0 y1 y2 y3 y4 y5 y6))
  | 0 => ⟨fun _ _ _ _ _ r h => by simp [Rf_Cost.l0] at h, fun _ _ _ _ _ _ _ r h => by simp [Rf_Cost.l1] at h⟩
  | k + 1 => by
    obtain ⟨ih0, ih1⟩ := Rf_Cost.mono_l k; refine ⟨?_, ?_⟩
    · intro y0 y1 y2 y3 y4; unfold Rf_Cost.l0
      repeat' with_reducible first
        | exact ih0 ..
        | exact ih1 ..
        | exact LeO.refl ..
        | exact LeO.none ..
        | refine LeO.ite ?_ ?_
        | refine LeO.bind ?_ (fun _ => ?_)
    · intro y0 y1 y2 y3 y4 y5 y6; unfold Rf_Cost.l1
      repeat' with_reducible first
        | exact ih0 ..
        | exact ih1 ..
        | exact LeO.refl ..
        | exact LeO.none ..
        | refine LeO.ite ?_ ?_
        | refine LeO.bind ?_ (fun _ => ?_)
theorem Rf_Cost.mono : ∀ a0 a1 a2 k, LeO (Rf_Cost.f k a0 a1 a2) (Rf_Cost.f (k + 1) a0 a1 a2) := by
  intro a0 a1 a2 k; obtain ⟨ih0, ih1⟩ := Rf_Cost.mono_l k; unfold Rf_Cost.f
  repeat' with_reducible first
    | exact ih0 ..
    | exact ih1 ..
    | exact LeO.refl ..
    | exact LeO.none ..
    | refine LeO.ite ?_ ?_
    | refine LeO.bind ?_ (fun _ => ?_)
def Rf_Cost.T9 : Bool × List (List Nat × List Nat) := (true, [([], []), ([], []), ([], []), ([1, 2], [1, 2]), ([3], [3]), ([], []), ([], []), ([5, 6], [5, 6]), ([7], [7]), ([4, 8], [4, 8]), ([9], [9]), ([0, 10], [0, 10]), ([11, 10, 0, 1, 2, 3, 4, 5, 6, 7, 8, 9, 10, 11], [0, 11])])
def Rf_Cost.B9 : List Nat := [0, 0, 0, 6, 14, 0, 0, 96, 224, 510, 1022, 2047, 4095]
theorem Rf_Cost.tab9 : rtab .any (opsOf Try.f37 9) = Rf_Cost.T9 := by kernel_rfl
theorem Rf_Cost.bits9 : waitsOk Rf_Cost.T9.2 Rf_Cost.B9 = true := by kernel_rfl
theorem Rf_Cost.calls (k : Nat) (A0 : Option Addr) (c0 : Nat) (l0 : List Int) (a1 : Int) (a2 : Int) (r : Int) (w : World) (hr0 : Kd.C (Kd.int .i64) w A0 l0.length l0) (hc0 : l0.length ≤ c0) (H : Rf_Cost.f k l0 a1 a2 = some r) :
    Calls Try.prog 37 #[.slice A0 l0.length c0, .int .i64 a1, .int .i64 a2] w fun e w' => e = .returned (.int .i64 r) ∧ Below w.heap.size w w' := by
  have HR0 := m0 hr0; have HC0 := m0 hc0; clear hr0 hc0; have HB := m0 (Below.refl w.heap.size w); unfold Rf_Cost.f at H; have H' := m0 H; clear H; go_enter Try.func37, Try.ntmps37
  go_wp2
  go_loopg [7, 8] k (fun kq v7 v8 w' => ∃ (x7_1 : Int) (x8_1 : Int), v7 = .int .i64 x7_1 ∧ v8 = .int .i64 x8_1 ∧ Aside0 (Rf_Cost.l0 kq l0 a1 a2 x7_1 x8_1 = some r) ∧ Aside0 (kq ≤ k) ∧ Aside0 (Below w.heap.size w w'))
  case atStart => exact ⟨((-1)), (a1), rz, rz, H', ⟨Nat.le_refl _⟩, ⟨bz⟩⟩
  case round =>
    clear H'; obtain ⟨x7_1, x8_1, rfl, rfl, HA, HK1, HB⟩ := hrel
    cases gk with
    | zero => exact absurd HA.out (by simp [Rf_Cost.l0])
    | succ k1 =>
      have H := HA.out; clear HA; simp only [Rf_Cost.l0] at H
      by_cases c4 : x8_1 ≤ a2
      · rw [if_pos c4] at H; have c4b0 := decide_eq_true c4; clear c4; have H' := m0 H; clear H
        go_wp2
        go_loopg [9, 10] k1 (fun kq v9 v10 w' => ∃ (x9_2 : Int) (x10_2 : Int), v9 = .int .i64 x9_2 ∧ v10 = .int .i64 x10_2 ∧ Aside0 (Rf_Cost.l1 kq l0 a1 a2 x7_1 x8_1 x9_2 x10_2 = some r) ∧ Aside0 (kq ≤ k1) ∧ Aside0 (Below w.heap.size w w'))
        case atStart => exact ⟨(0), (a1), rz, rz, H', ⟨Nat.le_refl _⟩, ⟨bz⟩⟩
        case round =>
          clear H'; obtain ⟨x9_2, x10_2, rfl, rfl, HA, HK2, HB⟩ := hrel
          cases gk with
          | zero => exact absurd HA.out (by simp [Rf_Cost.l1])
          | succ k2 =>
            have H := HA.out; clear HA; simp only [Rf_Cost.l1] at H
            by_cases c5 : x10_2 ≤ a2
            · rw [if_pos c5] at H; have c5b0 := decide_eq_true c5; clear c5
              by_cases c6 : 0 ≤ x10_2
              · rw [if_pos c6] at H; have c6b0 := decide_eq_true c6; clear c6
                by_cases c7 : x10_2 < (l0.length : Int)
                · rw [if_pos c7] at H; have c7b0 := decide_eq_true c7; clear c7
                  by_cases c8 : 0 ≤ x8_1
                  · rw [if_pos c8] at H; have c8b0 := decide_eq_true c8; clear c8
                    by_cases c9 : x8_1 < (l0.length : Int)
                    · rw [if_pos c9] at H; have c9b0 := decide_eq_true c9; clear c9; replace H := oa H; obtain ⟨t646, A10, H⟩ := H; (try dsimp only at H); have H' := m0 H; clear H
                      try go_wp2
                      replace HB := sd HB; have p644 : 0 ≤ (x10_2 : Int) := od; have q644 : x10_2 < (l0.length : Int) := od; obtain ⟨ad644, e644, hx644_0⟩ := Kd.at_int HR0.out x10_2 p644 q644; have hw644_0 := hx644_0
                      cases e644
                      replace hx644_0 := hc HB hx644_0; replace p644 := eq_true p644; replace q644 := eq_true q644; have p645 : 0 ≤ (x8_1 : Int) := od; have q645 : x8_1 < (l0.length : Int) := od; obtain ⟨ad645, e645, hx645_0⟩ := Kd.at_int HR0.out x8_1 p645 q645; have hw645_0 := hx645_0; obtain rfl : ad644 = ad645 := (by injection e645); replace hx645_0 := hc HB hx645_0; replace p645 := eq_true p645; replace q645 := eq_true q645; refine start_ (n := 13) (S := fun w' => w'.cell? (ad644.add (x10_2).toNat) = some (.int .i64 (rd l0 x10_2)) ∧ w'.cell? (ad644.add (x8_1).toNat) = some (.int .i64 (rd l0 x8_1))) (ds := []) _ (by kernel_rfl) rfl rfl ⟨((HB.out.cell (World.block_lt_of_cell? w _ hw644_0)).trans hw644_0), ((HB.out.cell (World.block_lt_of_cell? w _ hw645_0)).trans hw645_0)⟩ (fun hH => ?_); refine with_tabW Rf_Cost.tab9 Rf_Cost.bits9 (fun HT_ HW_ => ?_); generalize wr.drew = w11 at HB hx644_0 hx645_0 hH ⊢; refine pZ 0 (some 23) (bs 13 1) HT_ ?_; refine pZ 1 (some 24) (bs 13 3) HT_ ?_; refine pZ 2 (some 25) (bs 13 7) HT_ ?_; refine pZ 3 (some 26) (bs 13 15) HT_ ?_; refine pZ 5 (some 28) (bs 13 47) HT_ ?_; refine pZ 6 (some 29) (bs 13 111) HT_ ?_; refine pZ 7 (some 30) (bs 13 239) HT_ ?_; refine takeZ 4 (some 27) (bs 13 255) (tw HT_ HW_) hH ?_; refine takeZ 8 (some 31) (bs 13 511) (tw HT_ HW_) hH ?_; refine pZ 9 (some 32) (bs 13 1023) HT_ ?_; refine oneZ 10 (some 33) (bs 13 2047) (o1 HT_) fun K hK => ?_; refine gz Try.func88 #[.int .i64 (wrap64 ((rd l0 x10_2) - (rd l0 x8_1)))] ?_
                      with_reducible refine (Bs_Size.calls (wrap64 ((rd l0 x10_2) - (rd l0 x8_1))) t646 _ A10.out).mono ?_
                      rintro e w12 ⟨rfl, hb⟩; refine ⟨_, rfl, ?_⟩; replace HB := sb HB hb; (try clear hb); refine hK.out _ _ ⟨((HB.out.cell (World.block_lt_of_cell? w _ hw644_0)).trans hw644_0), ((HB.out.cell (World.block_lt_of_cell? w _ hw645_0)).trans hw645_0)⟩ (fun hH => ?_); clear hK K; refine nz 33 ?_; refine pZ 11 (some 34) (bs 13 4095) HT_ ?_; refine pZ 12 (some 9) (bs 13 8191) HT_ ?_; refine done_ (done_of HT_.out (by kernel_rfl)) ?_
                      try go_wp2
                      go_roundg k2
                      case measure => have := HK1.out; have := HK2.out; omega
                      case rel => exact ⟨(wrap64 (x9_2 + t646)), (wrap64 (x10_2 + 1)), rz, rz, H', ⟨by have := HK1.out; have := HK2.out; omega⟩, ⟨bz⟩⟩
                    · rw [if_neg c9] at H; exact absurd H (by simp)
                  · rw [if_neg c8] at H; exact absurd H (by simp)
                · rw [if_neg c7] at H; exact absurd H (by simp)
              · rw [if_neg c6] at H; exact absurd H (by simp)
            · rw [if_neg c5] at H; have c5b0 := decide_eq_false c5; clear c5
              by_cases c13 : x7_1 < 0
              · rw [if_pos c13] at H; have c13b0 := decide_eq_true c13; clear c13; have H' := m0 H; clear H
                go_wp2
                go_roundg k2
                case measure => have := HK1.out; have := HK2.out; omega
                case rel => exact ⟨(x9_2), (wrap64 (x8_1 + 1)), rz, rz, H', ⟨by have := HK1.out; have := HK2.out; omega⟩, ⟨bz⟩⟩
              · rw [if_neg c13] at H; have c13b0 := decide_eq_false c13; clear c13
                by_cases c14 : x9_2 < x7_1
                · rw [if_pos c14] at H; have c14b0 := decide_eq_true c14; clear c14; have H' := m0 H; clear H
                  go_wp2
                  go_roundg k2
                  case measure => have := HK1.out; have := HK2.out; omega
                  case rel => exact ⟨(x9_2), (wrap64 (x8_1 + 1)), rz, rz, H', ⟨by have := HK1.out; have := HK2.out; omega⟩, ⟨bz⟩⟩
                · rw [if_neg c14] at H; have c14b0 := decide_eq_false c14; clear c14; have H' := m0 H; clear H
                  go_wp2
                  go_roundg k2
                  case measure => have := HK1.out; have := HK2.out; omega
                  case rel => exact ⟨(x7_1), (wrap64 (x8_1 + 1)), rz, rz, H', ⟨by have := HK1.out; have := HK2.out; omega⟩, ⟨bz⟩⟩
      · rw [if_neg c4] at H; have c4b0 := decide_eq_false c4; clear c4; obtain rfl := Option.some.inj H
        go_wp2
        go_ret
        exact ez
end
section
mutual
def Rf_Potentials.l0 : Nat → List Int → Int → List Int → Int → Option (List Int)
  | 0, _, _, _, _ => none
  | k + 1, x0, x1, x5, x6 => if x6 ≤ (x0.length : Int) then (Rf_Potentials.l1 k x0 x1 x5 x6 (-1) 0) else (some x5)
def Rf_Potentials.l1 : Nat → List Int → Int → List Int → Int → Int → Int → Option (List Int)
  | 0, _, _, _, _, _, _ => none
  | k + 1, x0, x1, x5, x6, x7, x8 => if x8 < x6 then (if 0 ≤ x8 then (if x8 < (x5.length : Int) then ((Rf_Cost.f k x0 x8 (wrap64 (x6 - 1))).bind fun t681 => (if x7 < 0 then (Rf_Potentials.l1 k x0 x1 x5 x6 (wrap64 ((wrap64 ((rd x5 x8) + t681)) + x1)) (wrap64 (x8 + 1))) else (if (wrap64 ((wrap64 ((rd x5 x8) + t681)) + x1)) < x7 then (Rf_Potentials.l1 k x0 x1 x5 x6 (wrap64 ((wrap64 ((rd x5 x8) + t681)) + x1)) (wrap64 (x8 + 1))) else (Rf_Potentials.l1 k x0 x1 x5 x6 x7 (wrap64 (x8 + 1)))))) else (none)) else (none)) else (if x5.length < 17592186044416 then (Rf_Potentials.l0 k x0 x1 (x5 ++ [x7]) (wrap64 (x6 + 1))) else (none))
end
def Rf_Potentials.f (k : Nat) (l0 : List Int) (a1 : Int) : Option (List Int) := Rf_Potentials.l0 k l0 a1 (([0] : List Int)) 1
theorem Rf_Potentials.mono_l : ∀ k, (∀ y0 y1 y2 y3, LeO (Rf_Potentials.l0 k y0 y1 y2 y3) (Rf_Potentials.l0 (k + 1) y0 y1 y2 y3)) ∧ (∀ y0 y1 y2 y3 y4 y5, LeO (Rf_Potentials.l1 k y0 y1 y2 y3 y4 y5) (Rf_Potentials.l1 (k + 1) y0 y1 y2 y3 y4 y5))
  | 0 => ⟨fun _ _ _ _ r h => by simp [Rf_Potentials.l0] at h, fun _ _ _ _ _ _ r h => by simp [Rf_Potentials.l1] at h⟩
  | k + 1 => by
    obtain ⟨ih0, ih1⟩ := Rf_Potentials.mono_l k; refine ⟨?_, ?_⟩
    · intro y0 y1 y2 y3; unfold Rf_Potentials.l0
      repeat' with_reducible first
        | exact ih0 ..
        | exact ih1 ..
        | exact Rf_Cost.mono ..
        | exact LeO.refl ..
        | exact LeO.none ..
        | refine LeO.ite ?_ ?_
        | refine LeO.bind ?_ (fun _ => ?_)
    · intro y0 y1 y2 y3 y4 y5; unfold Rf_Potentials.l1
      repeat' with_reducible first
        | exact ih0 ..
        | exact ih1 ..
        | exact Rf_Cost.mono ..
        | exact LeO.refl ..
        | exact LeO.none ..
        | refine LeO.ite ?_ ?_
        | refine LeO.bind ?_ (fun _ => ?_)
theorem Rf_Potentials.mono : ∀ a0 a1 k, LeO (Rf_Potentials.f k a0 a1) (Rf_Potentials.f (k + 1) a0 a1) := by
  intro a0 a1 k; obtain ⟨ih0, ih1⟩ := Rf_Potentials.mono_l k; unfold Rf_Potentials.f
  repeat' with_reducible first
    | exact ih0 ..
    | exact ih1 ..
    | exact Rf_Cost.mono ..
    | exact LeO.refl ..
    | exact LeO.none ..
    | refine LeO.ite ?_ ?_
    | refine LeO.bind ?_ (fun _ => ?_)
def Rf_Potentials.T9 : Bool × List (List Nat × List Nat) := (true, [([], []), ([], []), ([0, 1], [0, 1]), ([2], [2]), ([], []), ([], []), ([], []), ([6], [6]), ([4, 5, 7], [4, 5, 7]), ([3, 8], [3, 8]), ([], []), ([9, 10], [9, 10]), ([11, 8, 0, 1, 2, 3, 4, 5, 6, 7, 8, 9, 10, 11], [11])])
def Rf_Potentials.B9 : List Nat := [0, 0, 3, 7, 0, 0, 0, 64, 240, 511, 0, 2047, 4095]
theorem Rf_Potentials.tab9 : rtab .any (opsOf Try.f41 9) = Rf_Potentials.T9 := by kernel_rfl
theorem Rf_Potentials.bits9 : waitsOk Rf_Potentials.T9.2 Rf_Potentials.B9 = true := by kernel_rfl
theorem Rf_Potentials.calls (k : Nat) (A0 : Option Addr) (c0 : Nat) (l0 : List Int) (a1 : Int) (r : List Int) (w : World) (hr0 : Kd.C (Kd.int .i64) w A0 l0.length l0) (hc0 : l0.length ≤ c0) (H : Rf_Potentials.f k l0 a1 = some r) :
    Calls Try.prog 41 #[.slice A0 l0.length c0, .int .i64 a1] w fun e w' => ∃ v0_ : Value, e = .returned (v0_) ∧ Kd.R (Kd.int .i64) 3 w' w.heap.size (fun _ => True) v0_ r ∧ Below w.heap.size w w' := by
  have HR0 := m0 hr0; have HC0 := m0 hc0; clear hr0 hc0; have HB := m0 (Below.refl w.heap.size w); unfold Rf_Potentials.f at H; obtain ⟨y677, hy677⟩ : ∃ y_ : List Int, y_ = (([0] : List Int)) := ⟨_, rfl⟩; replace H : (Rf_Potentials.l0 k l0 a1 y677 1) = some r := by first | (rw [hy677]; with_reducible exact H) | (have H2_ := (Option.bind_some _ _).symm.trans H; rw [hy677]; with_reducible exact H2_) | (have H2_ := (Option.bind_some _ _).symm.trans H; with_reducible exact H2_) | with_reducible exact H | (rw [hy677]; exact H) | exact H
  have Ny677 := m0 hy677; clear hy677; have H' := m0 H; clear H; go_enter Try.func41, Try.ntmps41
  go_wp2_with (first | ((with_reducible refine ga 10 rfl ?_); refine Kd.R_lit (Kd.int .i64) _ 3 ?hg (N := 10) ?hd (xs := ([0] : List Int)) (inner := [.int .i64 0]) (ok := fun _ => True) (okp := fun _ => True) ?hr ?hp (fun _ hk => hk) trivial (Below.refl _ _) (Nat.le_refl _) (by simp) ?_; (case hd => rfl); (case hg => rfl); (case hr => first | (go_simp; done) | (go_simp; rfl)); (case hp => exact (Reps.one (ki 0) (Reps.none _ _))); intro v678 w3 ho4 hb hg_ hnew_; clear hg_ hnew_; (first | rw [← Ny677.out] at ho4 | (simp only [Int.reduceToNat] at ho4; rw [← Ny677.out] at ho4)); have HO679 := m0 (Kd.R_lower ho4 (below_size bz)); replace HB := sb HB hb; clear hb ho4))
  go_loopg [5, 6] k (fun kq v5 v6 w' => ∃ (x5_1 : List Int) (x6_1 : Int), v6 = .int .i64 x6_1 ∧ Aside0 (Rf_Potentials.l0 kq l0 a1 x5_1 x6_1 = some r) ∧ Aside0 (kq ≤ k) ∧ Aside0 (Kd.R (Kd.int .i64) 3 w' w.heap.size (fun _ => True) v5 x5_1) ∧ Aside0 (Below w.heap.size w w'))
  case atStart => exact ⟨(y677), (1), rz, H', ⟨Nat.le_refl _⟩, ⟨br HO679.out⟩, ⟨bz⟩⟩
  case round =>
    clear H'; obtain ⟨x5_1, x6_1, rfl, HA, HK1, HO_5, HB⟩ := hrel
    cases gk with
    | zero => exact absurd HA.out (by simp [Rf_Potentials.l0])
    | succ k1 =>
      have H := HA.out; clear HA; simp only [Rf_Potentials.l0] at H
      by_cases c5 : x6_1 ≤ (l0.length : Int)
      · rw [if_pos c5] at H; have c5b0 := decide_eq_true c5; clear c5; have H' := m0 H; clear H
        go_wp2
        go_loopg [7, 8] k1 (fun kq v7 v8 w' => ∃ (x7_2 : Int) (x8_2 : Int), v7 = .int .i64 x7_2 ∧ v8 = .int .i64 x8_2 ∧ Aside0 (Rf_Potentials.l1 kq l0 a1 x5_1 x6_1 x7_2 x8_2 = some r) ∧ Aside0 (kq ≤ k1) ∧ Aside0 (Kd.R (Kd.int .i64) 3 w' w.heap.size (fun _ => True) u5 x5_1) ∧ Aside0 (Below w.heap.size w w'))
        case atStart => exact ⟨((-1)), (0), rz, rz, H', ⟨Nat.le_refl _⟩, ⟨br HO_5.out⟩, ⟨bz⟩⟩
        case round =>
          clear H'; obtain ⟨x7_2, x8_2, rfl, rfl, HA, HK2, HO_5, HB⟩ := hrel
          cases gk with
          | zero => exact absurd HA.out (by simp [Rf_Potentials.l1])
          | succ k2 =>
            have H := HA.out; clear HA; simp only [Rf_Potentials.l1] at H
            by_cases c6 : x8_2 < x6_1
            · rw [if_pos c6] at H; have c6b0 := decide_eq_true c6; clear c6
              by_cases c7 : 0 ≤ x8_2
              · rw [if_pos c7] at H; have c7b0 := decide_eq_true c7; clear c7
                by_cases c8 : x8_2 < (x5_1.length : Int)
                · rw [if_pos c8] at H; have c8b0 := decide_eq_true c8; clear c8; replace H := oa H; obtain ⟨t681, A9, H⟩ := H; (try dsimp only at H)
                  by_cases c10 : x7_2 < 0
                  · rw [if_pos c10] at H; have c10b0 := decide_eq_true c10; clear c10; have H' := m0 H; clear H
                    try go_wp2
                    replace HO_5 := m0 (Kd.R_drew HO_5.out); replace HB := sd HB; obtain ⟨Ao12, co12, eo12⟩ := Kd.R_slice HO_5.out; subst eo12; have p680 : 0 ≤ (x8_2 : Int) := od; have q680 : x8_2 < (x5_1.length : Int) := od; obtain ⟨ad680, e680, hx680_0⟩ := Kd.at_int (Kd.R_reads' HO_5.out).2.2 x8_2 p680 q680
                    cases e680
                    replace p680 := eq_true p680; replace q680 := eq_true q680; refine start_ (n := 13) (S := fun w' => w'.cell? (ad680.add (x8_2).toNat) = some (.int .i64 (rd x5_1 x8_2))) (ds := []) _ (by kernel_rfl) rfl rfl (hx680_0) (fun hH => ?_); refine with_tabW Rf_Potentials.tab9 Rf_Potentials.bits9 (fun HT_ HW_ => ?_); generalize wr.drew = w11 at HO_5 HB hx680_0 hH ⊢; refine pZ 0 (some 22) (bs 13 1) HT_ ?_; refine pZ 1 (some 23) (bs 13 3) HT_ ?_; refine pZ 2 (some 24) (bs 13 7) HT_ ?_; refine pZ 4 (some 26) (bs 13 23) HT_ ?_; refine pZ 5 (some 27) (bs 13 55) HT_ ?_; refine pZ 6 (some 28) (bs 13 119) HT_ ?_; refine pZ 7 (some 29) (bs 13 247) HT_ ?_; refine pZ 10 (some 32) (bs 13 1271) HT_ ?_; refine take_ (i := 3) (N := some 25) (v := ?_) (a' := ?_) (bs 13 1279) rfl rfl (tw HT_ HW_) (fun _ _ _ h => h) (Or.inl ⟨by rfl, ?_⟩) hH ?_ ?_; rotate_left
                    · intro w' s0
                      go_simp
                      with_reducible rfl
                    rotate_left
                    · exact pz
                    refine oneZ 8 (some 30) (bs 13 1535) (o1 HT_) fun K hK => ?_; refine gz Try.func37 #[.slice A0 l0.length c0, .int .i64 x8_2, .int .i64 (wrap64 (x6_1 - 1))] ?_
                    with_reducible refine (Rf_Cost.calls k2 _ _ l0 x8_2 (wrap64 (x6_1 - 1)) t681 _ ?side1 ?side2 A9.out).mono ?_
                    (case side1 => exact cb HR0 HB)
                    (case side2 => exact HC0.out)
                    rintro e w13 ⟨rfl, hb⟩; have HS0_ := (hb.cell (World.block_lt_of_cell? _ _ (hH))).trans (hH); refine ⟨_, rfl, ?_⟩; replace HO_5 := rb HO_5 hb; replace HB := sb HB hb; (try clear hb); refine hK.out _ _ (HS0_) (fun hH => ?_); clear hK K; refine nz 30 ?_; refine pZ 9 (some 31) (bs 13 2047) HT_ ?_; refine pZ 11 (some 33) (bs 13 4095) HT_ ?_; refine pZ 12 (some 9) (bs 13 8191) HT_ ?_; refine done_ (done_of HT_.out (by kernel_rfl)) ?_
                    try go_wp2
                    go_roundg k2
                    case measure => have := HK1.out; have := HK2.out; omega
                    case rel => exact ⟨(wrap64 ((wrap64 ((rd x5_1 x8_2) + t681)) + a1)), (wrap64 (x8_2 + 1)), rz, rz, H', ⟨by have := HK1.out; have := HK2.out; omega⟩, ⟨br HO_5.out⟩, ⟨bz⟩⟩
                  · rw [if_neg c10] at H; have c10b0 := decide_eq_false c10; clear c10
                    by_cases c14 : (wrap64 ((wrap64 ((rd x5_1 x8_2) + t681)) + a1)) < x7_2
                    · rw [if_pos c14] at H; have c14b0 := decide_eq_true c14; clear c14; have H' := m0 H; clear H
                      try go_wp2
                      replace HO_5 := m0 (Kd.R_drew HO_5.out); replace HB := sd HB; obtain ⟨Ao16, co16, eo16⟩ := Kd.R_slice HO_5.out; subst eo16; have p680 : 0 ≤ (x8_2 : Int) := od; have q680 : x8_2 < (x5_1.length : Int) := od; obtain ⟨ad680, e680, hx680_0⟩ := Kd.at_int (Kd.R_reads' HO_5.out).2.2 x8_2 p680 q680
                      cases e680
                      replace p680 := eq_true p680; replace q680 := eq_true q680; refine start_ (n := 13) (S := fun w' => w'.cell? (ad680.add (x8_2).toNat) = some (.int .i64 (rd x5_1 x8_2))) (ds := []) _ (by kernel_rfl) rfl rfl (hx680_0) (fun hH => ?_); refine with_tabW Rf_Potentials.tab9 Rf_Potentials.bits9 (fun HT_ HW_ => ?_); generalize wr.drew = w15 at HO_5 HB hx680_0 hH ⊢; refine pZ 0 (some 22) (bs 13 1) HT_ ?_; refine pZ 1 (some 23) (bs 13 3) HT_ ?_; refine pZ 2 (some 24) (bs 13 7) HT_ ?_; refine pZ 4 (some 26) (bs 13 23) HT_ ?_; refine pZ 5 (some 27) (bs 13 55) HT_ ?_; refine pZ 6 (some 28) (bs 13 119) HT_ ?_; refine pZ 7 (some 29) (bs 13 247) HT_ ?_; refine pZ 10 (some 32) (bs 13 1271) HT_ ?_; refine take_ (i := 3) (N := some 25) (v := ?_) (a' := ?_) (bs 13 1279) rfl rfl (tw HT_ HW_) (fun _ _ _ h => h) (Or.inl ⟨by rfl, ?_⟩) hH ?_ ?_; rotate_left
                      · intro w' s0
                        go_simp
                        with_reducible rfl
                      rotate_left
                      · exact pz
                      refine oneZ 8 (some 30) (bs 13 1535) (o1 HT_) fun K hK => ?_; refine gz Try.func37 #[.slice A0 l0.length c0, .int .i64 x8_2, .int .i64 (wrap64 (x6_1 - 1))] ?_
                      with_reducible refine (Rf_Cost.calls k2 _ _ l0 x8_2 (wrap64 (x6_1 - 1)) t681 _ ?side1 ?side2 A9.out).mono ?_
                      (case side1 => exact cb HR0 HB)
                      (case side2 => exact HC0.out)
                      rintro e w17 ⟨rfl, hb⟩; have HS0_ := (hb.cell (World.block_lt_of_cell? _ _ (hH))).trans (hH); refine ⟨_, rfl, ?_⟩; replace HO_5 := rb HO_5 hb; replace HB := sb HB hb; (try clear hb); refine hK.out _ _ (HS0_) (fun hH => ?_); clear hK K; refine nz 30 ?_; refine pZ 9 (some 31) (bs 13 2047) HT_ ?_; refine pZ 11 (some 33) (bs 13 4095) HT_ ?_; refine pZ 12 (some 9) (bs 13 8191) HT_ ?_; refine done_ (done_of HT_.out (by kernel_rfl)) ?_
                      try go_wp2
                      go_roundg k2
                      case measure => have := HK1.out; have := HK2.out; omega
                      case rel => exact ⟨(wrap64 ((wrap64 ((rd x5_1 x8_2) + t681)) + a1)), (wrap64 (x8_2 + 1)), rz, rz, H', ⟨by have := HK1.out; have := HK2.out; omega⟩, ⟨br HO_5.out⟩, ⟨bz⟩⟩
                    · rw [if_neg c14] at H; have c14b0 := decide_eq_false c14; clear c14; have H' := m0 H; clear H
                      try go_wp2
                      replace HO_5 := m0 (Kd.R_drew HO_5.out); replace HB := sd HB; obtain ⟨Ao19, co19, eo19⟩ := Kd.R_slice HO_5.out; subst eo19; have p680 : 0 ≤ (x8_2 : Int) := od; have q680 : x8_2 < (x5_1.length : Int) := od; obtain ⟨ad680, e680, hx680_0⟩ := Kd.at_int (Kd.R_reads' HO_5.out).2.2 x8_2 p680 q680
                      cases e680
                      replace p680 := eq_true p680; replace q680 := eq_true q680; refine start_ (n := 13) (S := fun w' => w'.cell? (ad680.add (x8_2).toNat) = some (.int .i64 (rd x5_1 x8_2))) (ds := []) _ (by kernel_rfl) rfl rfl (hx680_0) (fun hH => ?_); refine with_tabW Rf_Potentials.tab9 Rf_Potentials.bits9 (fun HT_ HW_ => ?_); generalize wr.drew = w18 at HO_5 HB hx680_0 hH ⊢; refine pZ 0 (some 22) (bs 13 1) HT_ ?_; refine pZ 1 (some 23) (bs 13 3) HT_ ?_; refine pZ 2 (some 24) (bs 13 7) HT_ ?_; refine pZ 4 (some 26) (bs 13 23) HT_ ?_; refine pZ 5 (some 27) (bs 13 55) HT_ ?_; refine pZ 6 (some 28) (bs 13 119) HT_ ?_; refine pZ 7 (some 29) (bs 13 247) HT_ ?_; refine pZ 10 (some 32) (bs 13 1271) HT_ ?_; refine take_ (i := 3) (N := some 25) (v := ?_) (a' := ?_) (bs 13 1279) rfl rfl (tw HT_ HW_) (fun _ _ _ h => h) (Or.inl ⟨by rfl, ?_⟩) hH ?_ ?_; rotate_left
                      · intro w' s0
                        go_simp
                        with_reducible rfl
                      rotate_left
                      · exact pz
                      refine oneZ 8 (some 30) (bs 13 1535) (o1 HT_) fun K hK => ?_; refine gz Try.func37 #[.slice A0 l0.length c0, .int .i64 x8_2, .int .i64 (wrap64 (x6_1 - 1))] ?_
                      with_reducible refine (Rf_Cost.calls k2 _ _ l0 x8_2 (wrap64 (x6_1 - 1)) t681 _ ?side1 ?side2 A9.out).mono ?_
                      (case side1 => exact cb HR0 HB)
                      (case side2 => exact HC0.out)
                      rintro e w20 ⟨rfl, hb⟩; have HS0_ := (hb.cell (World.block_lt_of_cell? _ _ (hH))).trans (hH); refine ⟨_, rfl, ?_⟩; replace HO_5 := rb HO_5 hb; replace HB := sb HB hb; (try clear hb); refine hK.out _ _ (HS0_) (fun hH => ?_); clear hK K; refine nz 30 ?_; refine pZ 9 (some 31) (bs 13 2047) HT_ ?_; refine pZ 11 (some 33) (bs 13 4095) HT_ ?_; refine pZ 12 (some 9) (bs 13 8191) HT_ ?_; refine done_ (done_of HT_.out (by kernel_rfl)) ?_
                      try go_wp2
                      go_roundg k2
                      case measure => have := HK1.out; have := HK2.out; omega
                      case rel => exact ⟨(x7_2), (wrap64 (x8_2 + 1)), rz, rz, H', ⟨by have := HK1.out; have := HK2.out; omega⟩, ⟨br HO_5.out⟩, ⟨bz⟩⟩
                · rw [if_neg c8] at H; exact absurd H (by simp)
              · rw [if_neg c7] at H; exact absurd H (by simp)
            · rw [if_neg c6] at H; have c6b0 := decide_eq_false c6; clear c6
              by_cases c21 : x5_1.length < 17592186044416
              · rw [if_pos c21] at H; have LMc21 := m0 c21; clear c21; obtain ⟨y682, hy682⟩ : ∃ y_ : List Int, y_ = (x5_1 ++ [x7_2]) := ⟨_, rfl⟩; replace H : (Rf_Potentials.l0 k2 l0 a1 y682 (wrap64 (x6_1 + 1))) = some r := by first | (rw [hy682]; with_reducible exact H) | (have H2_ := (Option.bind_some _ _).symm.trans H; rw [hy682]; with_reducible exact H2_) | (have H2_ := (Option.bind_some _ _).symm.trans H; with_reducible exact H2_) | with_reducible exact H | (rw [hy682]; exact H) | exact H
                have Ny682 := m0 hy682; clear hy682; have H' := m0 H; clear H
                go_wp2_with (first | ((with_reducible refine gate_builtin (b := .append) (xs := #[.tmp 42, .tmp 44]) rfl ?_); at_builtin; refine Kd.R_append (Kd.int .i64) (w0 := w) w.heap.size rfl (.tmp 42) (.tmp 44) 41 3 (.int .i64 0) 8 rfl Try.underlying41 info3 rfl (by decide) (by omega) u5 x5_1 x7_2 [.int .i64 x7_2] (fun _ => True) (fun _ => False) rfl rfl ?aP (fun _ hk => hk.elim) ?aF ?aO ?aB ?aS ?aL ?_; (case aP => exact rfl); (case aB => exact bz); (case aF => exact (fun _ _ => trivial)); (case aO => exact (br HO_5.out)); (case aS => exact (below_size bz)); (case aL => have := LMc21.out; omega); intro v683 w22 ho hb hg hat; rw [← Ny682.out] at ho; have n0_ := m0 (hb); have n1_ := m0 (ho); clear HB; clear HO_5; have HB := n0_; have HO684 := n1_; clear n0_ n1_; clear ho hb hg hat))
                go_roundg k2
                case measure => have := HK1.out; have := HK2.out; omega
                case rel => exact ⟨(y682), (wrap64 (x6_1 + 1)), rz, H', ⟨by have := HK1.out; have := HK2.out; omega⟩, ⟨br HO684.out⟩, ⟨bz⟩⟩
              · rw [if_neg c21] at H; exact absurd H (by simp)
      · rw [if_neg c5] at H; have c5b0 := decide_eq_false c5; clear c5; obtain rfl := Option.some.inj H
        go_wp2
        go_ret
        exact ⟨_, by first | rfl | (simp [errW_none, errW_some] <;> rfl) | (simp [*, errW_none, errW_some] <;> rfl), by (with_reducible repeat (first | apply Kd.R_alloc | apply Kd.R_drewN | apply Kd.R_drew)); exact HO_5.out, by repeat (first | (with_reducible first | exact HB.out | apply below_alloc | apply pw_below_drewN | apply below_drew1) | exact HB.out)⟩
end
section
mutual
def L_CheckPotentials.l0 : Nat → Int → List Int → List Int → List Int → Int → Int → Option (Int × Int)
  | 0, _, _, _, _, _, _ => none
  | k + 1, x1, x2, x8, x35, x36, x37 => if x37 < x36 then (if 0 ≤ x37 then (if x37 < (x35.length : Int) then (if x37 ≤ (x2.length : Int) then (L_CheckPotentials.l1 k x1 x2 x8 x37 (rd x35 x37) 0 x35 x36 x37 (x2.take (x37 : Int).toNat) ((x2.take (x37 : Int).toNat).length : Int) 0) else (none)) else (none)) else (none)) else (if 0 ≤ (x8.length : Int) then (if (x8.length : Int) < (x2.length : Int) then (some (rd x2 (x8.length : Int), 0)) else (none)) else (none))
def L_CheckPotentials.l1 : Nat → Int → List Int → List Int → Int → Int → Int → List Int → Int → Int → List Int → Int → Int → Option (Int × Int)
  | 0, _, _, _, _, _, _, _, _, _, _, _, _ => none
  | k + 1, x1, x2, x8, x10, x11, x12, x35, x36, x37, x44, x45, x46 => if x46 < x45 then (if 0 ≤ x46 then (if x46 < (x44.length : Int) then (if x46 ≤ x10 then (if x10 ≤ (x8.length : Int) then ((L_profile_cost.f k ((x8.take (x10 : Int).toNat).drop (x46 : Int).toNat)).bind fun t829 => (if x46 = 0 then (L_CheckPotentials.l1 k x1 x2 x8 x10 x11 (wrap64 ((wrap64 ((rd x44 x46) + t829)) + x1)) x35 x36 x37 x44 x45 (wrap64 (x46 + 1))) else (if (wrap64 ((wrap64 ((rd x44 x46) + t829)) + x1)) < x12 then (L_CheckPotentials.l1 k x1 x2 x8 x10 x11 (wrap64 ((wrap64 ((rd x44 x46) + t829)) + x1)) x35 x36 x37 x44 x45 (wrap64 (x46 + 1))) else (L_CheckPotentials.l1 k x1 x2 x8 x10 x11 x12 x35 x36 x37 x44 x45 (wrap64 (x46 + 1)))))) else (none)) else (none)) else (none)) else (none)) else (if x11 = x12 then (L_CheckPotentials.l0 k x1 x2 x8 x35 x36 (wrap64 (x37 + 1))) else (some (x10, 17)))
end
def L_CheckPotentials.f (k : Nat) (l0 : List Int) (a1 : Int) (l2 : List Int) : Option (Int × Int) := (L_openDivision.f k l0 a1).bind fun bt811 => ((L_unless.f ((l2.length : Int) == (wrap64 ((l0.length : Int) + 1))) 10).bind fun t815 => ((L_first.f k (([bt811.2, t815] : List Int))).bind fun t819 => (if t819 = 0 then (L_CheckPotentials.l0 k a1 l2 bt811.1 l2 (l2.length : Int) 0) else (some (0, t819)))))
theorem L_CheckPotentials.mono_l : ∀ k, (∀ y0 y1 y2 y3 y4 y5, LeO (L_CheckPotentials.l0 k y0 y1 y2 y3 y4 y5) (L_CheckPotentials.l0 (k + 1) y0 y1 y2 y3 y4 y5)) ∧ (∀ y0 y1 y2 y3 y4 y5 y6 y7 y8 y9 y10 y11, LeO (L_CheckPotentials.l1 k y0 y1 y2 y3 y4 y5 y6 y7 y8 y9 y10 y11) (L_CheckPotentials.l1 (k + 1) y0 y1 y2 y3 y4 y5 y6 y7 y8 y9 y10 y11))
  | 0 => ⟨fun _ _ _ _ _ _ r h => by simp [L_CheckPotentials.l0] at h, fun _ _ _ _ _ _ _ _ _ _ _ _ r h => by simp [L_CheckPotentials.l1] at h⟩
  | k + 1 => by
    obtain ⟨ih0, ih1⟩ := L_CheckPotentials.mono_l k; refine ⟨?_, ?_⟩
    · intro y0 y1 y2 y3 y4 y5; unfold L_CheckPotentials.l0
      repeat' with_reducible first
        | exact ih0 ..
        | exact ih1 ..
        | exact L_first.mono ..
        | exact L_openDivision.mono ..
        | exact L_profile_cost.mono ..
        | exact LeO.refl ..
        | exact LeO.none ..
        | refine LeO.ite ?_ ?_
        | refine LeO.bind ?_ (fun _ => ?_)
    · intro y0 y1 y2 y3 y4 y5 y6 y7 y8 y9 y10 y11; unfold L_CheckPotentials.l1
      repeat' with_reducible first
        | exact ih0 ..
        | exact ih1 ..
        | exact L_first.mono ..
        | exact L_openDivision.mono ..
        | exact L_profile_cost.mono ..
        | exact LeO.refl ..
        | exact LeO.none ..
        | refine LeO.ite ?_ ?_
        | refine LeO.bind ?_ (fun _ => ?_)
theorem L_CheckPotentials.mono : ∀ a0 a1 a2 k, LeO (L_CheckPotentials.f k a0 a1 a2) (L_CheckPotentials.f (k + 1) a0 a1 a2) := by
  intro a0 a1 a2 k; obtain ⟨ih0, ih1⟩ := L_CheckPotentials.mono_l k; unfold L_CheckPotentials.f
  repeat' with_reducible first
    | exact ih0 ..
    | exact ih1 ..
    | exact L_first.mono ..
    | exact L_openDivision.mono ..
    | exact L_profile_cost.mono ..
    | exact LeO.refl ..
    | exact LeO.none ..
    | refine LeO.ite ?_ ?_
    | refine LeO.bind ?_ (fun _ => ?_)
theorem L_CheckPotentials.calls (k : Nat) (A0 : Option Addr) (c0 : Nat) (l0 : List Int) (a1 : Int) (A2 : Option Addr) (c2 : Nat) (l2 : List Int) (r1 : Int) (r2 : Int) (w : World) (hr0 : Kd.C (Kd.int .i64) w A0 l0.length l0) (hc0 : l0.length ≤ c0) (hr2 : Kd.C (Kd.int .i64) w A2 l2.length l2) (hc2 : l2.length ≤ c2) (H : L_CheckPotentials.f k l0 a1 l2 = some (r1, r2)) :
    Calls Try.prog 53 #[.slice A0 l0.length c0, .int .i64 a1, .slice A2 l2.length c2] w fun e w' => e = .returned (.tuple #[.int .i64 r1, .int .i64 r2]) ∧ Below w.heap.size w w' := by
  have HR0 := m0 hr0; have HC0 := m0 hc0; clear hr0 hc0; have HR2 := m0 hr2; have HC2 := m0 hc2; clear hr2 hc2; have HB := m0 (Below.refl w.heap.size w); unfold L_CheckPotentials.f at H; replace H := oa H; obtain ⟨⟨t811, t814⟩, A4, H⟩ := H; (try dsimp only at H); replace H := oa H; obtain ⟨t815, A5, H⟩ := H; (try dsimp only at H); obtain ⟨y816, hy816⟩ : ∃ y_ : List Int, y_ = (([t814, t815] : List Int)) := ⟨_, rfl⟩; replace H : ((L_first.f k y816).bind fun t819 => (if t819 = 0 then (L_CheckPotentials.l0 k a1 l2 t811 l2 (l2.length : Int) 0) else (some (0, t819)))) = some (r1, r2) := by first | (rw [hy816]; with_reducible exact H) | (have H2_ := (Option.bind_some _ _).symm.trans H; rw [hy816]; with_reducible exact H2_) | (have H2_ := (Option.bind_some _ _).symm.trans H; with_reducible exact H2_) | with_reducible exact H | (rw [hy816]; exact H) | exact H
  have Ny816 := m0 hy816; clear hy816; replace H := oa H; obtain ⟨t819, A6, H⟩ := H; (try dsimp only at H)
  by_cases c7 : t819 = 0
  · rw [if_pos c7] at H; have c7b0 := beq_iff_eq.mpr c7; have c7b1 := bne_eq_false_iff_eq.mpr c7; clear c7; have H' := m0 H; clear H; go_enter Try.func53, Try.ntmps53
    go_wp2_with (first | ((with_reducible refine gc 86 rfl ?_); refine gl (some 19) Try.func86 #[.slice A0 l0.length c0, .int .i64 a1] ?_; (with_reducible refine (L_openDivision.calls k (fun k_ => k_ < w.heap.size) _ _ l0 a1 t811 t814 _ ?side1 A4.out).mono ?_); (case side1 => exact Kd.V_mk HC0.out (Kd.F_below (Kd.C_F (Kd.heap_int .i64) HR0.out) bz)); rintro e w8 ⟨v812, rfl, ho0, hb⟩; refine ⟨_, rfl, ?_⟩; have HO813 := hv w (fun k_ => True) ho0 (fun k_ hk_ => trivial); replace HB := sb HB hb; (try clear hb); (try clear ho0)) | ((with_reducible refine gc 69 rfl ?_); refine gl (some 29) Try.func69 #[.bool ((l2.length : Int) == (wrap64 ((l0.length : Int) + 1))), .int .i64 10] ?_; (with_reducible refine (L_unless.calls ((l2.length : Int) == (wrap64 ((l0.length : Int) + 1))) 10 t815 _ A5.out).mono ?_); rintro e w' ⟨rfl, ⟨nd, rfl⟩⟩; refine ⟨_, rfl, ?_⟩) | ((with_reducible refine ga 30 rfl ?_); refine Kd.R_lit (Kd.int .i64) _ 26 ?hg (N := 30) ?hd (xs := ([t814, t815] : List Int)) (inner := [.int .i64 t814, .int .i64 t815]) (ok := fun _ => True) (okp := fun _ => True) ?hr ?hp (fun _ hk => hk) trivial (Below.refl _ _) (Nat.le_refl _) (by simp) ?_; (case hd => rfl); (case hg => rfl); (case hr => first | (go_simp; done) | (go_simp; rfl)); (case hp => exact (Reps.one (ki t814) (Reps.one (ki t815) (Reps.none _ _)))); intro v817 w9 ho10 hb hg_ hnew_; clear hg_ hnew_; (first | rw [← Ny816.out] at ho10 | (simp only [Int.reduceToNat] at ho10; rw [← Ny816.out] at ho10)); replace HO813 := m0 (Kd.V_elder' (by (with_reducible repeat (first | apply Kd.V_alloc | apply Kd.V_drewN | apply Kd.V_drew)); exact HO813.out) (Kd.R_base ho10) hb); have HO818 := m0 (Kd.R_lower ho10 (below_size bz)); replace HB := sb HB hb; clear hb ho10; obtain ⟨Ao11, co11, eo11⟩ := Kd.R_slice HO818.out; subst eo11) | ((with_reducible refine gc 68 rfl ?_); refine gl (some 31) Try.func68 #[.slice Ao11 y816.length co11] ?_; (with_reducible refine (L_first.calls k _ _ y816 t819 _ ?side1 ?side2 A6.out).mono ?_); (case side1 => exact bc (Kd.R_reads' HO818.out).2.2); (case side2 => exact (Kd.R_reads' HO818.out).2.1); rintro e w' ⟨rfl, ⟨nd, rfl⟩⟩; refine ⟨_, rfl, ?_⟩))
    go_loopg [37] k (fun kq v37 w' => ∃ (x37_1 : Int), v37 = .int .i64 x37_1 ∧ Aside0 (L_CheckPotentials.l0 kq a1 l2 t811 l2 (l2.length : Int) x37_1 = some (r1, r2)) ∧ Aside0 (kq ≤ k) ∧ Aside0 (Kd.V (Kd.int .i64) 3 w' w.heap.size (fun _ => True) v812 t811) ∧ Aside0 (Below w.heap.size w w'))
    case atStart => exact ⟨(0), rz, H', ⟨Nat.le_refl _⟩, ⟨by (with_reducible repeat (first | apply Kd.V_alloc | apply Kd.V_drewN | apply Kd.V_drew)); exact Kd.V_mono HO813.out (fun _ hk => trivial)⟩, ⟨bz⟩⟩
    case round =>
      clear H'; obtain ⟨x37_1, rfl, HA, HK1, HO_8, HB⟩ := hrel
      cases gk with
      | zero => exact absurd HA.out (by simp [L_CheckPotentials.l0])
      | succ k1 =>
        have H := HA.out; clear HA; simp only [L_CheckPotentials.l0] at H
        by_cases c12 : x37_1 < (l2.length : Int)
        · rw [if_pos c12] at H; have c12b0 := decide_eq_true c12; clear c12
          by_cases c13 : 0 ≤ x37_1
          · rw [if_pos c13] at H; have c13b0 := decide_eq_true c13; clear c13
            by_cases c14 : x37_1 < (l2.length : Int)
            · rw [if_pos c14] at H; have c14b0 := decide_eq_true c14; clear c14; have c15b0 := eq_true (od : 0 ≤ x37_1)
              by_cases c16 : x37_1 ≤ (l2.length : Int)
              · rw [if_pos c16] at H; have c16b0 := eq_true c16; have c16b1 := decide_eq_true c16; clear c16; have H' := m0 H; clear H; have p821 : 0 ≤ (x37_1 : Int) := od; have q821 : x37_1 < (l2.length : Int) := od; obtain ⟨ad821, e821, hx821_0⟩ := Kd.at_int HR2.out x37_1 p821 q821
                cases e821
                replace hx821_0 := hc HB hx821_0; replace p821 := eq_true p821; replace q821 := eq_true q821; obtain ⟨i017, hi017, _, hsz17, _⟩ := info_parts info3; obtain ⟨hcut17, hA17, hC17⟩ := print_take_of (P := Try.prog) (Value.int .i64) 0 41 3 .i64 Try.underlying41 hi017 hsz17 (some ad821) c2 l2 x37_1 (od) (od) HC2.out; have HR822 := m0 (Kd.C_of_reads (h1 := fun _ => rfl) (hA17 _ (Kd.reads_of_C HR2.out))); have HC822 := m0 hC17; clear hA17 hC17 hi017 hsz17; obtain ⟨G17, hG_17⟩ : ∃ y_, y_ = (l2.take (x37_1 : Int).toNat) := ⟨_, rfl⟩; rw [← hG_17] at H' hcut17 HR822 HC822; clear hG_17
                go_wp2
                go_loopg [12, 46] k1 (fun kq v12 v46 w' => ∃ (x12_2 : Int) (x46_2 : Int), v12 = .int .i64 x12_2 ∧ v46 = .int .i64 x46_2 ∧ Aside0 (L_CheckPotentials.l1 kq a1 l2 t811 x37_1 (rd l2 x37_1) x12_2 l2 (l2.length : Int) x37_1 G17 (G17.length : Int) x46_2 = some (r1, r2)) ∧ Aside0 (kq ≤ k1) ∧ Aside0 (Kd.V (Kd.int .i64) 3 w' w.heap.size (fun _ => True) v812 t811) ∧ Aside0 (Below w.heap.size w w'))
                case atStart => exact ⟨(0), (0), rz, rz, H', ⟨Nat.le_refl _⟩, ⟨by (with_reducible repeat (first | apply Kd.V_alloc | apply Kd.V_drewN | apply Kd.V_drew)); exact HO_8.out⟩, ⟨bz⟩⟩
                case round =>
                  clear H'
                  try clear hx8
                  try clear hx821_0
                  obtain ⟨x12_2, x46_2, rfl, rfl, HA, HK2, HO_8, HB⟩ := hrel
                  cases gk with
                  | zero => exact absurd HA.out (by simp [L_CheckPotentials.l1])
                  | succ k2 =>
                    have H := HA.out; clear HA; simp only [L_CheckPotentials.l1] at H
                    by_cases c18 : x46_2 < (G17.length : Int)
                    · rw [if_pos c18] at H; have c18b0 := decide_eq_true c18; clear c18
                      by_cases c19 : 0 ≤ x46_2
                      · rw [if_pos c19] at H; have c19b0 := decide_eq_true c19; clear c19
                        by_cases c20 : x46_2 < (G17.length : Int)
                        · rw [if_pos c20] at H; have c20b0 := decide_eq_true c20; clear c20; have c21b0 := eq_true (od : 0 ≤ x46_2)
                          by_cases c22 : x46_2 ≤ x37_1
                          · rw [if_pos c22] at H; have c22b0 := eq_true c22; have c22b1 := decide_eq_true c22; clear c22
                            by_cases c23 : x37_1 ≤ (t811.length : Int)
                            · rw [if_pos c23] at H; have c23b0 := eq_true c23; have c23b1 := decide_eq_true c23; clear c23; obtain ⟨y824, hy824⟩ : ∃ y_ : List Int, y_ = ((t811.take (x37_1 : Int).toNat).drop (x46_2 : Int).toNat) := ⟨_, rfl⟩; replace H : ((L_profile_cost.f k2 y824).bind fun t829 => (if x46_2 = 0 then (L_CheckPotentials.l1 k2 a1 l2 t811 x37_1 (rd l2 x37_1) (wrap64 ((wrap64 ((rd G17 x46_2) + t829)) + a1)) l2 (l2.length : Int) x37_1 G17 (G17.length : Int) (wrap64 (x46_2 + 1))) else (if (wrap64 ((wrap64 ((rd G17 x46_2) + t829)) + a1)) < x12_2 then (L_CheckPotentials.l1 k2 a1 l2 t811 x37_1 (rd l2 x37_1) (wrap64 ((wrap64 ((rd G17 x46_2) + t829)) + a1)) l2 (l2.length : Int) x37_1 G17 (G17.length : Int) (wrap64 (x46_2 + 1))) else (L_CheckPotentials.l1 k2 a1 l2 t811 x37_1 (rd l2 x37_1) x12_2 l2 (l2.length : Int) x37_1 G17 (G17.length : Int) (wrap64 (x46_2 + 1)))))) = some (r1, r2) := by first | (rw [hy824]; with_reducible exact H) | (have H2_ := (Option.bind_some _ _).symm.trans H; rw [hy824]; with_reducible exact H2_) | (have H2_ := (Option.bind_some _ _).symm.trans H; with_reducible exact H2_) | with_reducible exact H | (rw [hy824]; exact H) | exact H
                              have Ny824 := m0 hy824; clear hy824; replace H := oa H; obtain ⟨t829, A24, H⟩ := H; (try dsimp only at H)
                              by_cases c25 : x46_2 = 0
                              · rw [if_pos c25] at H; have c25b0 := beq_iff_eq.mpr c25; have c25b1 := bne_eq_false_iff_eq.mpr c25; clear c25; have H' := m0 H; clear H; have p823 : 0 ≤ (x46_2 : Int) := od; have q823 : x46_2 < (G17.length : Int) := od; obtain ⟨ad823, e823, hx823_0⟩ := Kd.at_int HR822.out x46_2 p823 q823; obtain rfl : ad821 = ad823 := (by injection e823); replace hx823_0 := hc HB hx823_0; replace p823 := eq_true p823; replace q823 := eq_true q823; obtain ⟨Ao27, co27, eo27⟩ := Kd.V_slice HO_8.out; subst eo27; have q26 : (x37_1 : Int) ≤ ((t811.length : Int) : Int) := od; obtain ⟨i026, hi026, _, hsz26, _⟩ := info_parts info3; have hroom26 : t811.length ≤ co27 := (Kd.V_reads' HO_8.out).2.1; have hC26 : Kd.F (Kd.int .i64) _ _ Ao27 t811.length t811 := (Kd.V_at (base := w.heap.size) HO_8.out).2.2; have ql26 : (x46_2 : Int) ≤ (x37_1 : Int) := od; have q026 : (0 : Int) ≤ (x46_2 : Int) := od; have hcut26 := cut_mid (P := Try.prog) 126 3 .i64 .i64 Try.underlying126 hi026 1 hsz26 Ao27 t811.length co27 x46_2 x37_1 q026 ql26 q26 hroom26; have hr26 := Kd.F_mid (lo := (x46_2 : Int).toNat) (hi := (x37_1 : Int).toNat) (c := co27) hC26 (by omega) (by omega) hroom26; obtain ⟨A26, hA26⟩ : ∃ A1, A1 = (if co27 = (x46_2 : Int).toNat then Ao27 else (Ao27 : Option Addr).map (·.add ((x46_2 : Int).toNat * 1))) := ⟨_, rfl⟩; obtain ⟨c26, hc26⟩ : ∃ c1, c1 = co27 - (x46_2 : Int).toNat := ⟨_, rfl⟩; have hy26 : y824.length = (x37_1 : Int).toNat - (x46_2 : Int).toNat := (by rw [Ny824.out, List.length_drop, List.length_take] <;> omega); rw [show ((t811).take (x37_1 : Int).toNat).drop (x46_2 : Int).toNat = y824 from Ny824.out.symm] at hr26; replace hr26 : Kd.F (Kd.int .i64) _ _ A26 y824.length y824 := (by rw [hA26]; exact hr26); rw [← hy26, ← hA26, ← hc26] at hcut26; have HO828 := m0 (show Kd.V (Kd.int .i64) 3 _ w.heap.size _ (.slice A26 y824.length c26) y824 from Kd.V_mk (by rw [hy26, hc26]; exact Nat.sub_le_sub_right (Nat.le_trans (by omega) hroom26) _) hr26); have HC828 := m0 (show y824.length ≤ c26 from by rw [hy26, hc26]; exact Nat.sub_le_sub_right (Nat.le_trans (by omega) hroom26) _); clear hr26 hC26 hroom26 hi026 hsz26 hc26; have KY26 := m0 hy26; have KA26 := m0 hA26; clear hy26 hA26; replace q26 := eq_true q26
                                go_wp2_with (first | ((with_reducible refine gc 85 rfl ?_); refine gl (some 56) Try.func85 #[.slice A26 y824.length c26] ?_; (with_reducible refine (L_profile_cost.calls k2 _ _ y824 t829 _ ?side1 ?side2 A24.out).mono ?_); (case side1 => exact bc (Kd.V_reads' HO828.out).2.2); (case side2 => exact (Kd.V_reads' HO828.out).2.1); rintro e w28 ⟨rfl, hb⟩; refine ⟨_, rfl, ?_⟩; replace HO_8 := vb HO_8 hb; replace HO828 := vb HO828 hb; replace HB := sb HB hb; (try clear hb)))
                                go_roundg k2
                                case measure => have := HK1.out; have := HK2.out; omega
                                case rel => exact ⟨(wrap64 ((wrap64 ((rd G17 x46_2) + t829)) + a1)), (wrap64 (x46_2 + 1)), rz, rz, H', ⟨by have := HK1.out; have := HK2.out; omega⟩, ⟨by (with_reducible repeat (first | apply Kd.V_alloc | apply Kd.V_drewN | apply Kd.V_drew)); exact HO_8.out⟩, ⟨bz⟩⟩
                              · rw [if_neg c25] at H; have c25b0 := beq_eq_false_iff_ne.mpr c25; have c25b1 := bne_iff_ne.mpr c25
                                by_cases c29 : (wrap64 ((wrap64 ((rd G17 x46_2) + t829)) + a1)) < x12_2
                                · rw [if_pos c29] at H; have c29b0 := decide_eq_true c29; clear c29; have H' := m0 H; clear H; have p823 : 0 ≤ (x46_2 : Int) := od; have q823 : x46_2 < (G17.length : Int) := od; obtain ⟨ad823, e823, hx823_0⟩ := Kd.at_int HR822.out x46_2 p823 q823; obtain rfl : ad821 = ad823 := (by injection e823); replace hx823_0 := hc HB hx823_0; replace p823 := eq_true p823; replace q823 := eq_true q823; obtain ⟨Ao31, co31, eo31⟩ := Kd.V_slice HO_8.out; subst eo31; have q30 : (x37_1 : Int) ≤ ((t811.length : Int) : Int) := od; obtain ⟨i030, hi030, _, hsz30, _⟩ := info_parts info3; have hroom30 : t811.length ≤ co31 := (Kd.V_reads' HO_8.out).2.1; have hC30 : Kd.F (Kd.int .i64) _ _ Ao31 t811.length t811 := (Kd.V_at (base := w.heap.size) HO_8.out).2.2; have ql30 : (x46_2 : Int) ≤ (x37_1 : Int) := od; have q030 : (0 : Int) ≤ (x46_2 : Int) := od; have hcut30 := cut_mid (P := Try.prog) 126 3 .i64 .i64 Try.underlying126 hi030 1 hsz30 Ao31 t811.length co31 x46_2 x37_1 q030 ql30 q30 hroom30; have hr30 := Kd.F_mid (lo := (x46_2 : Int).toNat) (hi := (x37_1 : Int).toNat) (c := co31) hC30 (by omega) (by omega) hroom30; obtain ⟨A30, hA30⟩ : ∃ A1, A1 = (if co31 = (x46_2 : Int).toNat then Ao31 else (Ao31 : Option Addr).map (·.add ((x46_2 : Int).toNat * 1))) := ⟨_, rfl⟩; obtain ⟨c30, hc30⟩ : ∃ c1, c1 = co31 - (x46_2 : Int).toNat := ⟨_, rfl⟩; have hy30 : y824.length = (x37_1 : Int).toNat - (x46_2 : Int).toNat := (by rw [Ny824.out, List.length_drop, List.length_take] <;> omega); rw [show ((t811).take (x37_1 : Int).toNat).drop (x46_2 : Int).toNat = y824 from Ny824.out.symm] at hr30; replace hr30 : Kd.F (Kd.int .i64) _ _ A30 y824.length y824 := (by rw [hA30]; exact hr30); rw [← hy30, ← hA30, ← hc30] at hcut30; have HO828 := m0 (show Kd.V (Kd.int .i64) 3 _ w.heap.size _ (.slice A30 y824.length c30) y824 from Kd.V_mk (by rw [hy30, hc30]; exact Nat.sub_le_sub_right (Nat.le_trans (by omega) hroom30) _) hr30); have HC828 := m0 (show y824.length ≤ c30 from by rw [hy30, hc30]; exact Nat.sub_le_sub_right (Nat.le_trans (by omega) hroom30) _); clear hr30 hC30 hroom30 hi030 hsz30 hc30; have KY30 := m0 hy30; have KA30 := m0 hA30; clear hy30 hA30; replace q30 := eq_true q30
                                  go_wp2_with (first | ((with_reducible refine gc 85 rfl ?_); refine gl (some 56) Try.func85 #[.slice A30 y824.length c30] ?_; (with_reducible refine (L_profile_cost.calls k2 _ _ y824 t829 _ ?side1 ?side2 A24.out).mono ?_); (case side1 => exact bc (Kd.V_reads' HO828.out).2.2); (case side2 => exact (Kd.V_reads' HO828.out).2.1); rintro e w32 ⟨rfl, hb⟩; refine ⟨_, rfl, ?_⟩; replace HO_8 := vb HO_8 hb; replace HO828 := vb HO828 hb; replace HB := sb HB hb; (try clear hb)))
                                  go_roundg k2
                                  case measure => have := HK1.out; have := HK2.out; omega
                                  case rel => exact ⟨(wrap64 ((wrap64 ((rd G17 x46_2) + t829)) + a1)), (wrap64 (x46_2 + 1)), rz, rz, H', ⟨by have := HK1.out; have := HK2.out; omega⟩, ⟨by (with_reducible repeat (first | apply Kd.V_alloc | apply Kd.V_drewN | apply Kd.V_drew)); exact HO_8.out⟩, ⟨bz⟩⟩
                                · rw [if_neg c29] at H; have c29b0 := decide_eq_false c29; clear c29; have H' := m0 H; clear H; have p823 : 0 ≤ (x46_2 : Int) := od; have q823 : x46_2 < (G17.length : Int) := od; obtain ⟨ad823, e823, hx823_0⟩ := Kd.at_int HR822.out x46_2 p823 q823; obtain rfl : ad821 = ad823 := (by injection e823); replace hx823_0 := hc HB hx823_0; replace p823 := eq_true p823; replace q823 := eq_true q823; obtain ⟨Ao34, co34, eo34⟩ := Kd.V_slice HO_8.out; subst eo34; have q33 : (x37_1 : Int) ≤ ((t811.length : Int) : Int) := od; obtain ⟨i033, hi033, _, hsz33, _⟩ := info_parts info3; have hroom33 : t811.length ≤ co34 := (Kd.V_reads' HO_8.out).2.1; have hC33 : Kd.F (Kd.int .i64) _ _ Ao34 t811.length t811 := (Kd.V_at (base := w.heap.size) HO_8.out).2.2; have ql33 : (x46_2 : Int) ≤ (x37_1 : Int) := od; have q033 : (0 : Int) ≤ (x46_2 : Int) := od; have hcut33 := cut_mid (P := Try.prog) 126 3 .i64 .i64 Try.underlying126 hi033 1 hsz33 Ao34 t811.length co34 x46_2 x37_1 q033 ql33 q33 hroom33; have hr33 := Kd.F_mid (lo := (x46_2 : Int).toNat) (hi := (x37_1 : Int).toNat) (c := co34) hC33 (by omega) (by omega) hroom33; obtain ⟨A33, hA33⟩ : ∃ A1, A1 = (if co34 = (x46_2 : Int).toNat then Ao34 else (Ao34 : Option Addr).map (·.add ((x46_2 : Int).toNat * 1))) := ⟨_, rfl⟩; obtain ⟨c33, hc33⟩ : ∃ c1, c1 = co34 - (x46_2 : Int).toNat := ⟨_, rfl⟩; have hy33 : y824.length = (x37_1 : Int).toNat - (x46_2 : Int).toNat := (by rw [Ny824.out, List.length_drop, List.length_take] <;> omega); rw [show ((t811).take (x37_1 : Int).toNat).drop (x46_2 : Int).toNat = y824 from Ny824.out.symm] at hr33; replace hr33 : Kd.F (Kd.int .i64) _ _ A33 y824.length y824 := (by rw [hA33]; exact hr33); rw [← hy33, ← hA33, ← hc33] at hcut33; have HO828 := m0 (show Kd.V (Kd.int .i64) 3 _ w.heap.size _ (.slice A33 y824.length c33) y824 from Kd.V_mk (by rw [hy33, hc33]; exact Nat.sub_le_sub_right (Nat.le_trans (by omega) hroom33) _) hr33); have HC828 := m0 (show y824.length ≤ c33 from by rw [hy33, hc33]; exact Nat.sub_le_sub_right (Nat.le_trans (by omega) hroom33) _); clear hr33 hC33 hroom33 hi033 hsz33 hc33; have KY33 := m0 hy33; have KA33 := m0 hA33; clear hy33 hA33; replace q33 := eq_true q33
                                  go_wp2_with (first | ((with_reducible refine gc 85 rfl ?_); refine gl (some 56) Try.func85 #[.slice A33 y824.length c33] ?_; (with_reducible refine (L_profile_cost.calls k2 _ _ y824 t829 _ ?side1 ?side2 A24.out).mono ?_); (case side1 => exact bc (Kd.V_reads' HO828.out).2.2); (case side2 => exact (Kd.V_reads' HO828.out).2.1); rintro e w35 ⟨rfl, hb⟩; refine ⟨_, rfl, ?_⟩; replace HO_8 := vb HO_8 hb; replace HO828 := vb HO828 hb; replace HB := sb HB hb; (try clear hb)))
                                  go_roundg k2
                                  case measure => have := HK1.out; have := HK2.out; omega
                                  case rel => exact ⟨(x12_2), (wrap64 (x46_2 + 1)), rz, rz, H', ⟨by have := HK1.out; have := HK2.out; omega⟩, ⟨by (with_reducible repeat (first | apply Kd.V_alloc | apply Kd.V_drewN | apply Kd.V_drew)); exact HO_8.out⟩, ⟨bz⟩⟩
                            · rw [if_neg c23] at H; exact absurd H (by simp)
                          · rw [if_neg c22] at H; exact absurd H (by simp)
                        · rw [if_neg c20] at H; exact absurd H (by simp)
                      · rw [if_neg c19] at H; exact absurd H (by simp)
                    · rw [if_neg c18] at H; have c18b0 := decide_eq_false c18; clear c18
                      by_cases c36 : (rd l2 x37_1) = x12_2
                      · rw [if_pos c36] at H; have c36b0 := beq_iff_eq.mpr c36; have c36b1 := bne_eq_false_iff_eq.mpr c36; clear c36; have H' := m0 H; clear H
                        go_wp2
                        go_roundg k2
                        case measure => have := HK1.out; have := HK2.out; omega
                        case rel => exact ⟨(wrap64 (x37_1 + 1)), rz, H', ⟨by have := HK1.out; have := HK2.out; omega⟩, ⟨by (with_reducible repeat (first | apply Kd.V_alloc | apply Kd.V_drewN | apply Kd.V_drew)); exact HO_8.out⟩, ⟨bz⟩⟩
                      · rw [if_neg c36] at H; have c36b0 := beq_eq_false_iff_ne.mpr c36; have c36b1 := bne_iff_ne.mpr c36; simp only [Option.some.injEq, Prod.mk.injEq] at H; obtain ⟨rfl, rfl⟩ := H
                        go_wp2
                        go_ret2
                        exact ez
              · rw [if_neg c16] at H; exact absurd H (by simp)
            · rw [if_neg c14] at H; exact absurd H (by simp)
          · rw [if_neg c13] at H; exact absurd H (by simp)
        · rw [if_neg c12] at H; have c12b0 := decide_eq_false c12; clear c12
          by_cases c37 : 0 ≤ (t811.length : Int)
          · rw [if_pos c37] at H; have c37b0 := decide_eq_true c37; have c37b1 : decide (0 ≤ t811.length) = true := decide_eq_true (by omega); clear c37
            by_cases c38 : (t811.length : Int) < (l2.length : Int)
            · rw [if_pos c38] at H; have c38b0 := decide_eq_true c38; have c38b1 : decide (t811.length < l2.length) = true := decide_eq_true (Int.ofNat_lt.mp c38); clear c38; simp only [Option.some.injEq, Prod.mk.injEq] at H; obtain ⟨rfl, rfl⟩ := H; obtain ⟨Ao39, co39, eo39⟩ := Kd.V_slice HO_8.out; subst eo39; have p820 : 0 ≤ ((t811.length : Int) : Int) := od; have q820 : (t811.length : Int) < (l2.length : Int) := od; obtain ⟨ad820, e820, hx820_0⟩ := Kd.at_int HR2.out (t811.length : Int) p820 q820
              cases e820
              replace hx820_0 := hc HB hx820_0; (try simp only [Go.IntWalk.toNatUp] at hx820_0); replace p820 := eq_true p820; replace q820 := eq_true q820
              go_wp2
              go_ret2
              exact ez
            · rw [if_neg c38] at H; exact absurd H (by simp)
          · rw [if_neg c37] at H; exact absurd H (by simp)
  · rw [if_neg c7] at H; have c7b0 := beq_eq_false_iff_ne.mpr c7; have c7b1 := bne_iff_ne.mpr c7; simp only [Option.some.injEq, Prod.mk.injEq] at H; obtain ⟨rfl, rfl⟩ := H; go_enter Try.func53, Try.ntmps53
    go_wp2_with (first | ((with_reducible refine gc 86 rfl ?_); refine gl (some 19) Try.func86 #[.slice A0 l0.length c0, .int .i64 a1] ?_; (with_reducible refine (L_openDivision.calls k (fun k_ => k_ < w.heap.size) _ _ l0 a1 t811 t814 _ ?side1 A4.out).mono ?_); (case side1 => exact Kd.V_mk HC0.out (Kd.F_below (Kd.C_F (Kd.heap_int .i64) HR0.out) bz)); rintro e w40 ⟨v812, rfl, ho0, hb⟩; refine ⟨_, rfl, ?_⟩; have HO813 := hv w (fun k_ => True) ho0 (fun k_ hk_ => trivial); replace HB := sb HB hb; (try clear hb); (try clear ho0)) | ((with_reducible refine gc 69 rfl ?_); refine gl (some 29) Try.func69 #[.bool ((l2.length : Int) == (wrap64 ((l0.length : Int) + 1))), .int .i64 10] ?_; (with_reducible refine (L_unless.calls ((l2.length : Int) == (wrap64 ((l0.length : Int) + 1))) 10 t815 _ A5.out).mono ?_); rintro e w' ⟨rfl, ⟨nd, rfl⟩⟩; refine ⟨_, rfl, ?_⟩) | ((with_reducible refine ga 30 rfl ?_); refine Kd.R_lit (Kd.int .i64) _ 26 ?hg (N := 30) ?hd (xs := ([t814, t815] : List Int)) (inner := [.int .i64 t814, .int .i64 t815]) (ok := fun _ => True) (okp := fun _ => True) ?hr ?hp (fun _ hk => hk) trivial (Below.refl _ _) (Nat.le_refl _) (by simp) ?_; (case hd => rfl); (case hg => rfl); (case hr => first | (go_simp; done) | (go_simp; rfl)); (case hp => exact (Reps.one (ki t814) (Reps.one (ki t815) (Reps.none _ _)))); intro v817 w41 ho42 hb hg_ hnew_; clear hg_ hnew_; (first | rw [← Ny816.out] at ho42 | (simp only [Int.reduceToNat] at ho42; rw [← Ny816.out] at ho42)); replace HO813 := m0 (Kd.V_elder' (by (with_reducible repeat (first | apply Kd.V_alloc | apply Kd.V_drewN | apply Kd.V_drew)); exact HO813.out) (Kd.R_base ho42) hb); have HO818 := m0 (Kd.R_lower ho42 (below_size bz)); replace HB := sb HB hb; clear hb ho42; obtain ⟨Ao43, co43, eo43⟩ := Kd.R_slice HO818.out; subst eo43) | ((with_reducible refine gc 68 rfl ?_); refine gl (some 31) Try.func68 #[.slice Ao43 y816.length co43] ?_; (with_reducible refine (L_first.calls k _ _ y816 t819 _ ?side1 ?side2 A6.out).mono ?_); (case side1 => exact bc (Kd.R_reads' HO818.out).2.2); (case side2 => exact (Kd.R_reads' HO818.out).2.1); rintro e w' ⟨rfl, ⟨nd, rfl⟩⟩; refine ⟨_, rfl, ?_⟩))
    go_ret2
    exact ez
end
end Go.Proofs.Yteiafijbgjgiaaa.A
