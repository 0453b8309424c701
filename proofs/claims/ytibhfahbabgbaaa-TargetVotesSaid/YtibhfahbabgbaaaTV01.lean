/- Walks of the program's functions (printed, made shorter), each with what it computes. -/
import Derived.Test.YtibhfahbabgbaaaB05
import Derived.Test.YtibhfahbabgbaaaB04
import Derived.Test.YtibhfahbabgbaaaB08
import Derived.Test.YtibhfahbabgbaaaB11
namespace Go.Proofs.Ytibhfahbabgbaaa.A
set_option maxHeartbeats 8000000
set_option maxRecDepth 100000
open Go.RowKit Go.Proofs.YtibhfahbabgbaaaW.PrintWords Go.Proofs.YtibhfahbabgbaaaW.PrintLast Go.Proofs.YtibhfahbabgbaaaW.PrintMore
attribute [local go_sem] max2_int min2_int max_two min_two max_three min_three max_four min_four
set_option linter.unusedVariables false
set_option linter.unusedSimpArgs false
section
def Bs_Within.f (a0 : Int) (a1 : Int) (a2 : Int) : Option (Bool) := if a1 ≤ a0 then (some (decide (a0 ≤ a2))) else (some false)
theorem Bs_Within.calls (a0 : Int) (a1 : Int) (a2 : Int) (r : Bool) (w : World) (h : Bs_Within.f a0 a1 a2 = some r) :
  Calls Try.prog 24 #[.int .i64 a0, .int .i64 a1, .int .i64 a2] w fun e w' => e = .returned (.bool r) ∧ Drawn0 w w' := by
 have H : (if a1 ≤ a0 then (some (decide (a0 ≤ a2))) else (some false)) = some r := h
 clear h
 by_cases c4 : a1 ≤ a0
 ·rw [if_pos c4] at H
  have c4b0 := decide_eq_true c4
  clear c4
  obtain rfl := Option.some.inj H
  go_enter Try.func24, Try.ntmps24
  go_wp2
  go_ret
  exact ⟨by first | rfl | (simp; done) | (simp [*]; done), by repeat (first | exact Drawn0.refl _ | apply Drawn0.step)⟩
 ·rw [if_neg c4] at H
  have c4b0 := decide_eq_false c4
  clear c4
  obtain rfl := Option.some.inj H
  go_enter Try.func24, Try.ntmps24
  go_wp2
  go_ret
  exact ⟨by first | rfl | (simp; done) | (simp [*]; done), by repeat (first | exact Drawn0.refl _ | apply Drawn0.step)⟩
end
section
def Lw_few.f (l0 : List (S85)) : Option (Bool) := some (decide ((l0.length : Int) ≤ 10))
theorem Lw_few.calls (A0 : Option Addr) (c0 : Nat) (l0 : List (S85)) (r : Bool) (w : World) (hr0 : Kd.C k85 w A0 l0.length l0) (hc0 : l0.length ≤ c0) (h : Lw_few.f l0 = some r) :
  Calls Try.prog 36 #[.slice A0 l0.length c0] w fun e w' => e = .returned (.bool r) ∧ Drawn0 w w' := by
 have HR0 := m0 hr0
 have HC0 := m0 hc0
 clear hr0 hc0
 have H : (some (decide ((l0.length : Int) ≤ 10))) = some r := h
 clear h
 obtain rfl := Option.some.inj H
 go_enter Try.func36, Try.ntmps36
 go_wp2
 go_ret
 exact ⟨by first | rfl | (simp; done) | (simp [*]; done), by repeat (first | exact Drawn0.refl _ | apply Drawn0.step)⟩
end
section
def Rf_CopyReadings.f (l0 : List (S85)) : Option ((List (S85))) := (some (([] : List (S85)) : List (S85))).bind fun y611 => (if y611.length + l0.length < 5864062014805 then (some (y611 ++ l0)) else (none))
theorem Rf_CopyReadings.calls (A0 : Option Addr) (c0 : Nat) (l0 : List (S85)) (r : List (S85)) (w : World) (hr0 : Kd.C k85 w A0 l0.length l0) (hc0 : l0.length ≤ c0) (h : Rf_CopyReadings.f l0 = some r) :
  Calls Try.prog 38 #[.slice A0 l0.length c0] w fun e w' => ∃ v0_ : Value, e = .returned (v0_) ∧ Kd.R k85 85 w' w.heap.size (fun _ => True) v0_ r ∧ Below w.heap.size w w' := by
 have HR0 := m0 hr0
 have HC0 := m0 hc0
 clear hr0 hc0
 have HB := m0 (Below.refl w.heap.size w)
 have H : ((some (([] : List (S85)) : List (S85))).bind fun y611 => (if y611.length + l0.length < 5864062014805 then (some (y611 ++ l0)) else (none))) = some r := h
 clear h
 obtain ⟨y611, hy611⟩ : ∃ y_ : List (S85), y_ = (([] : List (S85))) := ⟨_, rfl⟩
 replace H : (if y611.length + l0.length < 5864062014805 then (some (y611 ++ l0)) else (none)) = some r := by first | (rw [hy611]; with_reducible exact H) | (have H2_ := (Option.bind_some _ _).symm.trans H; rw [hy611]; with_reducible exact H2_) | (have H2_ := (Option.bind_some _ _).symm.trans H; with_reducible exact H2_) | with_reducible exact H | (rw [hy611]; exact H) | exact H
 have Ny611 := m0 hy611
 clear hy611
 by_cases c2 : y611.length + l0.length < 5864062014805
 ·rw [if_pos c2] at H
  have LMc2 := m0 c2
  clear c2
  obtain ⟨y614, hy614⟩ : ∃ y_ : List (S85), y_ = (y611 ++ l0) := ⟨_, rfl⟩
  replace H : (some y614) = some r := by first | (rw [hy614]; with_reducible exact H) | (have H2_ := (Option.bind_some _ _).symm.trans H; rw [hy614]; with_reducible exact H2_) | (have H2_ := (Option.bind_some _ _).symm.trans H; with_reducible exact H2_) | with_reducible exact H | (rw [hy614]; exact H) | exact H
  have Ny614 := m0 hy614
  clear hy614
  obtain rfl := Option.some.inj H
  go_enter Try.func38, Try.ntmps38
  go_wp2_with (first | ((with_reducible refine gate_dst (N := 3) rfl ?_); refine Kd.R_lit k85 _ 85 ?hg (N := 3) ?hd (xs := ([] : List (S85))) (inner := []) (ok := fun _ => True) (okp := fun _ => True) ?hr ?hp (fun _ hk => hk) trivial (Below.refl _ _) (Nat.le_refl _) (by simp) ?_; (case hd => rfl); (case hg => rfl); (case hr => first | (go_simp; done) | (go_simp; rfl)); (case hp => exact (Reps.none _ _)); intro v612 w3 ho4 hb hg_ hnew_; clear hg_ hnew_; (first | rw [← Ny611.out] at ho4 | (simp only [Int.reduceToNat] at ho4; rw [← Ny611.out] at ho4)); have HO613 := m0 (Kd.R_lower ho4 (below_size bz)); replace HB := sb HB hb; clear hb ho4) | ((with_reducible refine gate_builtin (b := .append) (xs := #[.tmp 3, .tmp 4]) rfl ?_); at_builtin; refine Kd.R_append_rows k85 (w0 := w) w.heap.size rfl (.tmp 3) (.tmp 4) 67 85 (.agg #[(.int .i64 0), (.int .i64 0), (.int .i64 0)]) 24 rfl Try.underlying67 info85 rfl (by decide) (by omega) v612 y611 l0 _ _ _ (fun _ => True) (fun _ => False) rfl rfl ?aO ?aR (fun _ _ h => h) (fun _ h => h.elim) ?aF ?aB ?aS ?aL ?_; (case aR => exact cb HR0 HB); (case aB => exact bz); (case aF => exact (fun _ _ => trivial)); (case aO => exact (br HO613.out)); (case aS => exact (below_size bz)); (case aL => have := LMc2.out; omega); intro v615 w5 ho hb hg hat; rw [← Ny614.out] at ho; have n0_ := m0 (hb); have n1_ := m0 (ho); clear HB; clear HO613; have HB := n0_; have HO616 := n1_; clear n0_ n1_; clear ho hb hg hat))
  go_ret
  exact ⟨_, by first | rfl | (simp [errW_none, errW_some] <;> rfl) | (simp [*, errW_none, errW_some] <;> rfl), by (with_reducible repeat (first | apply Kd.R_alloc | apply Kd.R_drewN | apply Kd.R_drew)); exact HO616.out, by repeat (first | (with_reducible first | exact HB.out | apply below_alloc | apply pw_below_drewN | apply below_drew1) | exact HB.out)⟩
 ·rw [if_neg c2] at H
  exact absurd H (by simp)
end
section
def Rf_CheckReadings.l0 : Nat → List (S85) → Int → Option (Int × Int)
  | 0, _, _ => none
  | k + 1, x0, x4 => if x4 < (x0.length : Int) then (if 0 ≤ x4 then ((Bs_Within.f ((rd_T85 x0 x4).f0) 0 2000).bind fun t657 => (if t657 = true then ((Bs_Within.f ((rd_T85 x0 x4).f1) 0 2000).bind fun t659 => (if t659 = true then ((Bs_Within.f ((rd_T85 x0 x4).f2) 0 1000).bind fun t661 => (if t661 = true then (Rf_CheckReadings.l0 k x0 (wrap64 (x4 + 1))) else (some (x4, 2)))) else (some (x4, 2)))) else (some (x4, 2)))) else (none)) else (some (0, 0))
def Rf_CheckReadings.f (k : Nat) (l0 : List (S85)) : Option (Int × Int) := if (l0.length : Int) = 0 then (some (0, 10)) else (if (l0.length : Int) > 8 then (some (0, 8)) else (Rf_CheckReadings.l0 k l0 0))
theorem Rf_CheckReadings.mono_l : ∀ k, (∀ y0 y1, LeO (Rf_CheckReadings.l0 k y0 y1) (Rf_CheckReadings.l0 (k + 1) y0 y1))
  | 0 => fun _ _ r h => by simp [Rf_CheckReadings.l0] at h
  | k + 1 => by
    have ih0 := Rf_CheckReadings.mono_l k
    · intro y0 y1
      unfold Rf_CheckReadings.l0
      repeat' with_reducible first
        | exact ih0 ..
        | exact LeO.refl ..
        | exact LeO.none ..
        | refine LeO.ite ?_ ?_
        | refine LeO.bind ?_ (fun _ => ?_)
theorem Rf_CheckReadings.mono : ∀ a0 k, LeO (Rf_CheckReadings.f k a0) (Rf_CheckReadings.f (k + 1) a0) := by
  intro a0 k
  have ih0 := Rf_CheckReadings.mono_l k
  unfold Rf_CheckReadings.f
  repeat' with_reducible first
    | exact ih0 ..
    | exact LeO.refl ..
    | exact LeO.none ..
    | refine LeO.ite ?_ ?_
    | refine LeO.bind ?_ (fun _ => ?_)
theorem Rf_CheckReadings.calls (k : Nat) (A0 : Option Addr) (c0 : Nat) (l0 : List (S85)) (r1 : Int) (r2 : Int) (w : World) (hr0 : Kd.C k85 w A0 l0.length l0) (hc0 : l0.length ≤ c0) (h : Rf_CheckReadings.f k l0 = some (r1, r2)) :
    Calls Try.prog 58 #[.slice A0 l0.length c0] w fun e w' => e = .returned (.tuple #[.int .i64 r1, .int .i64 r2]) ∧ Drawn0 w w' := by
  have HR0 := m0 hr0
  have HC0 := m0 hc0
  clear hr0 hc0
  have H : (if (l0.length : Int) = 0 then (some (0, 10)) else (if (l0.length : Int) > 8 then (some (0, 8)) else (Rf_CheckReadings.l0 k l0 0))) = some (r1, r2) := h
  clear h
  by_cases c2 : (l0.length : Int) = 0
  · rw [if_pos c2] at H
    have c2b0 := beq_iff_eq.mpr c2
    have c2b1 := bne_eq_false_iff_eq.mpr c2
    clear c2
    simp only [Option.some.injEq, Prod.mk.injEq] at H
    obtain ⟨rfl, rfl⟩ := H
    go_enter Try.func58, Try.ntmps58
    go_wp2
    go_ret2
    exact ⟨by first | rfl | (simp; done) | (simp [*]; done), by repeat (first | exact Drawn0.refl _ | apply Drawn0.step)⟩
  · rw [if_neg c2] at H
    have c2b0 := beq_eq_false_iff_ne.mpr c2
    have c2b1 := bne_iff_ne.mpr c2
    have c2b2 : ¬ (l0 = []) := fun h_ => c2 (by rw [h_]; rfl)
    by_cases c3 : (l0.length : Int) > 8
    · rw [if_pos c3] at H
      have c3b0 := decide_eq_true c3
      have c3b1 : decide (8 < l0.length) = true := decide_eq_true (by omega)
      clear c3
      simp only [Option.some.injEq, Prod.mk.injEq] at H
      obtain ⟨rfl, rfl⟩ := H
      go_enter Try.func58, Try.ntmps58
      go_wp2
      go_ret2
      exact ⟨by first | rfl | (simp; done) | (simp [*]; done), by repeat (first | exact Drawn0.refl _ | apply Drawn0.step)⟩
    · rw [if_neg c3] at H
      have c3b0 := decide_eq_false c3
      have c3b1 : decide (8 < l0.length) = false := decide_eq_false (by omega)
      clear c3
      have H' := m0 H
      clear H
      go_enter Try.func58, Try.ntmps58
      go_wp2
      go_loopg [4] k (fun kq v4 w' => ∃ (x4_1 : Int), v4 = .int .i64 x4_1 ∧ Aside0 (Rf_CheckReadings.l0 kq l0 x4_1 = some (r1, r2)) ∧ Aside0 (kq ≤ k) ∧ Drawn0 w w')
      case atStart => exact ⟨(0), (by first | rfl | (simp; done) | (simp [*]; done)), H', ⟨Nat.le_refl _⟩, by repeat (first | exact Drawn0.refl _ | apply Drawn0.step)⟩
      case round =>
        clear H'
        obtain ⟨x4_1, rfl, HA, HK1, ⟨m1, rfl⟩⟩ := hrel
        cases gk with
        | zero => exact absurd HA.out (by simp [Rf_CheckReadings.l0])
        | succ k1 =>
          have H := HA.out
          clear HA
          simp only [Rf_CheckReadings.l0] at H
          by_cases c4 : x4_1 < (l0.length : Int)
          · rw [if_pos c4] at H
            have c4b0 := decide_eq_true c4
            clear c4
            by_cases c5 : 0 ≤ x4_1
            · rw [if_pos c5] at H
              have c5b0 := decide_eq_true c5
              clear c5
              replace H := ob H
              obtain ⟨t657, A6, H⟩ := H
              (try dsimp only at H)
              replace A6 := m0 A6
              by_cases c7 : t657 = true
              · subst c7
                rw [if_pos rfl] at H
                replace H := ob H
                obtain ⟨t659, A8, H⟩ := H
                (try dsimp only at H)
                replace A8 := m0 A8
                by_cases c9 : t659 = true
                · subst c9
                  rw [if_pos rfl] at H
                  replace H := ob H
                  obtain ⟨t661, A10, H⟩ := H
                  (try dsimp only at H)
                  replace A10 := m0 A10
                  by_cases c11 : t661 = true
                  · subst c11
                    rw [if_pos rfl] at H
                    have H' := m0 H
                    clear H
                    have p656 : 0 ≤ (x4_1 : Int) := od
                    have q656 : x4_1 < (l0.length : Int) := od
                    obtain ⟨ad656, e656, hx656_0, hx656_1, hx656_2⟩ := at_T85 HR0.out x4_1 p656 q656
                    cases e656
                    replace p656 := eq_true p656
                    replace q656 := eq_true q656
                    go_wp2_with (first | ((with_reducible refine gate_callee (f := 24) rfl ?_); refine gl (some 22) Try.func24 #[.int .i64 ((rd_T85 l0 x4_1).f0), .int .i64 0, .int .i64 2000] ?_; (with_reducible refine (Bs_Within.calls ((rd_T85 l0 x4_1).f0) 0 2000 true _ A6.out).mono ?_); rintro e w' ⟨rfl, ⟨nd, rfl⟩⟩; refine ⟨_, rfl, ?_⟩; have p658 : 0 ≤ (x4_1 : Int) := od; have q658 : x4_1 < (l0.length : Int) := od; obtain ⟨ad658, e658, hx658_0, hx658_1, hx658_2⟩ := at_T85 HR0.out x4_1 p658 q658; obtain rfl : ad656 = ad658 := (by injection e658); replace p658 := eq_true p658; replace q658 := eq_true q658) | (go_at_call 24; (with_reducible refine (Bs_Within.calls ((rd_T85 l0 x4_1).f1) 0 2000 true _ A8.out).mono ?_); rintro e w' ⟨rfl, ⟨nd, rfl⟩⟩; have p660 : 0 ≤ (x4_1 : Int) := od; have q660 : x4_1 < (l0.length : Int) := od; obtain ⟨ad660, e660, hx660_0, hx660_1, hx660_2⟩ := at_T85 HR0.out x4_1 p660 q660; obtain rfl : ad656 = ad660 := (by injection e660); replace p660 := eq_true p660; replace q660 := eq_true q660) | (go_at_call 24; (with_reducible refine (Bs_Within.calls ((rd_T85 l0 x4_1).f2) 0 1000 true _ A10.out).mono ?_); rintro e w' ⟨rfl, ⟨nd, rfl⟩⟩))
                    go_roundg k1
                    case measure => have := HK1.out; omega
                    case rel => exact ⟨(wrap64 (x4_1 + 1)), (by first | rfl | (simp; done) | (simp [*]; done)), H', ⟨by have := HK1.out; omega⟩, by repeat (first | exact Drawn0.refl _ | apply Drawn0.step)⟩
                  · replace c11 := Bool.eq_false_iff.mpr c11
                    subst c11
                    rw [if_neg (show ¬ (false = true) by decide)] at H
                    simp only [Option.some.injEq, Prod.mk.injEq] at H
                    obtain ⟨rfl, rfl⟩ := H
                    have p656 : 0 ≤ (x4_1 : Int) := od
                    have q656 : x4_1 < (l0.length : Int) := od
                    obtain ⟨ad656, e656, hx656_0, hx656_1, hx656_2⟩ := at_T85 HR0.out x4_1 p656 q656
                    cases e656
                    replace p656 := eq_true p656
                    replace q656 := eq_true q656
                    go_wp2_with (first | ((with_reducible refine gate_callee (f := 24) rfl ?_); refine gl (some 22) Try.func24 #[.int .i64 ((rd_T85 l0 x4_1).f0), .int .i64 0, .int .i64 2000] ?_; (with_reducible refine (Bs_Within.calls ((rd_T85 l0 x4_1).f0) 0 2000 true _ A6.out).mono ?_); rintro e w' ⟨rfl, ⟨nd, rfl⟩⟩; refine ⟨_, rfl, ?_⟩; have p658 : 0 ≤ (x4_1 : Int) := od; have q658 : x4_1 < (l0.length : Int) := od; obtain ⟨ad658, e658, hx658_0, hx658_1, hx658_2⟩ := at_T85 HR0.out x4_1 p658 q658; obtain rfl : ad656 = ad658 := (by injection e658); replace p658 := eq_true p658; replace q658 := eq_true q658) | (go_at_call 24; (with_reducible refine (Bs_Within.calls ((rd_T85 l0 x4_1).f1) 0 2000 true _ A8.out).mono ?_); rintro e w' ⟨rfl, ⟨nd, rfl⟩⟩; have p660 : 0 ≤ (x4_1 : Int) := od; have q660 : x4_1 < (l0.length : Int) := od; obtain ⟨ad660, e660, hx660_0, hx660_1, hx660_2⟩ := at_T85 HR0.out x4_1 p660 q660; obtain rfl : ad656 = ad660 := (by injection e660); replace p660 := eq_true p660; replace q660 := eq_true q660) | (go_at_call 24; (with_reducible refine (Bs_Within.calls ((rd_T85 l0 x4_1).f2) 0 1000 false _ A10.out).mono ?_); rintro e w' ⟨rfl, ⟨nd, rfl⟩⟩))
                    go_ret2
                    exact ⟨by first | rfl | (simp; done) | (simp [*]; done), by repeat (first | exact Drawn0.refl _ | apply Drawn0.step)⟩
                · replace c9 := Bool.eq_false_iff.mpr c9
                  subst c9
                  rw [if_neg (show ¬ (false = true) by decide)] at H
                  simp only [Option.some.injEq, Prod.mk.injEq] at H
                  obtain ⟨rfl, rfl⟩ := H
                  have p656 : 0 ≤ (x4_1 : Int) := od
                  have q656 : x4_1 < (l0.length : Int) := od
                  obtain ⟨ad656, e656, hx656_0, hx656_1, hx656_2⟩ := at_T85 HR0.out x4_1 p656 q656
                  cases e656
                  replace p656 := eq_true p656
                  replace q656 := eq_true q656
                  go_wp2_with (first | ((with_reducible refine gate_callee (f := 24) rfl ?_); refine gl (some 22) Try.func24 #[.int .i64 ((rd_T85 l0 x4_1).f0), .int .i64 0, .int .i64 2000] ?_; (with_reducible refine (Bs_Within.calls ((rd_T85 l0 x4_1).f0) 0 2000 true _ A6.out).mono ?_); rintro e w' ⟨rfl, ⟨nd, rfl⟩⟩; refine ⟨_, rfl, ?_⟩; have p658 : 0 ≤ (x4_1 : Int) := od; have q658 : x4_1 < (l0.length : Int) := od; obtain ⟨ad658, e658, hx658_0, hx658_1, hx658_2⟩ := at_T85 HR0.out x4_1 p658 q658; obtain rfl : ad656 = ad658 := (by injection e658); replace p658 := eq_true p658; replace q658 := eq_true q658) | (go_at_call 24; (with_reducible refine (Bs_Within.calls ((rd_T85 l0 x4_1).f1) 0 2000 false _ A8.out).mono ?_); rintro e w' ⟨rfl, ⟨nd, rfl⟩⟩))
                  go_ret2
                  exact ⟨by first | rfl | (simp; done) | (simp [*]; done), by repeat (first | exact Drawn0.refl _ | apply Drawn0.step)⟩
              · replace c7 := Bool.eq_false_iff.mpr c7
                subst c7
                rw [if_neg (show ¬ (false = true) by decide)] at H
                simp only [Option.some.injEq, Prod.mk.injEq] at H
                obtain ⟨rfl, rfl⟩ := H
                have p656 : 0 ≤ (x4_1 : Int) := od
                have q656 : x4_1 < (l0.length : Int) := od
                obtain ⟨ad656, e656, hx656_0, hx656_1, hx656_2⟩ := at_T85 HR0.out x4_1 p656 q656
                cases e656
                replace p656 := eq_true p656
                replace q656 := eq_true q656
                go_wp2_with (first | ((with_reducible refine gate_callee (f := 24) rfl ?_); refine gl (some 22) Try.func24 #[.int .i64 ((rd_T85 l0 x4_1).f0), .int .i64 0, .int .i64 2000] ?_; (with_reducible refine (Bs_Within.calls ((rd_T85 l0 x4_1).f0) 0 2000 false _ A6.out).mono ?_); rintro e w' ⟨rfl, ⟨nd, rfl⟩⟩; refine ⟨_, rfl, ?_⟩))
                go_ret2
                exact ⟨by first | rfl | (simp; done) | (simp [*]; done), by repeat (first | exact Drawn0.refl _ | apply Drawn0.step)⟩
            · rw [if_neg c5] at H
              exact absurd H (by simp)
          · rw [if_neg c4] at H
            have c4b0 := decide_eq_false c4
            clear c4
            simp only [Option.some.injEq, Prod.mk.injEq] at H
            obtain ⟨rfl, rfl⟩ := H
            go_wp2
            go_ret2
            exact ⟨by first | rfl | (simp; done) | (simp [*]; done), by repeat (first | exact Drawn0.refl _ | apply Drawn0.step)⟩
end
section
def Rf_ReadingsErr.f (k : Nat) (l0 : List (S85)) : Option (Int) := (Rf_CheckReadings.f k l0).bind fun bt662 => (some bt662.2)
theorem Rf_ReadingsErr.mono : ∀ a0 k, LeO (Rf_ReadingsErr.f k a0) (Rf_ReadingsErr.f (k + 1) a0) := by
 intro a0 k
 unfold Rf_ReadingsErr.f
 repeat' with_reducible first
  | exact Rf_CheckReadings.mono ..
  | exact LeO.refl ..
  | exact LeO.none ..
  | refine LeO.ite ?_ ?_
  | refine LeO.bind ?_ (fun _ => ?_)
theorem Rf_ReadingsErr.calls (k : Nat) (A0 : Option Addr) (c0 : Nat) (l0 : List (S85)) (r : Int) (w : World) (hr0 : Kd.C k85 w A0 l0.length l0) (hc0 : l0.length ≤ c0) (h : Rf_ReadingsErr.f k l0 = some r) :
  Calls Try.prog 41 #[.slice A0 l0.length c0] w fun e w' => e = .returned (.int .i64 r) ∧ Drawn0 w w' := by
 have HR0 := m0 hr0
 have HC0 := m0 hc0
 clear hr0 hc0
 have H : ((Rf_CheckReadings.f k l0).bind fun bt662 => (some bt662.2)) = some r := h
 clear h
 replace H := ob H
 obtain ⟨⟨t662, t663⟩, A2, H⟩ := H
 (try dsimp only at H)
 replace A2 := m0 A2
 obtain rfl := Option.some.inj H
 go_enter Try.func41, Try.ntmps41
 go_wp2_with (first | ((with_reducible refine gate_callee (f := 58) rfl ?_); refine gl (some 7) Try.func58 #[.slice A0 l0.length c0] ?_; (with_reducible refine (Rf_CheckReadings.calls k _ _ l0 t662 t663 _ ?side1 ?side2 A2.out).mono ?_); (case side1 => repeat (first | exact HR0.out | (with_reducible refine Kd.C_alloc ?_ _) | (with_reducible refine Kd.C_drewN ?_ _) | (with_reducible refine Kd.C_drew ?_))); (case side2 => exact HC0.out); rintro e w' ⟨rfl, ⟨nd, rfl⟩⟩; refine ⟨_, rfl, ?_⟩))
 go_ret
 exact ⟨by first | rfl | (simp; done) | (simp [*]; done), by repeat (first | exact Drawn0.refl _ | apply Drawn0.step)⟩
end
section
def L_OffsetIn.f (k : Nat) (l0 : List (S85)) : Option (Int × Int × Int) := (L_readingsErr.f k l0).bind fun t1294 => (if t1294 = 0 then ((L_common.f k l0).bind fun bt1295 => (if bt1295.2.2 = true then (some (bt1295.1, bt1295.2.1, 0)) else (some (0, 0, 12)))) else (some (0, 0, t1294)))
theorem L_OffsetIn.mono : ∀ a0 k, LeO (L_OffsetIn.f k a0) (L_OffsetIn.f (k + 1) a0) := by
 intro a0 k
 unfold L_OffsetIn.f
 repeat' with_reducible first
  | exact L_common.mono ..
  | exact L_readingsErr.mono ..
  | exact LeO.refl ..
  | exact LeO.none ..
  | refine LeO.ite ?_ ?_
  | refine LeO.bind ?_ (fun _ => ?_)
theorem L_OffsetIn.calls (k : Nat) (A0 : Option Addr) (c0 : Nat) (l0 : List (S85)) (r1 : Int) (r2 : Int) (r3 : Int) (w : World) (hr0 : Kd.C k85 w A0 l0.length l0) (hc0 : l0.length ≤ c0) (h : L_OffsetIn.f k l0 = some (r1, r2, r3)) :
  Calls Try.prog 55 #[.slice A0 l0.length c0] w fun e w' => e = .returned (.tuple #[.agg #[.int .i64 r1, .int .i64 r2], .int .i64 r3]) ∧ Below w.heap.size w w' := by
 have hu58 := Try.underlying58
 have HR0 := m0 hr0
 have HC0 := m0 hc0
 clear hr0 hc0
 have HB := m0 (Below.refl w.heap.size w)
 have H : ((L_readingsErr.f k l0).bind fun t1294 => (if t1294 = 0 then ((L_common.f k l0).bind fun bt1295 => (if bt1295.2.2 = true then (some (bt1295.1, bt1295.2.1, 0)) else (some (0, 0, 12)))) else (some (0, 0, t1294)))) = some (r1, r2, r3) := h
 clear h
 replace H := ob H
 obtain ⟨t1294, A2, H⟩ := H
 (try dsimp only at H)
 replace A2 := m0 A2
 by_cases c3 : t1294 = 0
 ·rw [if_pos c3] at H
  have c3b0 := beq_iff_eq.mpr c3
  have c3b1 := bne_eq_false_iff_eq.mpr c3
  clear c3
  replace H := ob H
  obtain ⟨⟨t1295, t1296, t1297⟩, A4, H⟩ := H
  (try dsimp only at H)
  replace A4 := m0 A4
  by_cases c5 : t1297 = true
  ·subst c5
   rw [if_pos rfl] at H
   simp only [Option.some.injEq, Prod.mk.injEq] at H
   obtain ⟨rfl, rfl, rfl⟩ := H
   go_enter Try.func55, Try.ntmps55
   go_wp2_with (first | ((with_reducible refine gate_dst (N := 2) rfl ?_); refine be 2 58 #[.int .i64 0, .int .i64 0] ?_; intro gb1293 hg w6 hbox hb; have BK1293 := m0 hbox; have GE1293 := gw w hg; replace HB := sb HB hb; clear hb hbox hg) | ((with_reducible refine gate_callee (f := 112) rfl ?_); refine gl (some 8) Try.func112 #[.slice A0 l0.length c0] ?_; (with_reducible refine (L_readingsErr.calls k _ _ l0 t1294 _ ?side1 ?side2 A2.out).mono ?_); (case side1 => exact cb HR0 HB); (case side2 => exact HC0.out); rintro e w7 ⟨rfl, hb⟩; refine ⟨_, rfl, ?_⟩; replace BK1293 := bb BK1293 hb; replace HB := sb HB hb; (try clear hb)) | ((with_reducible refine gate_callee (f := 113) rfl ?_); refine gl (some 15) Try.func113 #[.slice A0 l0.length c0] ?_; (with_reducible refine (L_common.calls k _ _ l0 t1295 t1296 true _ ?side1 ?side2 A4.out).mono ?_); (case side1 => exact cb HR0 HB); (case side2 => exact HC0.out); rintro e w8 ⟨rfl, hb⟩; refine ⟨_, rfl, ?_⟩; replace BK1293 := bb BK1293 hb; replace HB := sb HB hb; (try clear hb)) | ((with_reducible refine gate_dst (N := 5) rfl ?_); refine be 5 58 #[.int .i64 0, .int .i64 0] ?_; intro gb1298 hg w9 hbox hb; have BK1298 := m0 hbox; have GE1298 := gw w hg; replace HB := sb HB hb; have NB1293_1298 := nl BK1293 hg; have NB1298_1293 := ng (nl BK1293 hg); replace BK1293 := bb BK1293 hb; clear hb hbox hg; have hnb10 := NB1298_1293.out; have hnc10 := NB1293_1298.out; obtain ⟨_, _, _, _⟩ := b2 BK1298; obtain ⟨_, _, _, _⟩ := b2 BK1293))
   refine bodyPost_ret (results_ct rfl _ _ gb1293 58 #[.int .i64 t1295, .int .i64 t1296] (0, 0) _ rfl (by (with_reducible repeat (first | refine blk_drewN ?_ _ | refine blk_drew ?_ | refine blk_alloc ?_ _)); refine blk_put (cs := #[.int .i64 t1295, .int .i64 0]) ?_ 1 _ rfl; (with_reducible repeat (first | refine blk_drewN ?_ _ | refine blk_drew ?_ | refine blk_alloc ?_ _)); refine blk_put (cs := #[.int .i64 0, .int .i64 0]) ?_ 0 _ rfl; (with_reducible repeat (first | refine blk_drewN ?_ _ | refine blk_drew ?_ | refine blk_alloc ?_ _)); refine blk_far ?_ NB1293_1298.out _; (with_reducible repeat (first | refine blk_drewN ?_ _ | refine blk_drew ?_ | refine blk_alloc ?_ _)); refine blk_far ?_ NB1293_1298.out _; (with_reducible repeat (first | refine blk_drewN ?_ _ | refine blk_drew ?_ | refine blk_alloc ?_ _)); exact BK1293.out) Try.underlying58 rfl (by kernel_rfl)) rfl ?_
   exact ez
  ·replace c5 := Bool.eq_false_iff.mpr c5
   subst c5
   rw [if_neg (show ¬ (false = true) by decide)] at H
   simp only [Option.some.injEq, Prod.mk.injEq] at H
   obtain ⟨rfl, rfl, rfl⟩ := H
   go_enter Try.func55, Try.ntmps55
   go_wp2_with (first | ((with_reducible refine gate_dst (N := 2) rfl ?_); refine be 2 58 #[.int .i64 0, .int .i64 0] ?_; intro gb1293 hg w13 hbox hb; have BK1293 := m0 hbox; have GE1293 := gw w hg; replace HB := sb HB hb; clear hb hbox hg) | ((with_reducible refine gate_callee (f := 112) rfl ?_); refine gl (some 8) Try.func112 #[.slice A0 l0.length c0] ?_; (with_reducible refine (L_readingsErr.calls k _ _ l0 t1294 _ ?side1 ?side2 A2.out).mono ?_); (case side1 => exact cb HR0 HB); (case side2 => exact HC0.out); rintro e w14 ⟨rfl, hb⟩; refine ⟨_, rfl, ?_⟩; replace BK1293 := bb BK1293 hb; replace HB := sb HB hb; (try clear hb)) | ((with_reducible refine gate_callee (f := 113) rfl ?_); refine gl (some 15) Try.func113 #[.slice A0 l0.length c0] ?_; (with_reducible refine (L_common.calls k _ _ l0 t1295 t1296 false _ ?side1 ?side2 A4.out).mono ?_); (case side1 => exact cb HR0 HB); (case side2 => exact HC0.out); rintro e w15 ⟨rfl, hb⟩; refine ⟨_, rfl, ?_⟩; replace BK1293 := bb BK1293 hb; replace HB := sb HB hb; (try clear hb)) | ((with_reducible refine gate_dst (N := 5) rfl ?_); refine be 5 58 #[.int .i64 0, .int .i64 0] ?_; intro gb1298 hg w16 hbox hb; have BK1298 := m0 hbox; have GE1298 := gw w hg; replace HB := sb HB hb; have NB1293_1298 := nl BK1293 hg; have NB1298_1293 := ng (nl BK1293 hg); replace BK1293 := bb BK1293 hb; clear hb hbox hg; have hnb17 := NB1298_1293.out; have hnc17 := NB1293_1298.out; obtain ⟨_, _, _, _⟩ := b2 BK1298; obtain ⟨_, _, _, _⟩ := b2 BK1293))
   refine bodyPost_ret (results_ct rfl _ _ gb1293 58 #[.int .i64 0, .int .i64 0] (0, 0) _ rfl (by (with_reducible repeat (first | refine blk_drewN ?_ _ | refine blk_drew ?_ | refine blk_alloc ?_ _)); refine blk_put (cs := #[.int .i64 0, .int .i64 0]) ?_ 1 _ rfl; (with_reducible repeat (first | refine blk_drewN ?_ _ | refine blk_drew ?_ | refine blk_alloc ?_ _)); refine blk_put (cs := #[.int .i64 0, .int .i64 0]) ?_ 0 _ rfl; (with_reducible repeat (first | refine blk_drewN ?_ _ | refine blk_drew ?_ | refine blk_alloc ?_ _)); refine blk_far ?_ NB1293_1298.out _; (with_reducible repeat (first | refine blk_drewN ?_ _ | refine blk_drew ?_ | refine blk_alloc ?_ _)); refine blk_far ?_ NB1293_1298.out _; (with_reducible repeat (first | refine blk_drewN ?_ _ | refine blk_drew ?_ | refine blk_alloc ?_ _)); exact BK1293.out) Try.underlying58 rfl (by kernel_rfl)) rfl ?_
   exact ez
 ·rw [if_neg c3] at H
  have c3b0 := beq_eq_false_iff_ne.mpr c3
  have c3b1 := bne_iff_ne.mpr c3
  simp only [Option.some.injEq, Prod.mk.injEq] at H
  obtain ⟨rfl, rfl, rfl⟩ := H
  go_enter Try.func55, Try.ntmps55
  go_wp2_with (first | ((with_reducible refine gate_dst (N := 2) rfl ?_); refine be 2 58 #[.int .i64 0, .int .i64 0] ?_; intro gb1293 hg w20 hbox hb; have BK1293 := m0 hbox; have GE1293 := gw w hg; replace HB := sb HB hb; clear hb hbox hg) | ((with_reducible refine gate_callee (f := 112) rfl ?_); refine gl (some 8) Try.func112 #[.slice A0 l0.length c0] ?_; (with_reducible refine (L_readingsErr.calls k _ _ l0 t1294 _ ?side1 ?side2 A2.out).mono ?_); (case side1 => exact cb HR0 HB); (case side2 => exact HC0.out); rintro e w21 ⟨rfl, hb⟩; refine ⟨_, rfl, ?_⟩; replace BK1293 := bb BK1293 hb; replace HB := sb HB hb; (try clear hb); obtain ⟨_, _, _, _⟩ := b2 BK1293))
  refine bodyPost_ret (results_ct rfl _ _ gb1293 58 #[.int .i64 0, .int .i64 0] (0, 0) _ rfl (bq BK1293.out) Try.underlying58 rfl (by kernel_rfl)) rfl ?_
  exact ez
end
section
def cmp_Or_int.l0 : Nat → Int → List Int → Int → Int → Option (Int)
 | 0, _, _, _, _ => none
 | k + 1, x3, x6, x7, x8 => if x8 < x7 then (if 0 ≤ x8 then (if x8 < (x6.length : Int) then (if (rd x6 x8) = x3 then (cmp_Or_int.l0 k x3 x6 x7 (wrap64 (x8 + 1))) else (some (rd x6 x8))) else (none)) else (none)) else (some x3)
def cmp_Or_int.f (k : Nat) (l0 : List Int) : Option (Int) := cmp_Or_int.l0 k 0 l0 (l0.length : Int) 0
theorem cmp_Or_int.mono_l : ∀ k, (∀ y0 y1 y2 y3, LeO (cmp_Or_int.l0 k y0 y1 y2 y3) (cmp_Or_int.l0 (k + 1) y0 y1 y2 y3))
 | 0 => fun _ _ _ _ r h => by simp [cmp_Or_int.l0] at h
 | k + 1 => by
  have ih0 := cmp_Or_int.mono_l k
  ·intro y0 y1 y2 y3
   unfold cmp_Or_int.l0
   repeat' with_reducible first
    | exact ih0 ..
    | exact LeO.refl ..
    | exact LeO.none ..
    | refine LeO.ite ?_ ?_
    | refine LeO.bind ?_ (fun _ => ?_)
theorem cmp_Or_int.mono : ∀ a0 k, LeO (cmp_Or_int.f k a0) (cmp_Or_int.f (k + 1) a0) := by
 intro a0 k
 have ih0 := cmp_Or_int.mono_l k
 unfold cmp_Or_int.f
 repeat' with_reducible first
  | exact ih0 ..
  | exact LeO.refl ..
  | exact LeO.none ..
  | refine LeO.ite ?_ ?_
  | refine LeO.bind ?_ (fun _ => ?_)
theorem cmp_Or_int.calls (k : Nat) (A0 : Option Addr) (c0 : Nat) (l0 : List Int) (r : Int) (w : World) (hr0 : Kd.C (Kd.int .i64) w A0 l0.length l0) (hc0 : l0.length ≤ c0) (h : cmp_Or_int.f k l0 = some r) :
  Calls Try.prog 116 #[.slice A0 l0.length c0] w fun e w' => e = .returned (.int .i64 r) ∧ Drawn0 w w' := by
 have HR0 := m0 hr0
 have HC0 := m0 hc0
 clear hr0 hc0
 have H : (cmp_Or_int.l0 k 0 l0 (l0.length : Int) 0) = some r := h
 clear h
 have H' := m0 H
 clear H
 go_enter Try.func116, Try.ntmps116
 go_wp2
 go_loopg [8] k (fun kq v8 w' => ∃ (x8_1 : Int), v8 = .int .i64 x8_1 ∧ Aside0 (cmp_Or_int.l0 kq 0 l0 (l0.length : Int) x8_1 = some r) ∧ Aside0 (kq ≤ k) ∧ Drawn0 w w')
 case atStart => exact ⟨(0), (by first | rfl | (simp; done) | (simp [*]; done)), H', ⟨Nat.le_refl _⟩, by repeat (first | exact Drawn0.refl _ | apply Drawn0.step)⟩
 case round =>
  clear H'
  obtain ⟨x8_1, rfl, HA, HK1, ⟨m1, rfl⟩⟩ := hrel
  cases gk with
  | zero => exact absurd HA.out (by simp [cmp_Or_int.l0])
  | succ k1 =>
   have H := HA.out
   clear HA
   simp only [cmp_Or_int.l0] at H
   by_cases c2 : x8_1 < (l0.length : Int)
   ·rw [if_pos c2] at H
    have c2b0 := decide_eq_true c2
    clear c2
    by_cases c3 : 0 ≤ x8_1
    ·rw [if_pos c3] at H
     have c3b0 := decide_eq_true c3
     clear c3
     by_cases c4 : x8_1 < (l0.length : Int)
     ·rw [if_pos c4] at H
      have c4b0 := decide_eq_true c4
      clear c4
      by_cases c5 : (rd l0 x8_1) = 0
      ·rw [if_pos c5] at H
       have c5b0 := beq_iff_eq.mpr c5
       have c5b1 := bne_eq_false_iff_eq.mpr c5
       clear c5
       have H' := m0 H
       clear H
       have p1299 : 0 ≤ (x8_1 : Int) := od
       have q1299 : x8_1 < (l0.length : Int) := od
       obtain ⟨ad1299, e1299, hx1299_0⟩ := Kd.at_int HR0.out x8_1 p1299 q1299
       cases e1299
       replace p1299 := eq_true p1299
       replace q1299 := eq_true q1299
       go_wp2
       go_roundg k1
       case measure => have := HK1.out; omega
       case rel => exact ⟨(wrap64 (x8_1 + 1)), (by first | rfl | (simp; done) | (simp [*]; done)), H', ⟨by have := HK1.out; omega⟩, by repeat (first | exact Drawn0.refl _ | apply Drawn0.step)⟩
      ·rw [if_neg c5] at H
       have c5b0 := beq_eq_false_iff_ne.mpr c5
       have c5b1 := bne_iff_ne.mpr c5
       obtain rfl := Option.some.inj H
       have p1299 : 0 ≤ (x8_1 : Int) := od
       have q1299 : x8_1 < (l0.length : Int) := od
       obtain ⟨ad1299, e1299, hx1299_0⟩ := Kd.at_int HR0.out x8_1 p1299 q1299
       cases e1299
       replace p1299 := eq_true p1299
       replace q1299 := eq_true q1299
       go_wp2
       go_ret
       exact ⟨by first | rfl | (simp; done) | (simp [*]; done), by repeat (first | exact Drawn0.refl _ | apply Drawn0.step)⟩
     ·rw [if_neg c4] at H
      exact absurd H (by simp)
    ·rw [if_neg c3] at H
     exact absurd H (by simp)
   ·rw [if_neg c2] at H
    have c2b0 := decide_eq_false c2
    clear c2
    obtain rfl := Option.some.inj H
    go_wp2
    go_ret
    exact ⟨by first | rfl | (simp; done) | (simp [*]; done), by repeat (first | exact Drawn0.refl _ | apply Drawn0.step)⟩
end
section
def cmp_isNaN_int.f (a0 : Int) : Option (Bool) := some (a0 != a0)
theorem cmp_isNaN_int.calls (a0 : Int) (r : Bool) (w : World) (h : cmp_isNaN_int.f a0 = some r) :
  Calls Try.prog 144 #[.int .i64 a0] w fun e w' => e = .returned (.bool r) ∧ Drawn0 w w' := by
 have H : (some (a0 != a0)) = some r := h
 clear h
 obtain rfl := Option.some.inj H
 go_enter Try.func144, Try.ntmps144
 go_wp2
 go_ret
 exact ⟨by first | rfl | (simp; done) | (simp [*]; done), by repeat (first | exact Drawn0.refl _ | apply Drawn0.step)⟩
end
section
def cmp_Compare_int.f (a0 : Int) (a1 : Int) : Option (Int) := (cmp_isNaN_int.f a0).bind fun t1300 => ((cmp_isNaN_int.f a1).bind fun t1301 => (if t1300 = true then (if t1301 = true then (some 0) else (some (-1))) else (if t1301 = true then (some 1) else (if a0 < a1 then (some (-1)) else (if a0 > a1 then (some 1) else (some 0))))))
theorem cmp_Compare_int.calls (a0 : Int) (a1 : Int) (r : Int) (w : World) (h : cmp_Compare_int.f a0 a1 = some r) :
  Calls Try.prog 117 #[.int .i64 a0, .int .i64 a1] w fun e w' => e = .returned (.int .i64 r) ∧ Drawn0 w w' := by
 have H : ((cmp_isNaN_int.f a0).bind fun t1300 => ((cmp_isNaN_int.f a1).bind fun t1301 => (if t1300 = true then (if t1301 = true then (some 0) else (some (-1))) else (if t1301 = true then (some 1) else (if a0 < a1 then (some (-1)) else (if a0 > a1 then (some 1) else (some 0))))))) = some r := h
 clear h
 replace H := ob H
 obtain ⟨t1300, A3, H⟩ := H
 (try dsimp only at H)
 replace A3 := m0 A3
 replace H := ob H
 obtain ⟨t1301, A4, H⟩ := H
 (try dsimp only at H)
 replace A4 := m0 A4
 by_cases c5 : t1300 = true
 ·subst c5
  rw [if_pos rfl] at H
  by_cases c6 : t1301 = true
  ·subst c6
   rw [if_pos rfl] at H
   obtain rfl := Option.some.inj H
   go_enter Try.func117, Try.ntmps117
   go_wp2_with (first | ((with_reducible refine gate_callee (f := 144) rfl ?_); refine gl (some 8) Try.func144 #[.int .i64 a0] ?_; (with_reducible refine (cmp_isNaN_int.calls a0 true _ A3.out).mono ?_); rintro e w' ⟨rfl, ⟨nd, rfl⟩⟩; refine ⟨_, rfl, ?_⟩) | ((with_reducible refine gate_callee (f := 144) rfl ?_); refine gl (some 10) Try.func144 #[.int .i64 a1] ?_; (with_reducible refine (cmp_isNaN_int.calls a1 true _ A4.out).mono ?_); rintro e w' ⟨rfl, ⟨nd, rfl⟩⟩; refine ⟨_, rfl, ?_⟩))
   go_ret
   exact ⟨by first | rfl | (simp; done) | (simp [*]; done), by repeat (first | exact Drawn0.refl _ | apply Drawn0.step)⟩
  ·replace c6 := Bool.eq_false_iff.mpr c6
   subst c6
   rw [if_neg (show ¬ (false = true) by decide)] at H
   obtain rfl := Option.some.inj H
   go_enter Try.func117, Try.ntmps117
   go_wp2_with (first | ((with_reducible refine gate_callee (f := 144) rfl ?_); refine gl (some 8) Try.func144 #[.int .i64 a0] ?_; (with_reducible refine (cmp_isNaN_int.calls a0 true _ A3.out).mono ?_); rintro e w' ⟨rfl, ⟨nd, rfl⟩⟩; refine ⟨_, rfl, ?_⟩) | ((with_reducible refine gate_callee (f := 144) rfl ?_); refine gl (some 10) Try.func144 #[.int .i64 a1] ?_; (with_reducible refine (cmp_isNaN_int.calls a1 false _ A4.out).mono ?_); rintro e w' ⟨rfl, ⟨nd, rfl⟩⟩; refine ⟨_, rfl, ?_⟩))
   go_ret
   exact ⟨by first | rfl | (simp; done) | (simp [*]; done), by repeat (first | exact Drawn0.refl _ | apply Drawn0.step)⟩
 ·replace c5 := Bool.eq_false_iff.mpr c5
  subst c5
  rw [if_neg (show ¬ (false = true) by decide)] at H
  by_cases c7 : t1301 = true
  ·subst c7
   rw [if_pos rfl] at H
   obtain rfl := Option.some.inj H
   go_enter Try.func117, Try.ntmps117
   go_wp2_with (first | ((with_reducible refine gate_callee (f := 144) rfl ?_); refine gl (some 8) Try.func144 #[.int .i64 a0] ?_; (with_reducible refine (cmp_isNaN_int.calls a0 false _ A3.out).mono ?_); rintro e w' ⟨rfl, ⟨nd, rfl⟩⟩; refine ⟨_, rfl, ?_⟩) | ((with_reducible refine gate_callee (f := 144) rfl ?_); refine gl (some 10) Try.func144 #[.int .i64 a1] ?_; (with_reducible refine (cmp_isNaN_int.calls a1 true _ A4.out).mono ?_); rintro e w' ⟨rfl, ⟨nd, rfl⟩⟩; refine ⟨_, rfl, ?_⟩))
   go_ret
   exact ⟨by first | rfl | (simp; done) | (simp [*]; done), by repeat (first | exact Drawn0.refl _ | apply Drawn0.step)⟩
  ·replace c7 := Bool.eq_false_iff.mpr c7
   subst c7
   rw [if_neg (show ¬ (false = true) by decide)] at H
   by_cases c8 : a0 < a1
   ·rw [if_pos c8] at H
    have c8b0 := decide_eq_true c8
    clear c8
    obtain rfl := Option.some.inj H
    go_enter Try.func117, Try.ntmps117
    go_wp2_with (first | ((with_reducible refine gate_callee (f := 144) rfl ?_); refine gl (some 8) Try.func144 #[.int .i64 a0] ?_; (with_reducible refine (cmp_isNaN_int.calls a0 false _ A3.out).mono ?_); rintro e w' ⟨rfl, ⟨nd, rfl⟩⟩; refine ⟨_, rfl, ?_⟩) | ((with_reducible refine gate_callee (f := 144) rfl ?_); refine gl (some 10) Try.func144 #[.int .i64 a1] ?_; (with_reducible refine (cmp_isNaN_int.calls a1 false _ A4.out).mono ?_); rintro e w' ⟨rfl, ⟨nd, rfl⟩⟩; refine ⟨_, rfl, ?_⟩))
    go_ret
    exact ⟨by first | rfl | (simp; done) | (simp [*]; done), by repeat (first | exact Drawn0.refl _ | apply Drawn0.step)⟩
   ·rw [if_neg c8] at H
    have c8b0 := decide_eq_false c8
    clear c8
    by_cases c9 : a0 > a1
    ·rw [if_pos c9] at H
     have c9b0 := decide_eq_true c9
     clear c9
     obtain rfl := Option.some.inj H
     go_enter Try.func117, Try.ntmps117
     go_wp2_with (first | ((with_reducible refine gate_callee (f := 144) rfl ?_); refine gl (some 8) Try.func144 #[.int .i64 a0] ?_; (with_reducible refine (cmp_isNaN_int.calls a0 false _ A3.out).mono ?_); rintro e w' ⟨rfl, ⟨nd, rfl⟩⟩; refine ⟨_, rfl, ?_⟩) | ((with_reducible refine gate_callee (f := 144) rfl ?_); refine gl (some 10) Try.func144 #[.int .i64 a1] ?_; (with_reducible refine (cmp_isNaN_int.calls a1 false _ A4.out).mono ?_); rintro e w' ⟨rfl, ⟨nd, rfl⟩⟩; refine ⟨_, rfl, ?_⟩))
     go_ret
     exact ⟨by first | rfl | (simp; done) | (simp [*]; done), by repeat (first | exact Drawn0.refl _ | apply Drawn0.step)⟩
    ·rw [if_neg c9] at H
     have c9b0 := decide_eq_false c9
     clear c9
     obtain rfl := Option.some.inj H
     go_enter Try.func117, Try.ntmps117
     go_wp2_with (first | ((with_reducible refine gate_callee (f := 144) rfl ?_); refine gl (some 8) Try.func144 #[.int .i64 a0] ?_; (with_reducible refine (cmp_isNaN_int.calls a0 false _ A3.out).mono ?_); rintro e w' ⟨rfl, ⟨nd, rfl⟩⟩; refine ⟨_, rfl, ?_⟩) | ((with_reducible refine gate_callee (f := 144) rfl ?_); refine gl (some 10) Try.func144 #[.int .i64 a1] ?_; (with_reducible refine (cmp_isNaN_int.calls a1 false _ A4.out).mono ?_); rintro e w' ⟨rfl, ⟨nd, rfl⟩⟩; refine ⟨_, rfl, ?_⟩))
     go_ret
     exact ⟨by first | rfl | (simp; done) | (simp [*]; done), by repeat (first | exact Drawn0.refl _ | apply Drawn0.step)⟩
end
section
def slices_Compare_int_int.l0 : Nat → List Int → List Int → List Int → Int → Int → Option (Int)
 | 0, _, _, _, _, _ => none
 | k + 1, x0, x1, x9, x10, x11 => if x11 < x10 then (if 0 ≤ x11 then (if x11 < (x9.length : Int) then (if x11 ≥ (x1.length : Int) then (some 1) else (if x11 < (x1.length : Int) then ((cmp_Compare_int.f (rd x9 x11) (rd x1 x11)).bind fun t1304 => (if t1304 = 0 then (slices_Compare_int_int.l0 k x0 x1 x9 x10 (wrap64 (x11 + 1))) else (some t1304))) else (none))) else (none)) else (none)) else (if (x0.length : Int) < (x1.length : Int) then (some (-1)) else (some 0))
def slices_Compare_int_int.f (k : Nat) (l0 : List Int) (l1 : List Int) : Option (Int) := slices_Compare_int_int.l0 k l0 l1 l0 (l0.length : Int) 0
theorem slices_Compare_int_int.mono_l : ∀ k, (∀ y0 y1 y2 y3 y4, LeO (slices_Compare_int_int.l0 k y0 y1 y2 y3 y4) (slices_Compare_int_int.l0 (k + 1) y0 y1 y2 y3 y4))
 | 0 => fun _ _ _ _ _ r h => by simp [slices_Compare_int_int.l0] at h
 | k + 1 => by
  have ih0 := slices_Compare_int_int.mono_l k
  ·intro y0 y1 y2 y3 y4
   unfold slices_Compare_int_int.l0
   repeat' with_reducible first
    | exact ih0 ..
    | exact LeO.refl ..
    | exact LeO.none ..
    | refine LeO.ite ?_ ?_
    | refine LeO.bind ?_ (fun _ => ?_)
theorem slices_Compare_int_int.mono : ∀ a0 a1 k, LeO (slices_Compare_int_int.f k a0 a1) (slices_Compare_int_int.f (k + 1) a0 a1) := by
 intro a0 a1 k
 have ih0 := slices_Compare_int_int.mono_l k
 unfold slices_Compare_int_int.f
 repeat' with_reducible first
  | exact ih0 ..
  | exact LeO.refl ..
  | exact LeO.none ..
  | refine LeO.ite ?_ ?_
  | refine LeO.bind ?_ (fun _ => ?_)
theorem slices_Compare_int_int.calls (k : Nat) (A0 : Option Addr) (c0 : Nat) (l0 : List Int) (A1 : Option Addr) (c1 : Nat) (l1 : List Int) (r : Int) (w : World) (hr0 : Kd.C (Kd.int .i64) w A0 l0.length l0) (hc0 : l0.length ≤ c0) (hr1 : Kd.C (Kd.int .i64) w A1 l1.length l1) (hc1 : l1.length ≤ c1) (h : slices_Compare_int_int.f k l0 l1 = some r) :
  Calls Try.prog 118 #[.slice A0 l0.length c0, .slice A1 l1.length c1] w fun e w' => e = .returned (.int .i64 r) ∧ Drawn0 w w' := by
 have HR0 := m0 hr0
 have HC0 := m0 hc0
 clear hr0 hc0
 have HR1 := m0 hr1
 have HC1 := m0 hc1
 clear hr1 hc1
 have H : (slices_Compare_int_int.l0 k l0 l1 l0 (l0.length : Int) 0) = some r := h
 clear h
 have H' := m0 H
 clear H
 go_enter Try.func118, Try.ntmps118
 go_wp2
 go_loopg [11] k (fun kq v11 w' => ∃ (x11_1 : Int), v11 = .int .i64 x11_1 ∧ Aside0 (slices_Compare_int_int.l0 kq l0 l1 l0 (l0.length : Int) x11_1 = some r) ∧ Aside0 (kq ≤ k) ∧ Drawn0 w w')
 case atStart => exact ⟨(0), (by first | rfl | (simp; done) | (simp [*]; done)), H', ⟨Nat.le_refl _⟩, by repeat (first | exact Drawn0.refl _ | apply Drawn0.step)⟩
 case round =>
  clear H'
  obtain ⟨x11_1, rfl, HA, HK1, ⟨m1, rfl⟩⟩ := hrel
  cases gk with
  | zero => exact absurd HA.out (by simp [slices_Compare_int_int.l0])
  | succ k1 =>
   have H := HA.out
   clear HA
   simp only [slices_Compare_int_int.l0] at H
   by_cases c3 : x11_1 < (l0.length : Int)
   ·rw [if_pos c3] at H
    have c3b0 := decide_eq_true c3
    clear c3
    by_cases c4 : 0 ≤ x11_1
    ·rw [if_pos c4] at H
     have c4b0 := decide_eq_true c4
     clear c4
     by_cases c5 : x11_1 < (l0.length : Int)
     ·rw [if_pos c5] at H
      have c5b0 := decide_eq_true c5
      clear c5
      by_cases c6 : x11_1 ≥ (l1.length : Int)
      ·rw [if_pos c6] at H
       have c6b0 := decide_eq_true c6
       clear c6
       obtain rfl := Option.some.inj H
       have p1302 : 0 ≤ (x11_1 : Int) := od
       have q1302 : x11_1 < (l0.length : Int) := od
       obtain ⟨ad1302, e1302, hx1302_0⟩ := Kd.at_int HR0.out x11_1 p1302 q1302
       cases e1302
       replace p1302 := eq_true p1302
       replace q1302 := eq_true q1302
       go_wp2
       go_ret
       exact ⟨by first | rfl | (simp; done) | (simp [*]; done), by repeat (first | exact Drawn0.refl _ | apply Drawn0.step)⟩
      ·rw [if_neg c6] at H
       have c6b0 := decide_eq_false c6
       clear c6
       by_cases c7 : x11_1 < (l1.length : Int)
       ·rw [if_pos c7] at H
        have c7b0 := decide_eq_true c7
        clear c7
        replace H := ob H
        obtain ⟨t1304, A8, H⟩ := H
        (try dsimp only at H)
        replace A8 := m0 A8
        by_cases c9 : t1304 = 0
        ·rw [if_pos c9] at H
         have c9b0 := beq_iff_eq.mpr c9
         have c9b1 := bne_eq_false_iff_eq.mpr c9
         clear c9
         have H' := m0 H
         clear H
         have p1302 : 0 ≤ (x11_1 : Int) := od
         have q1302 : x11_1 < (l0.length : Int) := od
         obtain ⟨ad1302, e1302, hx1302_0⟩ := Kd.at_int HR0.out x11_1 p1302 q1302
         cases e1302
         replace p1302 := eq_true p1302
         replace q1302 := eq_true q1302
         have p1303 : 0 ≤ (x11_1 : Int) := od
         have q1303 : x11_1 < (l1.length : Int) := od
         obtain ⟨ad1303, e1303, hx1303_0⟩ := Kd.at_int HR1.out x11_1 p1303 q1303
         cases e1303
         replace p1303 := eq_true p1303
         replace q1303 := eq_true q1303
         go_wp2_with (first | ((with_reducible refine gate_callee (f := 117) rfl ?_); refine gl (some 26) Try.func117 #[.int .i64 (rd l0 x11_1), .int .i64 (rd l1 x11_1)] ?_; (with_reducible refine (cmp_Compare_int.calls (rd l0 x11_1) (rd l1 x11_1) t1304 _ A8.out).mono ?_); rintro e w' ⟨rfl, ⟨nd, rfl⟩⟩; refine ⟨_, rfl, ?_⟩))
         go_roundg k1
         case measure => have := HK1.out; omega
         case rel => exact ⟨(wrap64 (x11_1 + 1)), (by first | rfl | (simp; done) | (simp [*]; done)), H', ⟨by have := HK1.out; omega⟩, by repeat (first | exact Drawn0.refl _ | apply Drawn0.step)⟩
        ·rw [if_neg c9] at H
         have c9b0 := beq_eq_false_iff_ne.mpr c9
         have c9b1 := bne_iff_ne.mpr c9
         obtain rfl := Option.some.inj H
         have p1302 : 0 ≤ (x11_1 : Int) := od
         have q1302 : x11_1 < (l0.length : Int) := od
         obtain ⟨ad1302, e1302, hx1302_0⟩ := Kd.at_int HR0.out x11_1 p1302 q1302
         cases e1302
         replace p1302 := eq_true p1302
         replace q1302 := eq_true q1302
         have p1303 : 0 ≤ (x11_1 : Int) := od
         have q1303 : x11_1 < (l1.length : Int) := od
         obtain ⟨ad1303, e1303, hx1303_0⟩ := Kd.at_int HR1.out x11_1 p1303 q1303
         cases e1303
         replace p1303 := eq_true p1303
         replace q1303 := eq_true q1303
         go_wp2_with (first | ((with_reducible refine gate_callee (f := 117) rfl ?_); refine gl (some 26) Try.func117 #[.int .i64 (rd l0 x11_1), .int .i64 (rd l1 x11_1)] ?_; (with_reducible refine (cmp_Compare_int.calls (rd l0 x11_1) (rd l1 x11_1) t1304 _ A8.out).mono ?_); rintro e w' ⟨rfl, ⟨nd, rfl⟩⟩; refine ⟨_, rfl, ?_⟩))
         go_ret
         exact ⟨by first | rfl | (simp; done) | (simp [*]; done), by repeat (first | exact Drawn0.refl _ | apply Drawn0.step)⟩
       ·rw [if_neg c7] at H
        exact absurd H (by simp)
     ·rw [if_neg c5] at H
      exact absurd H (by simp)
    ·rw [if_neg c4] at H
     exact absurd H (by simp)
   ·rw [if_neg c3] at H
    have c3b0 := decide_eq_false c3
    clear c3
    by_cases c10 : (l0.length : Int) < (l1.length : Int)
    ·rw [if_pos c10] at H
     have c10b0 := decide_eq_true c10
     have c10b1 : decide (l0.length < l1.length) = true := decide_eq_true (Int.ofNat_lt.mp c10)
     clear c10
     obtain rfl := Option.some.inj H
     go_wp2
     go_ret
     exact ⟨by first | rfl | (simp; done) | (simp [*]; done), by repeat (first | exact Drawn0.refl _ | apply Drawn0.step)⟩
    ·rw [if_neg c10] at H
     have c10b0 := decide_eq_false c10
     have c10b1 : decide (l0.length < l1.length) = false := decide_eq_false (fun h => c10 (Int.ofNat_lt.mpr h))
     clear c10
     obtain rfl := Option.some.inj H
     go_wp2
     go_ret
     exact ⟨by first | rfl | (simp; done) | (simp [*]; done), by repeat (first | exact Drawn0.refl _ | apply Drawn0.step)⟩
end
section
mutual
def L_BadOf.l0 : Nat → List (S85) → List Int → Bool → Int → Int → Option (List Int × Int)
  | 0, _, _, _, _, _ => none
  | k + 1, x0, x5, x6, x23, x24 => if x24 < x23 then (L_BadOf.l1 k x0 x5 x6 x24 ([] : List Int) ([] : List (S85)) x23 x24 x0 (x0.length : Int) 0) else (some (x5, 0))
def L_BadOf.l1 : Nat → List (S85) → List Int → Bool → Int → List Int → List (S85) → Int → Int → List (S85) → Int → Int → Option (List Int × Int)
  | 0, _, _, _, _, _, _, _, _, _, _, _ => none
  | k + 1, x0, x5, x6, x7, x8, x9, x23, x24, x27, x28, x29 => if x29 < x28 then (if 0 ≤ x29 then (if x29 < (x27.length : Int) then (if (Go.bits .and .i64 (shr .i64 x7 x29) 1) = 1 then (if x8.length < 17592186044416 then (L_BadOf.l1 k x0 x5 x6 x7 (x8 ++ [x29]) x9 x23 x24 x27 x28 (wrap64 (x29 + 1))) else (none)) else (if x9.length < 5864062014805 then (L_BadOf.l1 k x0 x5 x6 x7 x8 (x9 ++ [(⟨(rd_T85 x27 x29).f0, (rd_T85 x27 x29).f1, (rd_T85 x27 x29).f2⟩ : S85)]) x23 x24 x27 x28 (wrap64 (x29 + 1))) else (none))) else (none)) else (none)) else (if x6 = true then ((cmp_Compare_int.f (x8.length : Int) (x5.length : Int)).bind fun t1314 => ((slices_Compare_int_int.f k x8 x5).bind fun t1315 => ((cmp_Or_int.f k (([t1314, t1315] : List Int))).bind fun t1319 => ((L_common.f k x9).bind fun bt1320 => (if bt1320.2.2 = true then (if t1319 < 0 then (L_BadOf.l0 k x0 x8 true x23 (wrap64 (x24 + 1))) else (L_BadOf.l0 k x0 x5 x6 x23 (wrap64 (x24 + 1)))) else (L_BadOf.l0 k x0 x5 x6 x23 (wrap64 (x24 + 1)))))))) else ((L_common.f k x9).bind fun bt1324 => (if bt1324.2.2 = true then (L_BadOf.l0 k x0 x8 true x23 (wrap64 (x24 + 1))) else (L_BadOf.l0 k x0 x5 x6 x23 (wrap64 (x24 + 1))))))
end
def L_BadOf.f (k : Nat) (l0 : List (S85)) : Option (List Int × Int) := (L_readingsErr.f k l0).bind fun t1305 => (if t1305 = 0 then (L_BadOf.l0 k l0 ([] : List Int) false (wrap64 ((shl .i64 1 (l0.length : Int)) - 1)) 0) else (some (([] : List Int), t1305)))
theorem L_BadOf.mono_l : ∀ k, (∀ y0 y1 y2 y3 y4, LeO (L_BadOf.l0 k y0 y1 y2 y3 y4) (L_BadOf.l0 (k + 1) y0 y1 y2 y3 y4)) ∧ (∀ y0 y1 y2 y3 y4 y5 y6 y7 y8 y9 y10, LeO (L_BadOf.l1 k y0 y1 y2 y3 y4 y5 y6 y7 y8 y9 y10) (L_BadOf.l1 (k + 1) y0 y1 y2 y3 y4 y5 y6 y7 y8 y9 y10))
  | 0 => ⟨fun _ _ _ _ _ r h => by simp [L_BadOf.l0] at h, fun _ _ _ _ _ _ _ _ _ _ _ r h => by simp [L_BadOf.l1] at h⟩
  | k + 1 => by
    obtain ⟨ih0, ih1⟩ := L_BadOf.mono_l k
    refine ⟨?_, ?_⟩
    · intro y0 y1 y2 y3 y4
      unfold L_BadOf.l0
      repeat' with_reducible first
        | exact ih0 ..
        | exact ih1 ..
        | exact cmp_Or_int.mono ..
        | exact slices_Compare_int_int.mono ..
        | exact L_common.mono ..
        | exact L_readingsErr.mono ..
        | exact LeO.refl ..
        | exact LeO.none ..
        | refine LeO.ite ?_ ?_
        | refine LeO.bind ?_ (fun _ => ?_)
    · intro y0 y1 y2 y3 y4 y5 y6 y7 y8 y9 y10
      unfold L_BadOf.l1
      repeat' with_reducible first
        | exact ih0 ..
        | exact ih1 ..
        | exact cmp_Or_int.mono ..
        | exact slices_Compare_int_int.mono ..
        | exact L_common.mono ..
        | exact L_readingsErr.mono ..
        | exact LeO.refl ..
        | exact LeO.none ..
        | refine LeO.ite ?_ ?_
        | refine LeO.bind ?_ (fun _ => ?_)
theorem L_BadOf.mono : ∀ a0 k, LeO (L_BadOf.f k a0) (L_BadOf.f (k + 1) a0) := by
  intro a0 k
  obtain ⟨ih0, ih1⟩ := L_BadOf.mono_l k
  unfold L_BadOf.f
  repeat' with_reducible first
    | exact ih0 ..
    | exact ih1 ..
    | exact cmp_Or_int.mono ..
    | exact slices_Compare_int_int.mono ..
    | exact L_common.mono ..
    | exact L_readingsErr.mono ..
    | exact LeO.refl ..
    | exact LeO.none ..
    | refine LeO.ite ?_ ?_
    | refine LeO.bind ?_ (fun _ => ?_)
theorem L_BadOf.calls (k : Nat) (A0 : Option Addr) (c0 : Nat) (l0 : List (S85)) (r1 : List Int) (r2 : Int) (w : World) (hr0 : Kd.C k85 w A0 l0.length l0) (hc0 : l0.length ≤ c0) (h : L_BadOf.f k l0 = some (r1, r2)) :
    Calls Try.prog 57 #[.slice A0 l0.length c0] w fun e w' => ∃ v0_ : Value, e = .returned (.tuple #[v0_, .int .i64 r2]) ∧ Kd.R (Kd.int .i64) 3 w' w.heap.size (fun _ => True) v0_ r1 ∧ Below w.heap.size w w' := by
  have hu85 := Try.underlying85
  have hu58 := Try.underlying58
  have HR0 := m0 hr0
  have HC0 := m0 hc0
  clear hr0 hc0
  have HB := m0 (Below.refl w.heap.size w)
  have H : ((L_readingsErr.f k l0).bind fun t1305 => (if t1305 = 0 then (L_BadOf.l0 k l0 ([] : List Int) false (wrap64 ((shl .i64 1 (l0.length : Int)) - 1)) 0) else (some (([] : List Int), t1305)))) = some (r1, r2) := h
  clear h
  replace H := ob H
  obtain ⟨t1305, A2, H⟩ := H
  (try dsimp only at H)
  replace A2 := m0 A2
  by_cases c3 : t1305 = 0
  · rw [if_pos c3] at H
    have c3b0 := beq_iff_eq.mpr c3
    have c3b1 := bne_eq_false_iff_eq.mpr c3
    clear c3
    obtain ⟨ji4, hji4⟩ : ∃ j_ : Int, (shl .i64 1 (l0.length : Int)) = j_ := ⟨_, rfl⟩
    replace H : (L_BadOf.l0 k l0 ([] : List Int) false (wrap64 ((ji4) - 1)) 0) = some (r1, r2) := by first | (rw [hji4] at H; exact H) | (simp only [hji4] at H ⊢; exact H)
    (try rw [hji4] at A2)
    have hji4_ : (IntKind.i64.wrap (1 * 2 ^ min (l0.length : Int).toNat 64)) = ji4 := hji4
    have hji4z : (l0.length : Int) ≤ 64 → (IntKind.i64.wrap (1 * 2 ^ (l0.length : Int).toNat)) = ji4 := shl_small hji4
    have hji4p : (IntKind.i64.wrap (1 * 2 ^ min l0.length 64)) = ji4 := hji4_
    have hji4q : (l0.length : Int) ≤ 64 → (IntKind.i64.wrap (1 * 2 ^ l0.length)) = ji4 := hji4z
    have hji4r : (IntKind.i64.wrap (2 ^ min l0.length 64)) = ji4 := by have h_ := hji4p; rw [Int.one_mul] at h_; exact h_
    have hji4s : (l0.length : Int) ≤ 64 → (IntKind.i64.wrap (2 ^ l0.length)) = ji4 := fun hle_ => by have h_ := hji4q hle_; rw [Int.one_mul] at h_; exact h_
    have hji4u : (IntKind.i64.wrap (2 ^ min (l0.length : Int).toNat 64)) = ji4 := by have h_ := hji4_; rw [Int.one_mul] at h_; exact h_
    have hji4v : (l0.length : Int) ≤ 64 → (IntKind.i64.wrap (2 ^ (l0.length : Int).toNat)) = ji4 := fun hle_ => by have h_ := hji4z hle_; rw [Int.one_mul] at h_; exact h_
    have hji4y : (wrap64 (1 * 2 ^ min (l0.length : Int).toNat 64)) = ji4 := (i64_w _).symm.trans hji4_
    have hji4x : (l0.length : Int) ≤ 64 → (wrap64 (1 * 2 ^ (l0.length : Int).toNat)) = ji4 := fun h_ => (i64_w _).symm.trans (hji4z h_)
    have H' := m0 H
    clear H
    go_enter Try.func57, Try.ntmps57
    go_wp2_with (first | ((with_reducible refine gate_callee (f := 112) rfl ?_); refine gl (some 16) Try.func112 #[.slice A0 l0.length c0] ?_; (with_reducible refine (L_readingsErr.calls k _ _ l0 t1305 _ ?side1 ?side2 A2.out).mono ?_); (case side1 => repeat (first | exact HR0.out | (with_reducible refine Kd.C_alloc ?_ _) | (with_reducible refine Kd.C_drewN ?_ _) | (with_reducible refine Kd.C_drew ?_))); (case side2 => exact HC0.out); rintro e w5 ⟨rfl, hb⟩; refine ⟨_, rfl, ?_⟩; replace HB := sb HB hb; (try clear hb)))
    go_loopg [5, 6, 24] k (fun kq v5 v6 v24 w' => ∃ (x5_1 : List Int) (x6_1 : Bool) (x24_1 : Int), v6 = .bool x6_1 ∧ v24 = .int .i64 x24_1 ∧ Aside0 (L_BadOf.l0 kq l0 x5_1 x6_1 (wrap64 ((ji4) - 1)) x24_1 = some (r1, r2)) ∧ Aside0 (kq ≤ k) ∧ Aside0 (Kd.R (Kd.int .i64) 3 w' w.heap.size (fun _ => True) v5 x5_1) ∧ Aside0 (Below w.heap.size w w'))
    case atStart => exact ⟨(([] : List Int)), (false), (0), (by first | rfl | (simp; done) | (simp [*]; done)), (by first | rfl | (simp; done) | (simp [*]; done)), H', ⟨Nat.le_refl _⟩, ⟨by first | exact Kd.R_nil _ _ _ _ _ | exact Kd.N_nil _ _ _ _ _ | exact Kd.V_nil _ _ _ _ _ | exact Kd.Q_nil _ _ _ _ _ | exact Kd.S_nil _ _ _ _ _⟩, ⟨bz⟩⟩
    case round =>
      clear H'
      obtain ⟨x5_1, x6_1, x24_1, rfl, rfl, HA, HK1, HO_5, HB⟩ := hrel
      cases gk with
      | zero => exact absurd HA.out (by simp [L_BadOf.l0])
      | succ k1 =>
        have H := HA.out
        clear HA
        simp only [L_BadOf.l0] at H
        by_cases c6 : x24_1 < (wrap64 ((ji4) - 1))
        · rw [if_pos c6] at H
          have c6b0 := decide_eq_true c6
          clear c6
          have H' := m0 H
          clear H
          go_wp2
          go_loopg [8, 9, 29] k1 (fun kq v8 v9 v29 w' => ∃ (x8_2 : List Int) (x9_2 : List (S85)) (x29_2 : Int), v29 = .int .i64 x29_2 ∧ Aside0 (L_BadOf.l1 kq l0 x5_1 x6_1 x24_1 x8_2 x9_2 (wrap64 ((ji4) - 1)) x24_1 l0 (l0.length : Int) x29_2 = some (r1, r2)) ∧ Aside0 (kq ≤ k1) ∧ Aside0 (Kd.R (Kd.int .i64) 3 w' w.heap.size (fun k_ => some k_ ≠ (v8 : Value).ownBlock) u5 x5_1) ∧ Aside0 (Kd.R (Kd.int .i64) 3 w' w.heap.size (fun k_ => some k_ ≠ (u5 : Value).ownBlock) v8 x8_2) ∧ Aside0 (Kd.R k85 85 w' w.heap.size (fun _ => True) v9 x9_2) ∧ Aside0 (Below w.heap.size w w'))
          case atStart => exact ⟨(([] : List Int)), (([] : List (S85))), (0), (by first | rfl | (simp; done) | (simp [*]; done)), H', ⟨Nat.le_refl _⟩, ⟨by (with_reducible repeat (first | apply Kd.R_alloc | apply Kd.R_drewN | apply Kd.R_drew)); exact Kd.R_mono HO_5.out (fun _ hk => (by simp [Value.ownBlock]))⟩, ⟨by first | exact Kd.R_nil _ _ _ _ _ | exact Kd.N_nil _ _ _ _ _ | exact Kd.V_nil _ _ _ _ _ | exact Kd.Q_nil _ _ _ _ _ | exact Kd.S_nil _ _ _ _ _⟩, ⟨by first | exact Kd.R_nil _ _ _ _ _ | exact Kd.N_nil _ _ _ _ _ | exact Kd.V_nil _ _ _ _ _ | exact Kd.Q_nil _ _ _ _ _ | exact Kd.S_nil _ _ _ _ _⟩, ⟨bz⟩⟩
          case round =>
            clear H'
            obtain ⟨x8_2, x9_2, x29_2, rfl, HA, HK2, HO_5, HO_8, HO_9, HB⟩ := hrel
            cases gk with
            | zero => exact absurd HA.out (by simp [L_BadOf.l1])
            | succ k2 =>
              have H := HA.out
              clear HA
              simp only [L_BadOf.l1] at H
              by_cases c7 : x29_2 < (l0.length : Int)
              · rw [if_pos c7] at H
                have c7b0 := decide_eq_true c7
                clear c7
                by_cases c8 : 0 ≤ x29_2
                · rw [if_pos c8] at H
                  have c8b0 := decide_eq_true c8
                  clear c8
                  by_cases c9 : x29_2 < (l0.length : Int)
                  · rw [if_pos c9] at H
                    have c9b0 := decide_eq_true c9
                    clear c9
                    have c10b0 := eq_true (od : 0 ≤ x29_2)
                    obtain ⟨ji11, hji11⟩ : ∃ j_ : Int, (shr .i64 x24_1 x29_2) = j_ := ⟨_, rfl⟩
                    replace H : (if (Go.bits .and .i64 (ji11) 1) = 1 then (if x8_2.length < 17592186044416 then (L_BadOf.l1 k2 l0 x5_1 x6_1 x24_1 (x8_2 ++ [x29_2]) x9_2 (wrap64 ((ji4) - 1)) x24_1 l0 (l0.length : Int) (wrap64 (x29_2 + 1))) else (none)) else (if x9_2.length < 5864062014805 then (L_BadOf.l1 k2 l0 x5_1 x6_1 x24_1 x8_2 (x9_2 ++ [(⟨(rd_T85 l0 x29_2).f0, (rd_T85 l0 x29_2).f1, (rd_T85 l0 x29_2).f2⟩ : S85)]) (wrap64 ((ji4) - 1)) x24_1 l0 (l0.length : Int) (wrap64 (x29_2 + 1))) else (none))) = some (r1, r2) := by first | (rw [hji11] at H; exact H) | (simp only [hji11] at H ⊢; exact H)
                    have hji11_ : (x24_1 / 2 ^ min x29_2.toNat 64) = ji11 := hji11
                    have hji11z : x29_2 ≤ 64 → (x24_1 / 2 ^ x29_2.toNat) = ji11 := shr_small hji11
                    by_cases c12 : (Go.bits .and .i64 (ji11) 1) = 1
                    · rw [if_pos c12] at H
                      have c12b0 := beq_iff_eq.mpr c12
                      have c12b1 := bne_eq_false_iff_eq.mpr c12
                      clear c12
                      by_cases c13 : x8_2.length < 17592186044416
                      · rw [if_pos c13] at H
                        have LMc13 := m0 c13
                        clear c13
                        obtain ⟨y1308, hy1308⟩ : ∃ y_ : List Int, y_ = (x8_2 ++ [x29_2]) := ⟨_, rfl⟩
                        replace H : (L_BadOf.l1 k2 l0 x5_1 x6_1 x24_1 y1308 x9_2 (wrap64 ((ji4) - 1)) x24_1 l0 (l0.length : Int) (wrap64 (x29_2 + 1))) = some (r1, r2) := by first | (rw [hy1308]; with_reducible exact H) | (have H2_ := (Option.bind_some _ _).symm.trans H; rw [hy1308]; with_reducible exact H2_) | (have H2_ := (Option.bind_some _ _).symm.trans H; with_reducible exact H2_) | with_reducible exact H | (rw [hy1308]; exact H) | exact H
                        have Ny1308 := m0 hy1308
                        clear hy1308
                        have H' := m0 H
                        clear H
                        have p1306 : 0 ≤ (x29_2 : Int) := od
                        have q1306 : x29_2 < (l0.length : Int) := od
                        obtain ⟨ad1306, e1306, hx1306_0, hx1306_1, hx1306_2⟩ := at_T85 HR0.out x29_2 p1306 q1306
                        cases e1306
                        replace hx1306_0 := (HB.out.cell (World.block_lt_of_cell? w _ hx1306_0)).trans hx1306_0
                        replace hx1306_1 := (HB.out.cell (World.block_lt_of_cell? w _ hx1306_1)).trans hx1306_1
                        replace hx1306_2 := (HB.out.cell (World.block_lt_of_cell? w _ hx1306_2)).trans hx1306_2
                        replace p1306 := eq_true p1306
                        replace q1306 := eq_true q1306
                        go_wp2_with (first | ((with_reducible refine gate_dst (N := 11) rfl ?_); (try (refine gate_guard (by rfl) ?_; dsimp only)); refine be 11 85 #[.int .i64 0, .int .i64 0, .int .i64 0] ?_; intro gb1307 hg w14 hbox hb; replace HO_5 := rb HO_5 hb; replace HO_8 := rb HO_8 hb; replace HO_9 := m0 (Kd.R_below (Kd.R_elderB (br HO_9.out) gb1307 (Nat.le_of_eq hg.symm)) hb); have BK1307 := m0 hbox; have GE1307 := gw w hg; replace HB := sb HB hb; clear hb hbox hg; obtain ⟨_, _, _, _, _, _⟩ := b3 BK1307) | ((with_reducible refine gate_builtin (b := .append) (xs := #[.tmp 39, .tmp 41]) rfl ?_); (try (refine gate_guard (by rfl) ?_; dsimp only)); at_builtin; refine Kd.R_append (Kd.int .i64) (w0 := w) w.heap.size rfl (.tmp 39) (.tmp 41) 28 3 (.int .i64 0) 8 rfl Try.underlying28 info3 rfl (by decide) (by omega) u8 x8_2 x29_2 [.int .i64 x29_2] (fun k_ => some k_ ≠ (u5 : Value).ownBlock) (fun _ => False) rfl (by first | (go_simp; done) | (go_simp; rfl)) ?aP (fun _ hk => hk.elim) ?aF ?aO ?aB ?aS ?aL ?_; (case aP => exact rfl); (case aB => exact bz); (case aF => exact (fun k_ hk => Kd.fresh' (Kd.R_lt (by (with_reducible repeat (first | apply Kd.R_alloc | apply Kd.R_drewN | apply Kd.R_drew)); exact (Kd.R_mono (Kd.R_far (p := ⟨gb1307, 2, none⟩) (Kd.R_far (p := ⟨gb1307, 1, none⟩) (Kd.R_far (p := ⟨gb1307, 0, none⟩) (Kd.R_types HO_5.out BK1307.out (by decide)) (fun _ hk => hk.2) (.int .i64 ((rd_T85 l0 x29_2).f0))) (fun _ hk => hk.2) (.int .i64 ((rd_T85 l0 x29_2).f1))) (fun _ hk => hk.2) (.int .i64 ((rd_T85 l0 x29_2).f2))) (fun _ h_ => h_.1)))) k_ hk)); (case aO => exact (by (with_reducible repeat (first | apply Kd.R_alloc | apply Kd.R_drewN | apply Kd.R_drew)); exact Kd.R_mono (Kd.R_far (p := ⟨gb1307, 2, none⟩) (Kd.R_far (p := ⟨gb1307, 1, none⟩) (Kd.R_far (p := ⟨gb1307, 0, none⟩) (Kd.R_types HO_8.out BK1307.out (by decide)) (fun _ hk => hk.2) (.int .i64 ((rd_T85 l0 x29_2).f0))) (fun _ hk => hk.2) (.int .i64 ((rd_T85 l0 x29_2).f1))) (fun _ hk => hk.2) (.int .i64 ((rd_T85 l0 x29_2).f2))) (fun _ hk => hk.1))); (case aS => exact (below_size bz)); (case aL => have := LMc13.out; omega); intro v1309 w16 ho hb hg hat; rw [← Ny1308.out] at ho; have n0_ := m0 (Kd.R_after (ok := (fun _ => True)) (by (with_reducible repeat (first | apply Kd.R_alloc | apply Kd.R_drewN | apply Kd.R_drew)); exact Kd.R_mono (Kd.R_far (p := ⟨gb1307, 2, none⟩) (Kd.R_far (p := ⟨gb1307, 1, none⟩) (Kd.R_far (p := ⟨gb1307, 0, none⟩) (Kd.R_types HO_5.out BK1307.out (by decide)) (fun _ hk => hk.2) (.int .i64 ((rd_T85 l0 x29_2).f0))) (fun _ hk => hk.2) (.int .i64 ((rd_T85 l0 x29_2).f1))) (fun _ hk => hk.2) (.int .i64 ((rd_T85 l0 x29_2).f2))) (fun _ hk => ⟨trivial, hk.1⟩)) hg hat); have n1_ := m0 (Kd.R_over' (by (with_reducible repeat (first | apply Kd.R_alloc | apply Kd.R_drewN | apply Kd.R_drew)); exact (Kd.R_mono (Kd.R_far (p := ⟨gb1307, 2, none⟩) (Kd.R_far (p := ⟨gb1307, 1, none⟩) (Kd.R_far (p := ⟨gb1307, 0, none⟩) (Kd.R_mono HO_9.out (fun k_ hk => (⟨hk, hk.2⟩ : _ ∧ k_ ≠ gb1307))) (fun _ hk => hk.2) (.int .i64 ((rd_T85 l0 x29_2).f0))) (fun _ hk => hk.2) (.int .i64 ((rd_T85 l0 x29_2).f1))) (fun _ hk => hk.2) (.int .i64 ((rd_T85 l0 x29_2).f2))) (fun _ h_ => h_.1))) (Kd.R_typed (by (with_reducible repeat (first | apply Kd.R_alloc | apply Kd.R_drewN | apply Kd.R_drew)); exact (Kd.R_mono (Kd.R_far (p := ⟨gb1307, 2, none⟩) (Kd.R_far (p := ⟨gb1307, 1, none⟩) (Kd.R_far (p := ⟨gb1307, 0, none⟩) (Kd.R_types HO_8.out BK1307.out (by decide)) (fun _ hk => hk.2) (.int .i64 ((rd_T85 l0 x29_2).f0))) (fun _ hk => hk.2) (.int .i64 ((rd_T85 l0 x29_2).f1))) (fun _ hk => hk.2) (.int .i64 ((rd_T85 l0 x29_2).f2))) (fun _ h_ => h_.1)))) (by decide) hg); have n2_ := m0 (blk_grown (g := gb1307) (o := .cells #[.int .i64 ((rd_T85 l0 x29_2).f0), .int .i64 ((rd_T85 l0 x29_2).f1), .int .i64 ((rd_T85 l0 x29_2).f2)] 85 (0, 0)) (bq BK1307.out) hg (Kd.R_ne HO_8.out BK1307.out (by decide))); have n3_ := m0 (hb); have n4_ := m0 (ho); clear HO_5; clear HO_9; clear BK1307; clear HB; clear HO_8; have HO_5 := n0_; have HO_9 := n1_; have BK1307 := n2_; have HB := n3_; have HO1310 := n4_; clear n0_ n1_ n2_ n3_ n4_; clear ho hb hg hat))
                        go_roundg k2
                        case measure => have := HK1.out; have := HK2.out; omega
                        case rel => exact ⟨(y1308), (x9_2), (wrap64 (x29_2 + 1)), (by first | rfl | (simp; done) | (simp [*]; done)), H', ⟨by have := HK1.out; have := HK2.out; omega⟩, ⟨by (with_reducible repeat (first | apply Kd.R_alloc | apply Kd.R_drewN | apply Kd.R_drew)); exact Kd.R_mono HO_5.out (fun _ hk => hk.2)⟩, ⟨br HO1310.out⟩, ⟨by (with_reducible repeat (first | apply Kd.R_alloc | apply Kd.R_drewN | apply Kd.R_drew)); exact Kd.R_mono HO_9.out (fun _ hk => trivial)⟩, ⟨bz⟩⟩
                      · rw [if_neg c13] at H
                        exact absurd H (by simp)
                    · rw [if_neg c12] at H
                      have c12b0 := beq_eq_false_iff_ne.mpr c12
                      have c12b1 := bne_iff_ne.mpr c12
                      by_cases c17 : x9_2.length < 5864062014805
                      · rw [if_pos c17] at H
                        have LMc17 := m0 c17
                        clear c17
                        obtain ⟨y1311, hy1311⟩ : ∃ y_ : List (S85), y_ = (x9_2 ++ [(⟨(rd_T85 l0 x29_2).f0, (rd_T85 l0 x29_2).f1, (rd_T85 l0 x29_2).f2⟩ : S85)]) := ⟨_, rfl⟩
                        replace H : (L_BadOf.l1 k2 l0 x5_1 x6_1 x24_1 x8_2 y1311 (wrap64 ((ji4) - 1)) x24_1 l0 (l0.length : Int) (wrap64 (x29_2 + 1))) = some (r1, r2) := by first | (rw [hy1311]; with_reducible exact H) | (have H2_ := (Option.bind_some _ _).symm.trans H; rw [hy1311]; with_reducible exact H2_) | (have H2_ := (Option.bind_some _ _).symm.trans H; with_reducible exact H2_) | with_reducible exact H | (rw [hy1311]; exact H) | exact H
                        have Ny1311 := m0 hy1311
                        clear hy1311
                        have H' := m0 H
                        clear H
                        have p1306 : 0 ≤ (x29_2 : Int) := od
                        have q1306 : x29_2 < (l0.length : Int) := od
                        obtain ⟨ad1306, e1306, hx1306_0, hx1306_1, hx1306_2⟩ := at_T85 HR0.out x29_2 p1306 q1306
                        cases e1306
                        replace hx1306_0 := (HB.out.cell (World.block_lt_of_cell? w _ hx1306_0)).trans hx1306_0
                        replace hx1306_1 := (HB.out.cell (World.block_lt_of_cell? w _ hx1306_1)).trans hx1306_1
                        replace hx1306_2 := (HB.out.cell (World.block_lt_of_cell? w _ hx1306_2)).trans hx1306_2
                        replace p1306 := eq_true p1306
                        replace q1306 := eq_true q1306
                        go_wp2_with (first | ((with_reducible refine gate_dst (N := 11) rfl ?_); (try (refine gate_guard (by rfl) ?_; dsimp only)); refine be 11 85 #[.int .i64 0, .int .i64 0, .int .i64 0] ?_; intro gb1307 hg w18 hbox hb; replace HO_5 := rb HO_5 hb; replace HO_8 := rb HO_8 hb; replace HO_9 := m0 (Kd.R_below (Kd.R_elderB (br HO_9.out) gb1307 (Nat.le_of_eq hg.symm)) hb); have BK1307 := m0 hbox; have GE1307 := gw w hg; replace HB := sb HB hb; clear hb hbox hg; obtain ⟨_, _, _, _, _, _⟩ := b3 BK1307) | ((with_reducible refine gate_builtin (b := .append) (xs := #[.tmp 43, .tmp 45]) rfl ?_); (try (refine gate_guard (by rfl) ?_; dsimp only)); at_builtin; refine Kd.R_append k85 (w0 := w) w.heap.size rfl (.tmp 43) (.tmp 45) 67 85 (.agg #[(.int .i64 0), (.int .i64 0), (.int .i64 0)]) 24 rfl Try.underlying67 info85 rfl (by decide) (by omega) u9 x9_2 (⟨(rd_T85 l0 x29_2).f0, (rd_T85 l0 x29_2).f1, (rd_T85 l0 x29_2).f2⟩ : S85) [.int .i64 ((rd_T85 l0 x29_2).f0), .int .i64 ((rd_T85 l0 x29_2).f1), .int .i64 ((rd_T85 l0 x29_2).f2)] (fun k_ => k_ ≠ gb1307) (fun _ => False) rfl (by first | (go_simp; done) | (go_simp; rfl)) ?aP (fun _ hk => hk.elim) ?aF ?aO ?aB ?aS ?aL ?_; (case aP => exact k85_mkM _ _ _ (⟨(rd_T85 l0 x29_2).f0, (rd_T85 l0 x29_2).f1, (rd_T85 l0 x29_2).f2⟩ : S85)); (case aB => exact bz); (case aF => exact (fun k_ hk => Kd.freshB (g := gb1307) (o := .cells #[.int .i64 ((rd_T85 l0 x29_2).f0), .int .i64 ((rd_T85 l0 x29_2).f1), .int .i64 ((rd_T85 l0 x29_2).f2)] 85 (0, 0)) (bq BK1307.out) k_ hk)); (case aO => exact (by (with_reducible repeat (first | apply Kd.R_alloc | apply Kd.R_drewN | apply Kd.R_drew)); exact Kd.R_mono (Kd.R_far (p := ⟨gb1307, 2, none⟩) (Kd.R_far (p := ⟨gb1307, 1, none⟩) (Kd.R_far (p := ⟨gb1307, 0, none⟩) (Kd.R_mono HO_9.out (fun k_ hk => (⟨hk, hk.2⟩ : _ ∧ k_ ≠ gb1307))) (fun _ hk => hk.2) (.int .i64 ((rd_T85 l0 x29_2).f0))) (fun _ hk => hk.2) (.int .i64 ((rd_T85 l0 x29_2).f1))) (fun _ hk => hk.2) (.int .i64 ((rd_T85 l0 x29_2).f2))) (fun _ hk => hk.1.2))); (case aS => exact (below_size bz)); (case aL => have := LMc17.out; omega); intro v1312 w20 ho hb hg hat; rw [← Ny1311.out] at ho; have n0_ := m0 (Kd.R_over' (by (with_reducible repeat (first | apply Kd.R_alloc | apply Kd.R_drewN | apply Kd.R_drew)); exact (Kd.R_mono (Kd.R_far (p := ⟨gb1307, 2, none⟩) (Kd.R_far (p := ⟨gb1307, 1, none⟩) (Kd.R_far (p := ⟨gb1307, 0, none⟩) (Kd.R_types HO_5.out BK1307.out (by decide)) (fun _ hk => hk.2) (.int .i64 ((rd_T85 l0 x29_2).f0))) (fun _ hk => hk.2) (.int .i64 ((rd_T85 l0 x29_2).f1))) (fun _ hk => hk.2) (.int .i64 ((rd_T85 l0 x29_2).f2))) (fun _ h_ => h_.1))) (Kd.R_typed (by (with_reducible repeat (first | apply Kd.R_alloc | apply Kd.R_drewN | apply Kd.R_drew)); exact (Kd.R_mono (Kd.R_far (p := ⟨gb1307, 2, none⟩) (Kd.R_far (p := ⟨gb1307, 1, none⟩) (Kd.R_far (p := ⟨gb1307, 0, none⟩) (Kd.R_mono HO_9.out (fun k_ hk => (⟨hk, hk.2⟩ : _ ∧ k_ ≠ gb1307))) (fun _ hk => hk.2) (.int .i64 ((rd_T85 l0 x29_2).f0))) (fun _ hk => hk.2) (.int .i64 ((rd_T85 l0 x29_2).f1))) (fun _ hk => hk.2) (.int .i64 ((rd_T85 l0 x29_2).f2))) (fun _ h_ => h_.1)))) (by decide) hg); have n1_ := m0 (Kd.R_over' (by (with_reducible repeat (first | apply Kd.R_alloc | apply Kd.R_drewN | apply Kd.R_drew)); exact (Kd.R_mono (Kd.R_far (p := ⟨gb1307, 2, none⟩) (Kd.R_far (p := ⟨gb1307, 1, none⟩) (Kd.R_far (p := ⟨gb1307, 0, none⟩) (Kd.R_types HO_8.out BK1307.out (by decide)) (fun _ hk => hk.2) (.int .i64 ((rd_T85 l0 x29_2).f0))) (fun _ hk => hk.2) (.int .i64 ((rd_T85 l0 x29_2).f1))) (fun _ hk => hk.2) (.int .i64 ((rd_T85 l0 x29_2).f2))) (fun _ h_ => h_.1))) (Kd.R_typed (by (with_reducible repeat (first | apply Kd.R_alloc | apply Kd.R_drewN | apply Kd.R_drew)); exact (Kd.R_mono (Kd.R_far (p := ⟨gb1307, 2, none⟩) (Kd.R_far (p := ⟨gb1307, 1, none⟩) (Kd.R_far (p := ⟨gb1307, 0, none⟩) (Kd.R_mono HO_9.out (fun k_ hk => (⟨hk, hk.2⟩ : _ ∧ k_ ≠ gb1307))) (fun _ hk => hk.2) (.int .i64 ((rd_T85 l0 x29_2).f0))) (fun _ hk => hk.2) (.int .i64 ((rd_T85 l0 x29_2).f1))) (fun _ hk => hk.2) (.int .i64 ((rd_T85 l0 x29_2).f2))) (fun _ h_ => h_.1)))) (by decide) hg); have n2_ := m0 (blk_grown (g := gb1307) (o := .cells #[.int .i64 ((rd_T85 l0 x29_2).f0), .int .i64 ((rd_T85 l0 x29_2).f1), .int .i64 ((rd_T85 l0 x29_2).f2)] 85 (0, 0)) (bq BK1307.out) hg (Kd.R_away HO_9.out (fun _ hk => hk.2))); have n3_ := m0 (hb); have n4_ := m0 (ho); clear HO_5; clear HO_8; clear BK1307; clear HB; clear HO_9; have HO_5 := n0_; have HO_8 := n1_; have BK1307 := n2_; have HB := n3_; have HO1313 := n4_; clear n0_ n1_ n2_ n3_ n4_; clear ho hb hg hat))
                        go_roundg k2
                        case measure => have := HK1.out; have := HK2.out; omega
                        case rel => exact ⟨(x8_2), (y1311), (wrap64 (x29_2 + 1)), (by first | rfl | (simp; done) | (simp [*]; done)), H', ⟨by have := HK1.out; have := HK2.out; omega⟩, ⟨br HO_5.out⟩, ⟨br HO_8.out⟩, ⟨by (with_reducible repeat (first | apply Kd.R_alloc | apply Kd.R_drewN | apply Kd.R_drew)); exact Kd.R_mono HO1313.out (fun _ hk => trivial)⟩, ⟨bz⟩⟩
                      · rw [if_neg c17] at H
                        exact absurd H (by simp)
                  · rw [if_neg c9] at H
                    exact absurd H (by simp)
                · rw [if_neg c8] at H
                  exact absurd H (by simp)
              · rw [if_neg c7] at H
                have c7b0 := decide_eq_false c7
                clear c7
                by_cases c21 : x6_1 = true
                · subst c21
                  rw [if_pos rfl] at H
                  replace H := ob H
                  obtain ⟨t1314, A22, H⟩ := H
                  (try dsimp only at H)
                  replace A22 := m0 A22
                  replace H := ob H
                  obtain ⟨t1315, A23, H⟩ := H
                  (try dsimp only at H)
                  replace A23 := m0 A23
                  obtain ⟨y1316, hy1316⟩ : ∃ y_ : List Int, y_ = (([t1314, t1315] : List Int)) := ⟨_, rfl⟩
                  replace H : ((cmp_Or_int.f k2 y1316).bind fun t1319 => ((L_common.f k2 x9_2).bind fun bt1320 => (if bt1320.2.2 = true then (if t1319 < 0 then (L_BadOf.l0 k2 l0 x8_2 true (wrap64 ((ji4) - 1)) (wrap64 (x24_1 + 1))) else (L_BadOf.l0 k2 l0 x5_1 true (wrap64 ((ji4) - 1)) (wrap64 (x24_1 + 1)))) else (L_BadOf.l0 k2 l0 x5_1 true (wrap64 ((ji4) - 1)) (wrap64 (x24_1 + 1)))))) = some (r1, r2) := by first | (rw [hy1316]; with_reducible exact H) | (have H2_ := (Option.bind_some _ _).symm.trans H; rw [hy1316]; with_reducible exact H2_) | (have H2_ := (Option.bind_some _ _).symm.trans H; with_reducible exact H2_) | with_reducible exact H | (rw [hy1316]; exact H) | exact H
                  have Ny1316 := m0 hy1316
                  clear hy1316
                  replace H := ob H
                  obtain ⟨t1319, A24, H⟩ := H
                  (try dsimp only at H)
                  replace A24 := m0 A24
                  replace H := ob H
                  obtain ⟨⟨t1320, t1321, t1322⟩, A25, H⟩ := H
                  (try dsimp only at H)
                  replace A25 := m0 A25
                  by_cases c26 : t1322 = true
                  · subst c26
                    rw [if_pos rfl] at H
                    by_cases c27 : t1319 < 0
                    · rw [if_pos c27] at H
                      have c27b0 := decide_eq_true c27
                      clear c27
                      have H' := m0 H
                      clear H
                      obtain ⟨Ao28, co28, eo28⟩ := Kd.R_slice HO_8.out
                      subst eo28
                      obtain ⟨Ao29, co29, eo29⟩ := Kd.R_slice HO_5.out
                      subst eo29
                      go_wp2_with (first | (go_at_call 117; (with_reducible refine (cmp_Compare_int.calls (x8_2.length : Int) (x5_1.length : Int) t1314 _ A22.out).mono ?_); rintro e w' ⟨rfl, ⟨nd, rfl⟩⟩; (try (rw [drewN_self wr]; generalize hq_ : World.drewN wr _ = wr; replace HO_5 := gr HO_5 hq_; replace HO_8 := gr HO_8 hq_; replace HO_9 := gr HO_9 hq_; replace HB := gs HB hq_; clear hq_))) | (go_at_call 118; (with_reducible refine (slices_Compare_int_int.calls k2 _ _ x8_2 _ _ x5_1 t1315 _ ?side1 ?side2 ?side3 ?side4 A23.out).mono ?_); (case side1 => exact bc (Kd.R_reads' HO_8.out).2.2); (case side2 => exact (Kd.R_reads' HO_8.out).2.1); (case side3 => exact bc (Kd.R_reads' HO_5.out).2.2); (case side4 => exact (Kd.R_reads' HO_5.out).2.1); rintro e w' ⟨rfl, ⟨nd, rfl⟩⟩; (try (rw [drewN_self wr]; generalize hq_ : World.drewN wr _ = wr; replace HO_5 := gr HO_5 hq_; replace HO_8 := gr HO_8 hq_; replace HO_9 := gr HO_9 hq_; replace HB := gs HB hq_; clear hq_))) | ((with_reducible refine gate_dst (N := 59) rfl ?_); (try (refine gate_guard (by rfl) ?_; dsimp only)); refine Kd.R_lit (Kd.int .i64) _ 3 ?hg (N := 59) ?hd (xs := ([t1314, t1315] : List Int)) (inner := [.int .i64 t1314, .int .i64 t1315]) (ok := fun _ => True) (okp := fun _ => True) ?hr ?hp (fun _ hk => hk) trivial (Below.refl _ _) (Nat.le_refl _) (by simp) ?_; (case hd => rfl); (case hg => rfl); (case hr => first | (go_simp; done) | (go_simp; rfl)); (case hp => exact (Reps.one (show Kd.M (Kd.int .i64) _ _ _ t1314 [.int .i64 t1314] from rfl) (Reps.one (show Kd.M (Kd.int .i64) _ _ _ t1315 [.int .i64 t1315] from rfl) (Reps.none _ _)))); intro v1317 w30 ho31 hb hg_ hnew_; clear hg_ hnew_; (first | rw [← Ny1316.out] at ho31 | (simp only [Int.reduceToNat] at ho31; rw [← Ny1316.out] at ho31)); replace HO_9 := rb HO_9 hb; have HO1318 := m0 (Kd.R_lower (Kd.R_new' (Kd.R_new' ho31 (Kd.R_lt (br HO_5.out))) (Kd.R_lt (br HO_8.out))) (below_size bz)); replace HO_5 := m0 (Kd.R_elder' (br HO_5.out) (Kd.R_base ho31) hb); replace HO_8 := m0 (Kd.R_elder' (br HO_8.out) (Kd.R_base ho31) hb); replace HB := sb HB hb; clear hb ho31; obtain ⟨Ao32, co32, eo32⟩ := Kd.R_slice HO1318.out; subst eo32) | (go_at_call 116; (with_reducible refine (cmp_Or_int.calls k2 _ _ y1316 t1319 _ ?side1 ?side2 A24.out).mono ?_); (case side1 => exact bc (Kd.R_reads' HO1318.out).2.2); (case side2 => exact (Kd.R_reads' HO1318.out).2.1); rintro e w' ⟨rfl, ⟨nd, rfl⟩⟩; (try (rw [drewN_self w30]; generalize hq_ : World.drewN w30 _ = w30; have n0_ : Aside0 (Kd.R (Kd.int .i64) 3 w30 w.heap.size (fun k_ => some k_ ≠ (.slice Ao29 x5_1.length co29 : Value).ownBlock ∧ some k_ ≠ (.slice Ao28 x8_2.length co28 : Value).ownBlock) (.slice Ao32 y1316.length co32) y1316) := ⟨by rw [← hq_]; exact (by (with_reducible repeat (first | apply Kd.R_alloc | apply Kd.R_drewN | apply Kd.R_drew)); exact Kd.R_mono HO1318.out (fun _ hk => ⟨hk.1.2, hk.2⟩))⟩; have n1_ : Aside0 (Kd.R (Kd.int .i64) 3 w30 w.heap.size (fun k_ => some k_ ≠ (.slice Ao32 y1316.length co32 : Value).ownBlock ∧ some k_ ≠ (.slice Ao28 x8_2.length co28 : Value).ownBlock) (.slice Ao29 x5_1.length co29) x5_1) := ⟨by rw [← hq_]; exact (by (with_reducible repeat (first | apply Kd.R_alloc | apply Kd.R_drewN | apply Kd.R_drew)); exact Kd.R_mono HO_5.out (fun _ hk => ⟨hk.2, hk.1⟩))⟩; have n2_ : Aside0 (Kd.R (Kd.int .i64) 3 w30 w.heap.size (fun k_ => some k_ ≠ (.slice Ao32 y1316.length co32 : Value).ownBlock ∧ some k_ ≠ (.slice Ao29 x5_1.length co29 : Value).ownBlock) (.slice Ao28 x8_2.length co28) x8_2) := ⟨by rw [← hq_]; exact (by (with_reducible repeat (first | apply Kd.R_alloc | apply Kd.R_drewN | apply Kd.R_drew)); exact Kd.R_mono HO_8.out (fun _ hk => ⟨hk.2, hk.1⟩))⟩; have n3_ := gr HO_9 hq_; have n4_ := gs HB hq_; clear HO1318 HO_5 HO_8 HO_9 HB hq_; have HO1318 := n0_; have HO_5 := n1_; have HO_8 := n2_; have HO_9 := n3_; have HB := n4_; clear n0_ n1_ n2_ n3_ n4_)); obtain ⟨Ao33, co33, eo33⟩ := Kd.R_slice HO_9.out; subst eo33) | ((with_reducible refine gate_callee (f := 113) rfl ?_); refine gl (some 65) Try.func113 #[.slice Ao33 x9_2.length co33] ?_; (with_reducible refine (L_common.calls k2 _ _ x9_2 t1320 t1321 true _ ?side1 ?side2 A25.out).mono ?_); (case side1 => exact bc (Kd.R_reads' HO_9.out).2.2); (case side2 => exact (Kd.R_reads' HO_9.out).2.1); rintro e w34 ⟨rfl, hb⟩; refine ⟨_, rfl, ?_⟩; replace HO_5 := rb HO_5 hb; replace HO_8 := rb HO_8 hb; replace HO_9 := rb HO_9 hb; replace HO1318 := rb HO1318 hb; replace HB := sb HB hb; (try clear hb)) | ((with_reducible refine gate_dst (N := 13) rfl ?_); (try (refine gate_guard (by rfl) ?_; dsimp only)); refine be 13 58 #[.int .i64 0, .int .i64 0] ?_; intro gb1323 hg w35 hbox hb; replace HO_5 := rb HO_5 hb; replace HO_8 := rb HO_8 hb; replace HO_9 := rb HO_9 hb; replace HO1318 := rb HO1318 hb; have BK1323 := m0 hbox; have GE1323 := gw w hg; replace HB := sb HB hb; clear hb hbox hg; obtain ⟨_, _, _, _⟩ := b2 BK1323))
                      go_roundg k2
                      case measure => have := HK1.out; have := HK2.out; omega
                      case rel => exact ⟨(x8_2), (true), (wrap64 (x24_1 + 1)), (by first | rfl | (simp; done) | (simp [*]; done)), (by first | rfl | (simp; done) | (simp [*]; done)), H', ⟨by have := HK1.out; have := HK2.out; omega⟩, ⟨by (with_reducible repeat (first | apply Kd.R_alloc | apply Kd.R_drewN | apply Kd.R_drew)); exact Kd.R_mono (Kd.R_far (p := ⟨gb1323, 1, none⟩) (Kd.R_far (p := ⟨gb1323, 0, none⟩) (Kd.R_types HO_8.out BK1323.out (by decide)) (fun _ hk => hk.2) (.int .i64 t1320)) (fun _ hk => hk.2) (.int .i64 t1321)) (fun _ hk => trivial)⟩, ⟨bz⟩⟩
                    · rw [if_neg c27] at H
                      have c27b0 := decide_eq_false c27
                      clear c27
                      have H' := m0 H
                      clear H
                      obtain ⟨Ao37, co37, eo37⟩ := Kd.R_slice HO_8.out
                      subst eo37
                      obtain ⟨Ao38, co38, eo38⟩ := Kd.R_slice HO_5.out
                      subst eo38
                      go_wp2_with (first | (go_at_call 117; (with_reducible refine (cmp_Compare_int.calls (x8_2.length : Int) (x5_1.length : Int) t1314 _ A22.out).mono ?_); rintro e w' ⟨rfl, ⟨nd, rfl⟩⟩; (try (rw [drewN_self wr]; generalize hq_ : World.drewN wr _ = wr; replace HO_5 := gr HO_5 hq_; replace HO_8 := gr HO_8 hq_; replace HO_9 := gr HO_9 hq_; replace HB := gs HB hq_; clear hq_))) | (go_at_call 118; (with_reducible refine (slices_Compare_int_int.calls k2 _ _ x8_2 _ _ x5_1 t1315 _ ?side1 ?side2 ?side3 ?side4 A23.out).mono ?_); (case side1 => exact bc (Kd.R_reads' HO_8.out).2.2); (case side2 => exact (Kd.R_reads' HO_8.out).2.1); (case side3 => exact bc (Kd.R_reads' HO_5.out).2.2); (case side4 => exact (Kd.R_reads' HO_5.out).2.1); rintro e w' ⟨rfl, ⟨nd, rfl⟩⟩; (try (rw [drewN_self wr]; generalize hq_ : World.drewN wr _ = wr; replace HO_5 := gr HO_5 hq_; replace HO_8 := gr HO_8 hq_; replace HO_9 := gr HO_9 hq_; replace HB := gs HB hq_; clear hq_))) | ((with_reducible refine gate_dst (N := 59) rfl ?_); (try (refine gate_guard (by rfl) ?_; dsimp only)); refine Kd.R_lit (Kd.int .i64) _ 3 ?hg (N := 59) ?hd (xs := ([t1314, t1315] : List Int)) (inner := [.int .i64 t1314, .int .i64 t1315]) (ok := fun _ => True) (okp := fun _ => True) ?hr ?hp (fun _ hk => hk) trivial (Below.refl _ _) (Nat.le_refl _) (by simp) ?_; (case hd => rfl); (case hg => rfl); (case hr => first | (go_simp; done) | (go_simp; rfl)); (case hp => exact (Reps.one (show Kd.M (Kd.int .i64) _ _ _ t1314 [.int .i64 t1314] from rfl) (Reps.one (show Kd.M (Kd.int .i64) _ _ _ t1315 [.int .i64 t1315] from rfl) (Reps.none _ _)))); intro v1317 w39 ho40 hb hg_ hnew_; clear hg_ hnew_; (first | rw [← Ny1316.out] at ho40 | (simp only [Int.reduceToNat] at ho40; rw [← Ny1316.out] at ho40)); replace HO_9 := rb HO_9 hb; have HO1318 := m0 (Kd.R_lower (Kd.R_new' (Kd.R_new' ho40 (Kd.R_lt (br HO_5.out))) (Kd.R_lt (br HO_8.out))) (below_size bz)); replace HO_5 := m0 (Kd.R_elder' (br HO_5.out) (Kd.R_base ho40) hb); replace HO_8 := m0 (Kd.R_elder' (br HO_8.out) (Kd.R_base ho40) hb); replace HB := sb HB hb; clear hb ho40; obtain ⟨Ao41, co41, eo41⟩ := Kd.R_slice HO1318.out; subst eo41) | (go_at_call 116; (with_reducible refine (cmp_Or_int.calls k2 _ _ y1316 t1319 _ ?side1 ?side2 A24.out).mono ?_); (case side1 => exact bc (Kd.R_reads' HO1318.out).2.2); (case side2 => exact (Kd.R_reads' HO1318.out).2.1); rintro e w' ⟨rfl, ⟨nd, rfl⟩⟩; (try (rw [drewN_self w39]; generalize hq_ : World.drewN w39 _ = w39; have n0_ : Aside0 (Kd.R (Kd.int .i64) 3 w39 w.heap.size (fun k_ => some k_ ≠ (.slice Ao38 x5_1.length co38 : Value).ownBlock ∧ some k_ ≠ (.slice Ao37 x8_2.length co37 : Value).ownBlock) (.slice Ao41 y1316.length co41) y1316) := ⟨by rw [← hq_]; exact (by (with_reducible repeat (first | apply Kd.R_alloc | apply Kd.R_drewN | apply Kd.R_drew)); exact Kd.R_mono HO1318.out (fun _ hk => ⟨hk.1.2, hk.2⟩))⟩; have n1_ : Aside0 (Kd.R (Kd.int .i64) 3 w39 w.heap.size (fun k_ => some k_ ≠ (.slice Ao41 y1316.length co41 : Value).ownBlock ∧ some k_ ≠ (.slice Ao37 x8_2.length co37 : Value).ownBlock) (.slice Ao38 x5_1.length co38) x5_1) := ⟨by rw [← hq_]; exact (by (with_reducible repeat (first | apply Kd.R_alloc | apply Kd.R_drewN | apply Kd.R_drew)); exact Kd.R_mono HO_5.out (fun _ hk => ⟨hk.2, hk.1⟩))⟩; have n2_ : Aside0 (Kd.R (Kd.int .i64) 3 w39 w.heap.size (fun k_ => some k_ ≠ (.slice Ao41 y1316.length co41 : Value).ownBlock ∧ some k_ ≠ (.slice Ao38 x5_1.length co38 : Value).ownBlock) (.slice Ao37 x8_2.length co37) x8_2) := ⟨by rw [← hq_]; exact (by (with_reducible repeat (first | apply Kd.R_alloc | apply Kd.R_drewN | apply Kd.R_drew)); exact Kd.R_mono HO_8.out (fun _ hk => ⟨hk.2, hk.1⟩))⟩; have n3_ := gr HO_9 hq_; have n4_ := gs HB hq_; clear HO1318 HO_5 HO_8 HO_9 HB hq_; have HO1318 := n0_; have HO_5 := n1_; have HO_8 := n2_; have HO_9 := n3_; have HB := n4_; clear n0_ n1_ n2_ n3_ n4_)); obtain ⟨Ao42, co42, eo42⟩ := Kd.R_slice HO_9.out; subst eo42) | ((with_reducible refine gate_callee (f := 113) rfl ?_); refine gl (some 65) Try.func113 #[.slice Ao42 x9_2.length co42] ?_; (with_reducible refine (L_common.calls k2 _ _ x9_2 t1320 t1321 true _ ?side1 ?side2 A25.out).mono ?_); (case side1 => exact bc (Kd.R_reads' HO_9.out).2.2); (case side2 => exact (Kd.R_reads' HO_9.out).2.1); rintro e w43 ⟨rfl, hb⟩; refine ⟨_, rfl, ?_⟩; replace HO_5 := rb HO_5 hb; replace HO_8 := rb HO_8 hb; replace HO_9 := rb HO_9 hb; replace HO1318 := rb HO1318 hb; replace HB := sb HB hb; (try clear hb)) | ((with_reducible refine gate_dst (N := 13) rfl ?_); (try (refine gate_guard (by rfl) ?_; dsimp only)); refine be 13 58 #[.int .i64 0, .int .i64 0] ?_; intro gb1323 hg w44 hbox hb; replace HO_5 := rb HO_5 hb; replace HO_8 := rb HO_8 hb; replace HO_9 := rb HO_9 hb; replace HO1318 := rb HO1318 hb; have BK1323 := m0 hbox; have GE1323 := gw w hg; replace HB := sb HB hb; clear hb hbox hg; obtain ⟨_, _, _, _⟩ := b2 BK1323))
                      go_roundg k2
                      case measure => have := HK1.out; have := HK2.out; omega
                      case rel => exact ⟨(x5_1), (true), (wrap64 (x24_1 + 1)), (by first | rfl | (simp; done) | (simp [*]; done)), (by first | rfl | (simp; done) | (simp [*]; done)), H', ⟨by have := HK1.out; have := HK2.out; omega⟩, ⟨by (with_reducible repeat (first | apply Kd.R_alloc | apply Kd.R_drewN | apply Kd.R_drew)); exact Kd.R_mono (Kd.R_far (p := ⟨gb1323, 1, none⟩) (Kd.R_far (p := ⟨gb1323, 0, none⟩) (Kd.R_types HO_5.out BK1323.out (by decide)) (fun _ hk => hk.2) (.int .i64 t1320)) (fun _ hk => hk.2) (.int .i64 t1321)) (fun _ hk => trivial)⟩, ⟨bz⟩⟩
                  · replace c26 := Bool.eq_false_iff.mpr c26
                    subst c26
                    rw [if_neg (show ¬ (false = true) by decide)] at H
                    have H' := m0 H
                    clear H
                    obtain ⟨Ao46, co46, eo46⟩ := Kd.R_slice HO_8.out
                    subst eo46
                    obtain ⟨Ao47, co47, eo47⟩ := Kd.R_slice HO_5.out
                    subst eo47
                    go_wp2_with (first | (go_at_call 117; (with_reducible refine (cmp_Compare_int.calls (x8_2.length : Int) (x5_1.length : Int) t1314 _ A22.out).mono ?_); rintro e w' ⟨rfl, ⟨nd, rfl⟩⟩; (try (rw [drewN_self wr]; generalize hq_ : World.drewN wr _ = wr; replace HO_5 := gr HO_5 hq_; replace HO_8 := gr HO_8 hq_; replace HO_9 := gr HO_9 hq_; replace HB := gs HB hq_; clear hq_))) | (go_at_call 118; (with_reducible refine (slices_Compare_int_int.calls k2 _ _ x8_2 _ _ x5_1 t1315 _ ?side1 ?side2 ?side3 ?side4 A23.out).mono ?_); (case side1 => exact bc (Kd.R_reads' HO_8.out).2.2); (case side2 => exact (Kd.R_reads' HO_8.out).2.1); (case side3 => exact bc (Kd.R_reads' HO_5.out).2.2); (case side4 => exact (Kd.R_reads' HO_5.out).2.1); rintro e w' ⟨rfl, ⟨nd, rfl⟩⟩; (try (rw [drewN_self wr]; generalize hq_ : World.drewN wr _ = wr; replace HO_5 := gr HO_5 hq_; replace HO_8 := gr HO_8 hq_; replace HO_9 := gr HO_9 hq_; replace HB := gs HB hq_; clear hq_))) | ((with_reducible refine gate_dst (N := 59) rfl ?_); (try (refine gate_guard (by rfl) ?_; dsimp only)); refine Kd.R_lit (Kd.int .i64) _ 3 ?hg (N := 59) ?hd (xs := ([t1314, t1315] : List Int)) (inner := [.int .i64 t1314, .int .i64 t1315]) (ok := fun _ => True) (okp := fun _ => True) ?hr ?hp (fun _ hk => hk) trivial (Below.refl _ _) (Nat.le_refl _) (by simp) ?_; (case hd => rfl); (case hg => rfl); (case hr => first | (go_simp; done) | (go_simp; rfl)); (case hp => exact (Reps.one (show Kd.M (Kd.int .i64) _ _ _ t1314 [.int .i64 t1314] from rfl) (Reps.one (show Kd.M (Kd.int .i64) _ _ _ t1315 [.int .i64 t1315] from rfl) (Reps.none _ _)))); intro v1317 w48 ho49 hb hg_ hnew_; clear hg_ hnew_; (first | rw [← Ny1316.out] at ho49 | (simp only [Int.reduceToNat] at ho49; rw [← Ny1316.out] at ho49)); replace HO_9 := rb HO_9 hb; have HO1318 := m0 (Kd.R_lower (Kd.R_new' (Kd.R_new' ho49 (Kd.R_lt (br HO_5.out))) (Kd.R_lt (br HO_8.out))) (below_size bz)); replace HO_5 := m0 (Kd.R_elder' (br HO_5.out) (Kd.R_base ho49) hb); replace HO_8 := m0 (Kd.R_elder' (br HO_8.out) (Kd.R_base ho49) hb); replace HB := sb HB hb; clear hb ho49; obtain ⟨Ao50, co50, eo50⟩ := Kd.R_slice HO1318.out; subst eo50) | (go_at_call 116; (with_reducible refine (cmp_Or_int.calls k2 _ _ y1316 t1319 _ ?side1 ?side2 A24.out).mono ?_); (case side1 => exact bc (Kd.R_reads' HO1318.out).2.2); (case side2 => exact (Kd.R_reads' HO1318.out).2.1); rintro e w' ⟨rfl, ⟨nd, rfl⟩⟩; (try (rw [drewN_self w48]; generalize hq_ : World.drewN w48 _ = w48; have n0_ : Aside0 (Kd.R (Kd.int .i64) 3 w48 w.heap.size (fun k_ => some k_ ≠ (.slice Ao47 x5_1.length co47 : Value).ownBlock ∧ some k_ ≠ (.slice Ao46 x8_2.length co46 : Value).ownBlock) (.slice Ao50 y1316.length co50) y1316) := ⟨by rw [← hq_]; exact (by (with_reducible repeat (first | apply Kd.R_alloc | apply Kd.R_drewN | apply Kd.R_drew)); exact Kd.R_mono HO1318.out (fun _ hk => ⟨hk.1.2, hk.2⟩))⟩; have n1_ : Aside0 (Kd.R (Kd.int .i64) 3 w48 w.heap.size (fun k_ => some k_ ≠ (.slice Ao50 y1316.length co50 : Value).ownBlock ∧ some k_ ≠ (.slice Ao46 x8_2.length co46 : Value).ownBlock) (.slice Ao47 x5_1.length co47) x5_1) := ⟨by rw [← hq_]; exact (by (with_reducible repeat (first | apply Kd.R_alloc | apply Kd.R_drewN | apply Kd.R_drew)); exact Kd.R_mono HO_5.out (fun _ hk => ⟨hk.2, hk.1⟩))⟩; have n2_ : Aside0 (Kd.R (Kd.int .i64) 3 w48 w.heap.size (fun k_ => some k_ ≠ (.slice Ao50 y1316.length co50 : Value).ownBlock ∧ some k_ ≠ (.slice Ao47 x5_1.length co47 : Value).ownBlock) (.slice Ao46 x8_2.length co46) x8_2) := ⟨by rw [← hq_]; exact (by (with_reducible repeat (first | apply Kd.R_alloc | apply Kd.R_drewN | apply Kd.R_drew)); exact Kd.R_mono HO_8.out (fun _ hk => ⟨hk.2, hk.1⟩))⟩; have n3_ := gr HO_9 hq_; have n4_ := gs HB hq_; clear HO1318 HO_5 HO_8 HO_9 HB hq_; have HO1318 := n0_; have HO_5 := n1_; have HO_8 := n2_; have HO_9 := n3_; have HB := n4_; clear n0_ n1_ n2_ n3_ n4_)); obtain ⟨Ao51, co51, eo51⟩ := Kd.R_slice HO_9.out; subst eo51) | ((with_reducible refine gate_callee (f := 113) rfl ?_); refine gl (some 65) Try.func113 #[.slice Ao51 x9_2.length co51] ?_; (with_reducible refine (L_common.calls k2 _ _ x9_2 t1320 t1321 false _ ?side1 ?side2 A25.out).mono ?_); (case side1 => exact bc (Kd.R_reads' HO_9.out).2.2); (case side2 => exact (Kd.R_reads' HO_9.out).2.1); rintro e w52 ⟨rfl, hb⟩; refine ⟨_, rfl, ?_⟩; replace HO_5 := rb HO_5 hb; replace HO_8 := rb HO_8 hb; replace HO_9 := rb HO_9 hb; replace HO1318 := rb HO1318 hb; replace HB := sb HB hb; (try clear hb)) | ((with_reducible refine gate_dst (N := 13) rfl ?_); (try (refine gate_guard (by rfl) ?_; dsimp only)); refine be 13 58 #[.int .i64 0, .int .i64 0] ?_; intro gb1323 hg w53 hbox hb; replace HO_5 := rb HO_5 hb; replace HO_8 := rb HO_8 hb; replace HO_9 := rb HO_9 hb; replace HO1318 := rb HO1318 hb; have BK1323 := m0 hbox; have GE1323 := gw w hg; replace HB := sb HB hb; clear hb hbox hg; obtain ⟨_, _, _, _⟩ := b2 BK1323))
                    go_roundg k2
                    case measure => have := HK1.out; have := HK2.out; omega
                    case rel => exact ⟨(x5_1), (true), (wrap64 (x24_1 + 1)), (by first | rfl | (simp; done) | (simp [*]; done)), (by first | rfl | (simp; done) | (simp [*]; done)), H', ⟨by have := HK1.out; have := HK2.out; omega⟩, ⟨by (with_reducible repeat (first | apply Kd.R_alloc | apply Kd.R_drewN | apply Kd.R_drew)); exact Kd.R_mono (Kd.R_far (p := ⟨gb1323, 1, none⟩) (Kd.R_far (p := ⟨gb1323, 0, none⟩) (Kd.R_types HO_5.out BK1323.out (by decide)) (fun _ hk => hk.2) (.int .i64 t1320)) (fun _ hk => hk.2) (.int .i64 t1321)) (fun _ hk => trivial)⟩, ⟨bz⟩⟩
                · replace c21 := Bool.eq_false_iff.mpr c21
                  subst c21
                  rw [if_neg (show ¬ (false = true) by decide)] at H
                  replace H := ob H
                  obtain ⟨⟨t1324, t1325, t1326⟩, A55, H⟩ := H
                  (try dsimp only at H)
                  replace A55 := m0 A55
                  by_cases c56 : t1326 = true
                  · subst c56
                    rw [if_pos rfl] at H
                    have H' := m0 H
                    clear H
                    obtain ⟨Ao57, co57, eo57⟩ := Kd.R_slice HO_9.out
                    subst eo57
                    go_wp2_with (first | ((with_reducible refine gate_callee (f := 113) rfl ?_); refine gl (some 65) Try.func113 #[.slice Ao57 x9_2.length co57] ?_; (with_reducible refine (L_common.calls k2 _ _ x9_2 t1324 t1325 true _ ?side1 ?side2 A55.out).mono ?_); (case side1 => exact bc (Kd.R_reads' HO_9.out).2.2); (case side2 => exact (Kd.R_reads' HO_9.out).2.1); rintro e w58 ⟨rfl, hb⟩; refine ⟨_, rfl, ?_⟩; replace HO_5 := rb HO_5 hb; replace HO_8 := rb HO_8 hb; replace HO_9 := rb HO_9 hb; replace HB := sb HB hb; (try clear hb)) | ((with_reducible refine gate_dst (N := 13) rfl ?_); (try (refine gate_guard (by rfl) ?_; dsimp only)); refine be 13 58 #[.int .i64 0, .int .i64 0] ?_; intro gb1327 hg w59 hbox hb; replace HO_5 := rb HO_5 hb; replace HO_8 := rb HO_8 hb; replace HO_9 := rb HO_9 hb; have BK1327 := m0 hbox; have GE1327 := gw w hg; replace HB := sb HB hb; clear hb hbox hg; obtain ⟨_, _, _, _⟩ := b2 BK1327))
                    go_roundg k2
                    case measure => have := HK1.out; have := HK2.out; omega
                    case rel => exact ⟨(x8_2), (true), (wrap64 (x24_1 + 1)), (by first | rfl | (simp; done) | (simp [*]; done)), (by first | rfl | (simp; done) | (simp [*]; done)), H', ⟨by have := HK1.out; have := HK2.out; omega⟩, ⟨by (with_reducible repeat (first | apply Kd.R_alloc | apply Kd.R_drewN | apply Kd.R_drew)); exact Kd.R_mono (Kd.R_far (p := ⟨gb1327, 1, none⟩) (Kd.R_far (p := ⟨gb1327, 0, none⟩) (Kd.R_types HO_8.out BK1327.out (by decide)) (fun _ hk => hk.2) (.int .i64 t1324)) (fun _ hk => hk.2) (.int .i64 t1325)) (fun _ hk => trivial)⟩, ⟨bz⟩⟩
                  · replace c56 := Bool.eq_false_iff.mpr c56
                    subst c56
                    rw [if_neg (show ¬ (false = true) by decide)] at H
                    have H' := m0 H
                    clear H
                    obtain ⟨Ao61, co61, eo61⟩ := Kd.R_slice HO_9.out
                    subst eo61
                    go_wp2_with (first | ((with_reducible refine gate_callee (f := 113) rfl ?_); refine gl (some 65) Try.func113 #[.slice Ao61 x9_2.length co61] ?_; (with_reducible refine (L_common.calls k2 _ _ x9_2 t1324 t1325 false _ ?side1 ?side2 A55.out).mono ?_); (case side1 => exact bc (Kd.R_reads' HO_9.out).2.2); (case side2 => exact (Kd.R_reads' HO_9.out).2.1); rintro e w62 ⟨rfl, hb⟩; refine ⟨_, rfl, ?_⟩; replace HO_5 := rb HO_5 hb; replace HO_8 := rb HO_8 hb; replace HO_9 := rb HO_9 hb; replace HB := sb HB hb; (try clear hb)) | ((with_reducible refine gate_dst (N := 13) rfl ?_); (try (refine gate_guard (by rfl) ?_; dsimp only)); refine be 13 58 #[.int .i64 0, .int .i64 0] ?_; intro gb1327 hg w63 hbox hb; replace HO_5 := rb HO_5 hb; replace HO_8 := rb HO_8 hb; replace HO_9 := rb HO_9 hb; have BK1327 := m0 hbox; have GE1327 := gw w hg; replace HB := sb HB hb; clear hb hbox hg; obtain ⟨_, _, _, _⟩ := b2 BK1327))
                    go_roundg k2
                    case measure => have := HK1.out; have := HK2.out; omega
                    case rel => exact ⟨(x5_1), (false), (wrap64 (x24_1 + 1)), (by first | rfl | (simp; done) | (simp [*]; done)), (by first | rfl | (simp; done) | (simp [*]; done)), H', ⟨by have := HK1.out; have := HK2.out; omega⟩, ⟨by (with_reducible repeat (first | apply Kd.R_alloc | apply Kd.R_drewN | apply Kd.R_drew)); exact Kd.R_mono (Kd.R_far (p := ⟨gb1327, 1, none⟩) (Kd.R_far (p := ⟨gb1327, 0, none⟩) (Kd.R_types HO_5.out BK1327.out (by decide)) (fun _ hk => hk.2) (.int .i64 t1324)) (fun _ hk => hk.2) (.int .i64 t1325)) (fun _ hk => trivial)⟩, ⟨bz⟩⟩
        · rw [if_neg c6] at H
          have c6b0 := decide_eq_false c6
          clear c6
          simp only [Option.some.injEq, Prod.mk.injEq] at H
          obtain ⟨rfl, rfl⟩ := H
          go_wp2
          go_ret2
          exact ⟨_, by first | rfl | (simp [errW_none, errW_some] <;> rfl) | (simp only [← hji4]; first | rfl | (simp [errW_none, errW_some] <;> rfl)) | (simp [*, errW_none, errW_some] <;> rfl), by (with_reducible repeat (first | apply Kd.R_alloc | apply Kd.R_drewN | apply Kd.R_drew)); exact HO_5.out, by repeat (first | (with_reducible first | exact HB.out | apply below_alloc | apply pw_below_drewN | apply below_drew1) | exact HB.out)⟩
  · rw [if_neg c3] at H
    have c3b0 := beq_eq_false_iff_ne.mpr c3
    have c3b1 := bne_iff_ne.mpr c3
    simp only [Option.some.injEq, Prod.mk.injEq] at H
    obtain ⟨rfl, rfl⟩ := H
    go_enter Try.func57, Try.ntmps57
    go_wp2_with (first | ((with_reducible refine gate_callee (f := 112) rfl ?_); refine gl (some 16) Try.func112 #[.slice A0 l0.length c0] ?_; (with_reducible refine (L_readingsErr.calls k _ _ l0 t1305 _ ?side1 ?side2 A2.out).mono ?_); (case side1 => repeat (first | exact HR0.out | (with_reducible refine Kd.C_alloc ?_ _) | (with_reducible refine Kd.C_drewN ?_ _) | (with_reducible refine Kd.C_drew ?_))); (case side2 => exact HC0.out); rintro e w65 ⟨rfl, hb⟩; refine ⟨_, rfl, ?_⟩; replace HB := sb HB hb; (try clear hb)))
    go_ret2
    exact ⟨_, by first | rfl | (simp [errW_none, errW_some] <;> rfl) | (simp [*, errW_none, errW_some] <;> rfl), by first | exact Kd.R_nil _ _ _ _ _ | exact Kd.N_nil _ _ _ _ _ | exact Kd.V_nil _ _ _ _ _ | exact Kd.Q_nil _ _ _ _ _ | exact Kd.S_nil _ _ _ _ _, by repeat (first | (with_reducible first | exact HB.out | apply below_alloc | apply pw_below_drewN | apply below_drew1) | exact HB.out)⟩
end
section
def Lw_fits.f (a0_0 : Int) (a0_1 : Int) (a0_2 : Int) (a1 : Int) : Option (Int) := (Bs_Within.f (wrap64 (a0_0 + a1)) (wrap64 (a0_1 - a0_2)) (wrap64 (a0_1 + a0_2))).bind fun t1419 => (if t1419 = true then (some 1) else (some 0))
theorem Lw_fits.calls (a0_0 : Int) (a0_1 : Int) (a0_2 : Int) (a1 : Int) (r : Int) (w : World) (h : Lw_fits.f a0_0 a0_1 a0_2 a1 = some r) :
  Calls Try.prog 62 #[.agg #[.int .i64 a0_0, .int .i64 a0_1, .int .i64 a0_2], .int .i64 a1] w fun e w' => e = .returned (.int .i64 r) ∧ Below w.heap.size w w' := by
 have hu85 := Try.underlying85
 have HB := m0 (Below.refl w.heap.size w)
 have H : ((Bs_Within.f (wrap64 (a0_0 + a1)) (wrap64 (a0_1 - a0_2)) (wrap64 (a0_1 + a0_2))).bind fun t1419 => (if t1419 = true then (some 1) else (some 0))) = some r := h
 clear h
 replace H := ob H
 obtain ⟨t1419, A3, H⟩ := H
 (try dsimp only at H)
 replace A3 := m0 A3
 by_cases c4 : t1419 = true
 ·subst c4
  rw [if_pos rfl] at H
  obtain rfl := Option.some.inj H
  go_enter Try.func62, Try.ntmps62
  go_wp2_with (first | ((with_reducible refine gate_dst (N := 2) rfl ?_); refine be 2 85 #[.int .i64 a0_0, .int .i64 a0_1, .int .i64 a0_2] ?_; intro gb1418 hg w5 hbox hb; have BK1418 := m0 hbox; have GE1418 := gw w hg; replace HB := sb HB hb; clear hb hbox hg; obtain ⟨_, _, _, _, _, _⟩ := b3 BK1418) | ((with_reducible refine gate_callee (f := 24) rfl ?_); refine gl (some 19) Try.func24 #[.int .i64 (wrap64 (a0_0 + a1)), .int .i64 (wrap64 (a0_1 - a0_2)), .int .i64 (wrap64 (a0_1 + a0_2))] ?_; (with_reducible refine (Bs_Within.calls (wrap64 (a0_0 + a1)) (wrap64 (a0_1 - a0_2)) (wrap64 (a0_1 + a0_2)) true _ A3.out).mono ?_); rintro e w' ⟨rfl, ⟨nd, rfl⟩⟩; refine ⟨_, rfl, ?_⟩))
  go_ret
  exact ez
 ·replace c4 := Bool.eq_false_iff.mpr c4
  subst c4
  rw [if_neg (show ¬ (false = true) by decide)] at H
  obtain rfl := Option.some.inj H
  go_enter Try.func62, Try.ntmps62
  go_wp2_with (first | ((with_reducible refine gate_dst (N := 2) rfl ?_); refine be 2 85 #[.int .i64 a0_0, .int .i64 a0_1, .int .i64 a0_2] ?_; intro gb1418 hg w7 hbox hb; have BK1418 := m0 hbox; have GE1418 := gw w hg; replace HB := sb HB hb; clear hb hbox hg; obtain ⟨_, _, _, _, _, _⟩ := b3 BK1418) | ((with_reducible refine gate_callee (f := 24) rfl ?_); refine gl (some 19) Try.func24 #[.int .i64 (wrap64 (a0_0 + a1)), .int .i64 (wrap64 (a0_1 - a0_2)), .int .i64 (wrap64 (a0_1 + a0_2))] ?_; (with_reducible refine (Bs_Within.calls (wrap64 (a0_0 + a1)) (wrap64 (a0_1 - a0_2)) (wrap64 (a0_1 + a0_2)) false _ A3.out).mono ?_); rintro e w' ⟨rfl, ⟨nd, rfl⟩⟩; refine ⟨_, rfl, ?_⟩))
  go_ret
  exact ez
end
end Go.Proofs.Ytibhfahbabgbaaa.A
