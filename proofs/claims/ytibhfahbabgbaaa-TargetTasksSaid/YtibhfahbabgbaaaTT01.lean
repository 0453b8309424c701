/- Walks of the program's functions (printed, made shorter), each with what it computes. -/
import Derived.Test.YtibhfahbabgbaaaB05
import Derived.Test.YtibhfahbabgbaaaB04
namespace Go.Proofs.Ytibhfahbabgbaaa.A
set_option maxHeartbeats 8000000
set_option maxRecDepth 100000
open Go.RowKit Go.Proofs.YtibhfahbabgbaaaW.PrintWords Go.Proofs.YtibhfahbabgbaaaW.PrintLast Go.Proofs.YtibhfahbabgbaaaW.PrintMore
attribute [local go_sem] max2_int min2_int max_two min_two max_three min_three max_four min_four
set_option linter.unusedVariables false
set_option linter.unusedSimpArgs false
section
def Rf_CopyTasks.f (l0 : List (S42)) : Option ((List (S42))) := (some (([] : List (S42)) : List (S42))).bind fun y335 => (if y335.length + l0.length < 4398046511104 then (some (y335 ++ l0)) else (none))
theorem Rf_CopyTasks.calls (A0 : Option Addr) (c0 : Nat) (l0 : List (S42)) (r : List (S42)) (w : World) (hr0 : Kd.C k42 w A0 l0.length l0) (hc0 : l0.length ≤ c0) (h : Rf_CopyTasks.f l0 = some r) :
  Calls Try.prog 16 #[.slice A0 l0.length c0] w fun e w' => ∃ v0_ : Value, e = .returned (v0_) ∧ Kd.R k42 42 w' w.heap.size (fun _ => True) v0_ r ∧ Below w.heap.size w w' := by
 have HR0 := m0 hr0
 have HC0 := m0 hc0
 clear hr0 hc0
 have HB := m0 (Below.refl w.heap.size w)
 have H : ((some (([] : List (S42)) : List (S42))).bind fun y335 => (if y335.length + l0.length < 4398046511104 then (some (y335 ++ l0)) else (none))) = some r := h
 clear h
 obtain ⟨y335, hy335⟩ : ∃ y_ : List (S42), y_ = (([] : List (S42))) := ⟨_, rfl⟩
 replace H : (if y335.length + l0.length < 4398046511104 then (some (y335 ++ l0)) else (none)) = some r := by first | (rw [hy335]; with_reducible exact H) | (have H2_ := (Option.bind_some _ _).symm.trans H; rw [hy335]; with_reducible exact H2_) | (have H2_ := (Option.bind_some _ _).symm.trans H; with_reducible exact H2_) | with_reducible exact H | (rw [hy335]; exact H) | exact H
 have Ny335 := m0 hy335
 clear hy335
 by_cases c2 : y335.length + l0.length < 4398046511104
 ·rw [if_pos c2] at H
  have LMc2 := m0 c2
  clear c2
  obtain ⟨y338, hy338⟩ : ∃ y_ : List (S42), y_ = (y335 ++ l0) := ⟨_, rfl⟩
  replace H : (some y338) = some r := by first | (rw [hy338]; with_reducible exact H) | (have H2_ := (Option.bind_some _ _).symm.trans H; rw [hy338]; with_reducible exact H2_) | (have H2_ := (Option.bind_some _ _).symm.trans H; with_reducible exact H2_) | with_reducible exact H | (rw [hy338]; exact H) | exact H
  have Ny338 := m0 hy338
  clear hy338
  obtain rfl := Option.some.inj H
  go_enter Try.func16, Try.ntmps16
  go_wp2_with (first | ((with_reducible refine gate_dst (N := 3) rfl ?_); refine Kd.R_lit k42 _ 42 ?hg (N := 3) ?hd (xs := ([] : List (S42))) (inner := []) (ok := fun _ => True) (okp := fun _ => True) ?hr ?hp (fun _ hk => hk) trivial (Below.refl _ _) (Nat.le_refl _) (by simp) ?_; (case hd => rfl); (case hg => rfl); (case hr => first | (go_simp; done) | (go_simp; rfl)); (case hp => exact (Reps.none _ _)); intro v336 w3 ho4 hb hg_ hnew_; clear hg_ hnew_; (first | rw [← Ny335.out] at ho4 | (simp only [Int.reduceToNat] at ho4; rw [← Ny335.out] at ho4)); have HO337 := m0 (Kd.R_lower ho4 (below_size bz)); replace HB := sb HB hb; clear hb ho4) | ((with_reducible refine gate_builtin (b := .append) (xs := #[.tmp 3, .tmp 4]) rfl ?_); at_builtin; refine Kd.R_append_rows k42 (w0 := w) w.heap.size rfl (.tmp 3) (.tmp 4) 22 42 (.agg #[(.string ⟨#[]⟩), (.int .i64 0), (.int .i64 0)]) 32 rfl Try.underlying22 info42 rfl (by decide) (by omega) v336 y335 l0 _ _ _ (fun _ => True) (fun _ => False) rfl rfl ?aO ?aR (fun _ _ h => h) (fun _ h => h.elim) ?aF ?aB ?aS ?aL ?_; (case aR => exact cb HR0 HB); (case aB => exact bz); (case aF => exact (fun _ _ => trivial)); (case aO => exact (br HO337.out)); (case aS => exact (below_size bz)); (case aL => have := LMc2.out; omega); intro v339 w5 ho hb hg hat; rw [← Ny338.out] at ho; have n0_ := m0 (hb); have n1_ := m0 (ho); clear HB; clear HO337; have HB := n0_; have HO340 := n1_; clear n0_ n1_; clear ho hb hg hat))
  go_ret
  exact ⟨_, by first | rfl | (simp [errW_none, errW_some] <;> rfl) | (simp [*, errW_none, errW_some] <;> rfl), by (with_reducible repeat (first | apply Kd.R_alloc | apply Kd.R_drewN | apply Kd.R_drew)); exact HO340.out, by repeat (first | (with_reducible first | exact HB.out | apply below_alloc | apply pw_below_drewN | apply below_drew1) | exact HB.out)⟩
 ·rw [if_neg c2] at H
  exact absurd H (by simp)
end
section
def Bs_Within.f (a0 : Int) (a1 : Int) (a2 : Int) : Option (Bool) := if a1 ≤ a0 then (some (decide (a0 ≤ a2))) else (some false)
theorem Bs_Within.calls (a0 : Int) (a1 : Int) (a2 : Int) (r : Bool) (w : World) (h : Bs_Within.f a0 a1 a2 = some r) :
  Calls Try.prog 24 #[.int .i64 a0, .int .i64 a1, .int .i64 a2] w fun e w' => e = .returned (.bool r) ∧ Drawn0 w w' := by
 have H : (if a1 ≤ a0 then (some (decide (a0 ≤ a2))) else (some false)) = some r := h
 clear h
 by_cases c4 : a1 ≤ a0
 ·rw [if_pos c4] at H
  have c4b0 := decide_eq_true c4
  clear c4
  obtain rfl := Option.some.inj H
  go_enter Try.func24, Try.ntmps24
  go_wp2
  go_ret
  exact ⟨by first | rfl | (simp; done) | (simp [*]; done), by repeat (first | exact Drawn0.refl _ | apply Drawn0.step)⟩
 ·rw [if_neg c4] at H
  have c4b0 := decide_eq_false c4
  clear c4
  obtain rfl := Option.some.inj H
  go_enter Try.func24, Try.ntmps24
  go_wp2
  go_ret
  exact ⟨by first | rfl | (simp; done) | (simp [*]; done), by repeat (first | exact Drawn0.refl _ | apply Drawn0.step)⟩
end
section
mutual
def Bs_IsName.j0 : Nat → ByteArray → Bool → Option (Bool)
  | 0, _, _ => none
  | k + 1, x0, x13 => if x13 = true then (some false) else (Bs_IsName.l0 k x0 0)
def Bs_IsName.l0 : Nat → ByteArray → Int → Option (Bool)
  | 0, _, _ => none
  | k + 1, x0, x3 => if x3 < (x0.size : Int) then (if 0 ≤ x3 then (if (bt x0 x3) ≥ 97 then (if (bt x0 x3) ≤ 122 then (Bs_IsName.l0 k x0 (wrap64 (x3 + 1))) else (if (bt x0 x3) ≥ 65 then (if ((bt x0 x3) ≤ 90) then (Bs_IsName.l0 k x0 (wrap64 (x3 + 1))) else (if x3 = 0 then (some false) else (if (bt x0 x3) = 45 then (Bs_IsName.l0 k x0 (wrap64 (x3 + 1))) else (if (bt x0 x3) < 48 then (some false) else (if (bt x0 x3) > 57 then (some false) else (Bs_IsName.l0 k x0 (wrap64 (x3 + 1)))))))) else (if x3 = 0 then (some false) else (if (bt x0 x3) = 45 then (Bs_IsName.l0 k x0 (wrap64 (x3 + 1))) else (if (bt x0 x3) < 48 then (some false) else (if (bt x0 x3) > 57 then (some false) else (Bs_IsName.l0 k x0 (wrap64 (x3 + 1))))))))) else (if (bt x0 x3) ≥ 65 then (if ((bt x0 x3) ≤ 90) then (Bs_IsName.l0 k x0 (wrap64 (x3 + 1))) else (if x3 = 0 then (some false) else (if (bt x0 x3) = 45 then (Bs_IsName.l0 k x0 (wrap64 (x3 + 1))) else (if (bt x0 x3) < 48 then (some false) else (if (bt x0 x3) > 57 then (some false) else (Bs_IsName.l0 k x0 (wrap64 (x3 + 1)))))))) else (if x3 = 0 then (some false) else (if (bt x0 x3) = 45 then (Bs_IsName.l0 k x0 (wrap64 (x3 + 1))) else (if (bt x0 x3) < 48 then (some false) else (if (bt x0 x3) > 57 then (some false) else (Bs_IsName.l0 k x0 (wrap64 (x3 + 1))))))))) else (none)) else (some true)
end
def Bs_IsName.f (k : Nat) (a0 : ByteArray) : Option (Bool) := if (a0.size : Int) < 1 then (Bs_IsName.j0 k a0 true) else (Bs_IsName.j0 k a0 (decide ((a0.size : Int) > 12)))
theorem Bs_IsName.mono_l : ∀ k, (∀ y0 y1, LeO (Bs_IsName.j0 k y0 y1) (Bs_IsName.j0 (k + 1) y0 y1)) ∧ (∀ y0 y1, LeO (Bs_IsName.l0 k y0 y1) (Bs_IsName.l0 (k + 1) y0 y1))
  | 0 => ⟨fun _ _ r h => by simp [Bs_IsName.j0] at h, fun _ _ r h => by simp [Bs_IsName.l0] at h⟩
  | k + 1 => by
    obtain ⟨ih0, ih1⟩ := Bs_IsName.mono_l k
    refine ⟨?_, ?_⟩
    · intro y0 y1
      unfold Bs_IsName.j0
      repeat' with_reducible first
        | exact ih0 ..
        | exact ih1 ..
        | exact LeO.refl ..
        | exact LeO.none ..
        | refine LeO.ite ?_ ?_
        | refine LeO.bind ?_ (fun _ => ?_)
    · intro y0 y1
      unfold Bs_IsName.l0
      repeat' with_reducible first
        | exact ih0 ..
        | exact ih1 ..
        | exact LeO.refl ..
        | exact LeO.none ..
        | refine LeO.ite ?_ ?_
        | refine LeO.bind ?_ (fun _ => ?_)
theorem Bs_IsName.mono : ∀ a0 k, LeO (Bs_IsName.f k a0) (Bs_IsName.f (k + 1) a0) := by
  intro a0 k
  obtain ⟨ih0, ih1⟩ := Bs_IsName.mono_l k
  unfold Bs_IsName.f
  repeat' with_reducible first
    | exact ih0 ..
    | exact ih1 ..
    | exact LeO.refl ..
    | exact LeO.none ..
    | refine LeO.ite ?_ ?_
    | refine LeO.bind ?_ (fun _ => ?_)
theorem Bs_IsName.calls (k : Nat) (a0 : ByteArray) (r : Bool) (w : World) (h : Bs_IsName.f k a0 = some r) :
    Calls Try.prog 81 #[.string a0] w fun e w' => e = .returned (.bool r) ∧ Drawn0 w w' := by
  have H : (if (a0.size : Int) < 1 then (Bs_IsName.j0 k a0 true) else (Bs_IsName.j0 k a0 (decide ((a0.size : Int) > 12)))) = some r := h
  clear h
  have HC2 := m0 H
  clear H
  go_enter Try.func81, Try.ntmps81
  go_upto_region 1 with (fail)
  go_cut [13] (fun v13 wc => ∃ (kq : Nat) (x13_1 : Bool), v13 = .bool x13_1 ∧ Aside0 (Bs_IsName.j0 kq a0 x13_1 = some r) ∧ Aside0 (kq ≤ k) ∧ Drawn0 w wc)
  case first =>
    have H := HC2.out
    clear HC2
    by_cases c3 : (a0.size : Int) < 1
    · rw [if_pos c3] at H
      have c3b0 := decide_eq_true c3
      have c3b1 : decide (a0.size < 1) = true := decide_eq_true (by omega)
      clear c3
      (first | rw [c3b0] | (simp only [i64_w, i32_w]; rw [c3b0]) | skip)
      have H' := m0 H
      clear H
      go_wp2
      go_meet
      case rel => exact ⟨_, (true), (by first | rfl | (simp; done) | (simp [*]; done)), H', ⟨by first | omega | exact Nat.le_refl _⟩, by repeat (first | exact Drawn0.refl _ | apply Drawn0.step)⟩
    · rw [if_neg c3] at H
      have c3b0 := decide_eq_false c3
      have c3b1 : decide (a0.size < 1) = false := decide_eq_false (by omega)
      clear c3
      (first | rw [c3b0] | (simp only [i64_w, i32_w]; rw [c3b0]) | skip)
      have H' := m0 H
      clear H
      go_wp2
      go_meet
      case rel => exact ⟨_, (decide ((a0.size : Int) > 12)), (by first | rfl | (simp; done) | (simp [*]; done)), H', ⟨by first | omega | exact Nat.le_refl _⟩, by repeat (first | exact Drawn0.refl _ | apply Drawn0.step)⟩
  case rest =>
    clear HC2
    obtain ⟨kq, x13_1, rfl, HA, HJ1, ⟨mc1, rfl⟩⟩ := hcut
    cases kq with
    | zero => exact absurd HA.out (by simp [Bs_IsName.j0])
    | succ kj1 =>
      have H := HA.out
      clear HA
      simp only [Bs_IsName.j0] at H
      by_cases c4 : x13_1 = true
      · subst c4
        rw [if_pos rfl] at H
        obtain rfl := Option.some.inj H
        go_wp2
        go_ret
        exact ⟨by first | rfl | (simp; done) | (simp [*]; done), by repeat (first | exact Drawn0.refl _ | apply Drawn0.step)⟩
      · replace c4 := Bool.eq_false_iff.mpr c4
        subst c4
        rw [if_neg (show ¬ (false = true) by decide)] at H
        have H' := m0 H
        clear H
        go_wp2
        go_loopg [3] kj1 (fun kq v3 w' => ∃ (x3_2 : Int), v3 = .int .i64 x3_2 ∧ Aside0 (Bs_IsName.l0 kq a0 x3_2 = some r) ∧ Aside0 (kq ≤ kj1) ∧ Drawn0 w w')
        case atStart => exact ⟨(0), (by first | rfl | (simp; done) | (simp [*]; done)), H', ⟨Nat.le_refl _⟩, by repeat (first | exact Drawn0.refl _ | apply Drawn0.step)⟩
        case round =>
          clear H'
          obtain ⟨x3_2, rfl, HA, HK2, ⟨m2, rfl⟩⟩ := hrel
          cases gk with
          | zero => exact absurd HA.out (by simp [Bs_IsName.l0])
          | succ k2 =>
            have H := HA.out
            clear HA
            simp only [Bs_IsName.l0] at H
            by_cases c5 : x3_2 < (a0.size : Int)
            · rw [if_pos c5] at H
              have c5b0 := decide_eq_true c5
              clear c5
              by_cases c6 : 0 ≤ x3_2
              · rw [if_pos c6] at H
                have c6b0 := decide_eq_true c6
                clear c6
                by_cases c8 : (bt a0 x3_2) ≥ 97
                · rw [if_pos c8] at H
                  have c8b0 := decide_eq_true c8
                  clear c8
                  by_cases c9 : (bt a0 x3_2) ≤ 122
                  · rw [if_pos c9] at H
                    have c9b0 := decide_eq_true c9
                    clear c9
                    have H' := m0 H
                    clear H
                    have p7 : 0 ≤ (x3_2 : Int) := od
                    have q7 : x3_2 < (a0.size : Int) := od
                    have hx7 := bt_at a0 x3_2
                    replace p7 := eq_true p7
                    replace q7 := eq_true q7
                    go_wp2
                    go_roundg k2
                    case measure => have := HJ1.out; have := HK2.out; omega
                    case rel => exact ⟨(wrap64 (x3_2 + 1)), (by first | rfl | (simp; done) | (simp [*]; done)), H', ⟨by have := HJ1.out; have := HK2.out; omega⟩, by repeat (first | exact Drawn0.refl _ | apply Drawn0.step)⟩
                  · rw [if_neg c9] at H
                    have c9b0 := decide_eq_false c9
                    clear c9
                    by_cases c10 : (bt a0 x3_2) ≥ 65
                    · rw [if_pos c10] at H
                      have c10b0 := decide_eq_true c10
                      clear c10
                      by_cases c11 : ((bt a0 x3_2) ≤ 90)
                      · rw [if_pos c11] at H
                        have c11b0 := decide_eq_true c11
                        clear c11
                        have H' := m0 H
                        clear H
                        have p7 : 0 ≤ (x3_2 : Int) := od
                        have q7 : x3_2 < (a0.size : Int) := od
                        have hx7 := bt_at a0 x3_2
                        replace p7 := eq_true p7
                        replace q7 := eq_true q7
                        go_wp2
                        go_roundg k2
                        case measure => have := HJ1.out; have := HK2.out; omega
                        case rel => exact ⟨(wrap64 (x3_2 + 1)), (by first | rfl | (simp; done) | (simp [*]; done)), H', ⟨by have := HJ1.out; have := HK2.out; omega⟩, by repeat (first | exact Drawn0.refl _ | apply Drawn0.step)⟩
                      · rw [if_neg c11] at H
                        have c11b0 := decide_eq_false c11
                        clear c11
                        by_cases c12 : x3_2 = 0
                        · rw [if_pos c12] at H
                          have c12b0 := beq_iff_eq.mpr c12
                          have c12b1 := bne_eq_false_iff_eq.mpr c12
                          clear c12
                          obtain rfl := Option.some.inj H
                          have p7 : 0 ≤ (x3_2 : Int) := od
                          have q7 : x3_2 < (a0.size : Int) := od
                          have hx7 := bt_at a0 x3_2
                          replace p7 := eq_true p7
                          replace q7 := eq_true q7
                          go_wp2
                          go_ret
                          exact ⟨by first | rfl | (simp; done) | (simp [*]; done), by repeat (first | exact Drawn0.refl _ | apply Drawn0.step)⟩
                        · rw [if_neg c12] at H
                          have c12b0 := beq_eq_false_iff_ne.mpr c12
                          have c12b1 := bne_iff_ne.mpr c12
                          by_cases c13 : (bt a0 x3_2) = 45
                          · rw [if_pos c13] at H
                            have c13b0 := beq_iff_eq.mpr c13
                            have c13b1 := bne_eq_false_iff_eq.mpr c13
                            clear c13
                            have H' := m0 H
                            clear H
                            have p7 : 0 ≤ (x3_2 : Int) := od
                            have q7 : x3_2 < (a0.size : Int) := od
                            have hx7 := bt_at a0 x3_2
                            replace p7 := eq_true p7
                            replace q7 := eq_true q7
                            go_wp2
                            go_roundg k2
                            case measure => have := HJ1.out; have := HK2.out; omega
                            case rel => exact ⟨(wrap64 (x3_2 + 1)), (by first | rfl | (simp; done) | (simp [*]; done)), H', ⟨by have := HJ1.out; have := HK2.out; omega⟩, by repeat (first | exact Drawn0.refl _ | apply Drawn0.step)⟩
                          · rw [if_neg c13] at H
                            have c13b0 := beq_eq_false_iff_ne.mpr c13
                            have c13b1 := bne_iff_ne.mpr c13
                            by_cases c14 : (bt a0 x3_2) < 48
                            · rw [if_pos c14] at H
                              have c14b0 := decide_eq_true c14
                              clear c14
                              obtain rfl := Option.some.inj H
                              have p7 : 0 ≤ (x3_2 : Int) := od
                              have q7 : x3_2 < (a0.size : Int) := od
                              have hx7 := bt_at a0 x3_2
                              replace p7 := eq_true p7
                              replace q7 := eq_true q7
                              go_wp2
                              go_ret
                              exact ⟨by first | rfl | (simp; done) | (simp [*]; done), by repeat (first | exact Drawn0.refl _ | apply Drawn0.step)⟩
                            · rw [if_neg c14] at H
                              have c14b0 := decide_eq_false c14
                              clear c14
                              by_cases c15 : (bt a0 x3_2) > 57
                              · rw [if_pos c15] at H
                                have c15b0 := decide_eq_true c15
                                clear c15
                                obtain rfl := Option.some.inj H
                                have p7 : 0 ≤ (x3_2 : Int) := od
                                have q7 : x3_2 < (a0.size : Int) := od
                                have hx7 := bt_at a0 x3_2
                                replace p7 := eq_true p7
                                replace q7 := eq_true q7
                                go_wp2
                                go_ret
                                exact ⟨by first | rfl | (simp; done) | (simp [*]; done), by repeat (first | exact Drawn0.refl _ | apply Drawn0.step)⟩
                              · rw [if_neg c15] at H
                                have c15b0 := decide_eq_false c15
                                clear c15
                                have H' := m0 H
                                clear H
                                have p7 : 0 ≤ (x3_2 : Int) := od
                                have q7 : x3_2 < (a0.size : Int) := od
                                have hx7 := bt_at a0 x3_2
                                replace p7 := eq_true p7
                                replace q7 := eq_true q7
                                go_wp2
                                go_roundg k2
                                case measure => have := HJ1.out; have := HK2.out; omega
                                case rel => exact ⟨(wrap64 (x3_2 + 1)), (by first | rfl | (simp; done) | (simp [*]; done)), H', ⟨by have := HJ1.out; have := HK2.out; omega⟩, by repeat (first | exact Drawn0.refl _ | apply Drawn0.step)⟩
                    · rw [if_neg c10] at H
                      have c10b0 := decide_eq_false c10
                      clear c10
                      by_cases c16 : x3_2 = 0
                      · rw [if_pos c16] at H
                        have c16b0 := beq_iff_eq.mpr c16
                        have c16b1 := bne_eq_false_iff_eq.mpr c16
                        clear c16
                        obtain rfl := Option.some.inj H
                        have p7 : 0 ≤ (x3_2 : Int) := od
                        have q7 : x3_2 < (a0.size : Int) := od
                        have hx7 := bt_at a0 x3_2
                        replace p7 := eq_true p7
                        replace q7 := eq_true q7
                        go_wp2
                        go_ret
                        exact ⟨by first | rfl | (simp; done) | (simp [*]; done), by repeat (first | exact Drawn0.refl _ | apply Drawn0.step)⟩
                      · rw [if_neg c16] at H
                        have c16b0 := beq_eq_false_iff_ne.mpr c16
                        have c16b1 := bne_iff_ne.mpr c16
                        by_cases c17 : (bt a0 x3_2) = 45
                        · rw [if_pos c17] at H
                          have c17b0 := beq_iff_eq.mpr c17
                          have c17b1 := bne_eq_false_iff_eq.mpr c17
                          clear c17
                          have H' := m0 H
                          clear H
                          have p7 : 0 ≤ (x3_2 : Int) := od
                          have q7 : x3_2 < (a0.size : Int) := od
                          have hx7 := bt_at a0 x3_2
                          replace p7 := eq_true p7
                          replace q7 := eq_true q7
                          go_wp2
                          go_roundg k2
                          case measure => have := HJ1.out; have := HK2.out; omega
                          case rel => exact ⟨(wrap64 (x3_2 + 1)), (by first | rfl | (simp; done) | (simp [*]; done)), H', ⟨by have := HJ1.out; have := HK2.out; omega⟩, by repeat (first | exact Drawn0.refl _ | apply Drawn0.step)⟩
                        · rw [if_neg c17] at H
                          have c17b0 := beq_eq_false_iff_ne.mpr c17
                          have c17b1 := bne_iff_ne.mpr c17
                          by_cases c18 : (bt a0 x3_2) < 48
                          · rw [if_pos c18] at H
                            have c18b0 := decide_eq_true c18
                            clear c18
                            obtain rfl := Option.some.inj H
                            have p7 : 0 ≤ (x3_2 : Int) := od
                            have q7 : x3_2 < (a0.size : Int) := od
                            have hx7 := bt_at a0 x3_2
                            replace p7 := eq_true p7
                            replace q7 := eq_true q7
                            go_wp2
                            go_ret
                            exact ⟨by first | rfl | (simp; done) | (simp [*]; done), by repeat (first | exact Drawn0.refl _ | apply Drawn0.step)⟩
                          · rw [if_neg c18] at H
                            have c18b0 := decide_eq_false c18
                            clear c18
                            by_cases c19 : (bt a0 x3_2) > 57
                            · rw [if_pos c19] at H
                              have c19b0 := decide_eq_true c19
                              clear c19
                              obtain rfl := Option.some.inj H
                              have p7 : 0 ≤ (x3_2 : Int) := od
                              have q7 : x3_2 < (a0.size : Int) := od
                              have hx7 := bt_at a0 x3_2
                              replace p7 := eq_true p7
                              replace q7 := eq_true q7
                              go_wp2
                              go_ret
                              exact ⟨by first | rfl | (simp; done) | (simp [*]; done), by repeat (first | exact Drawn0.refl _ | apply Drawn0.step)⟩
                            · rw [if_neg c19] at H
                              have c19b0 := decide_eq_false c19
                              clear c19
                              have H' := m0 H
                              clear H
                              have p7 : 0 ≤ (x3_2 : Int) := od
                              have q7 : x3_2 < (a0.size : Int) := od
                              have hx7 := bt_at a0 x3_2
                              replace p7 := eq_true p7
                              replace q7 := eq_true q7
                              go_wp2
                              go_roundg k2
                              case measure => have := HJ1.out; have := HK2.out; omega
                              case rel => exact ⟨(wrap64 (x3_2 + 1)), (by first | rfl | (simp; done) | (simp [*]; done)), H', ⟨by have := HJ1.out; have := HK2.out; omega⟩, by repeat (first | exact Drawn0.refl _ | apply Drawn0.step)⟩
                · rw [if_neg c8] at H
                  have c8b0 := decide_eq_false c8
                  clear c8
                  by_cases c20 : (bt a0 x3_2) ≥ 65
                  · rw [if_pos c20] at H
                    have c20b0 := decide_eq_true c20
                    clear c20
                    by_cases c21 : ((bt a0 x3_2) ≤ 90)
                    · rw [if_pos c21] at H
                      have c21b0 := decide_eq_true c21
                      clear c21
                      have H' := m0 H
                      clear H
                      have p7 : 0 ≤ (x3_2 : Int) := od
                      have q7 : x3_2 < (a0.size : Int) := od
                      have hx7 := bt_at a0 x3_2
                      replace p7 := eq_true p7
                      replace q7 := eq_true q7
                      go_wp2
                      go_roundg k2
                      case measure => have := HJ1.out; have := HK2.out; omega
                      case rel => exact ⟨(wrap64 (x3_2 + 1)), (by first | rfl | (simp; done) | (simp [*]; done)), H', ⟨by have := HJ1.out; have := HK2.out; omega⟩, by repeat (first | exact Drawn0.refl _ | apply Drawn0.step)⟩
                    · rw [if_neg c21] at H
                      have c21b0 := decide_eq_false c21
                      clear c21
                      by_cases c22 : x3_2 = 0
                      · rw [if_pos c22] at H
                        have c22b0 := beq_iff_eq.mpr c22
                        have c22b1 := bne_eq_false_iff_eq.mpr c22
                        clear c22
                        obtain rfl := Option.some.inj H
                        have p7 : 0 ≤ (x3_2 : Int) := od
                        have q7 : x3_2 < (a0.size : Int) := od
                        have hx7 := bt_at a0 x3_2
                        replace p7 := eq_true p7
                        replace q7 := eq_true q7
                        go_wp2
                        go_ret
                        exact ⟨by first | rfl | (simp; done) | (simp [*]; done), by repeat (first | exact Drawn0.refl _ | apply Drawn0.step)⟩
                      · rw [if_neg c22] at H
                        have c22b0 := beq_eq_false_iff_ne.mpr c22
                        have c22b1 := bne_iff_ne.mpr c22
                        by_cases c23 : (bt a0 x3_2) = 45
                        · rw [if_pos c23] at H
                          have c23b0 := beq_iff_eq.mpr c23
                          have c23b1 := bne_eq_false_iff_eq.mpr c23
                          clear c23
                          have H' := m0 H
                          clear H
                          have p7 : 0 ≤ (x3_2 : Int) := od
                          have q7 : x3_2 < (a0.size : Int) := od
                          have hx7 := bt_at a0 x3_2
                          replace p7 := eq_true p7
                          replace q7 := eq_true q7
                          go_wp2
                          go_roundg k2
                          case measure => have := HJ1.out; have := HK2.out; omega
                          case rel => exact ⟨(wrap64 (x3_2 + 1)), (by first | rfl | (simp; done) | (simp [*]; done)), H', ⟨by have := HJ1.out; have := HK2.out; omega⟩, by repeat (first | exact Drawn0.refl _ | apply Drawn0.step)⟩
                        · rw [if_neg c23] at H
                          have c23b0 := beq_eq_false_iff_ne.mpr c23
                          have c23b1 := bne_iff_ne.mpr c23
                          by_cases c24 : (bt a0 x3_2) < 48
                          · rw [if_pos c24] at H
                            have c24b0 := decide_eq_true c24
                            clear c24
                            obtain rfl := Option.some.inj H
                            have p7 : 0 ≤ (x3_2 : Int) := od
                            have q7 : x3_2 < (a0.size : Int) := od
                            have hx7 := bt_at a0 x3_2
                            replace p7 := eq_true p7
                            replace q7 := eq_true q7
                            go_wp2
                            go_ret
                            exact ⟨by first | rfl | (simp; done) | (simp [*]; done), by repeat (first | exact Drawn0.refl _ | apply Drawn0.step)⟩
                          · rw [if_neg c24] at H
                            have c24b0 := decide_eq_false c24
                            clear c24
                            by_cases c25 : (bt a0 x3_2) > 57
                            · rw [if_pos c25] at H
                              have c25b0 := decide_eq_true c25
                              clear c25
                              obtain rfl := Option.some.inj H
                              have p7 : 0 ≤ (x3_2 : Int) := od
                              have q7 : x3_2 < (a0.size : Int) := od
                              have hx7 := bt_at a0 x3_2
                              replace p7 := eq_true p7
                              replace q7 := eq_true q7
                              go_wp2
                              go_ret
                              exact ⟨by first | rfl | (simp; done) | (simp [*]; done), by repeat (first | exact Drawn0.refl _ | apply Drawn0.step)⟩
                            · rw [if_neg c25] at H
                              have c25b0 := decide_eq_false c25
                              clear c25
                              have H' := m0 H
                              clear H
                              have p7 : 0 ≤ (x3_2 : Int) := od
                              have q7 : x3_2 < (a0.size : Int) := od
                              have hx7 := bt_at a0 x3_2
                              replace p7 := eq_true p7
                              replace q7 := eq_true q7
                              go_wp2
                              go_roundg k2
                              case measure => have := HJ1.out; have := HK2.out; omega
                              case rel => exact ⟨(wrap64 (x3_2 + 1)), (by first | rfl | (simp; done) | (simp [*]; done)), H', ⟨by have := HJ1.out; have := HK2.out; omega⟩, by repeat (first | exact Drawn0.refl _ | apply Drawn0.step)⟩
                  · rw [if_neg c20] at H
                    have c20b0 := decide_eq_false c20
                    clear c20
                    by_cases c26 : x3_2 = 0
                    · rw [if_pos c26] at H
                      have c26b0 := beq_iff_eq.mpr c26
                      have c26b1 := bne_eq_false_iff_eq.mpr c26
                      clear c26
                      obtain rfl := Option.some.inj H
                      have p7 : 0 ≤ (x3_2 : Int) := od
                      have q7 : x3_2 < (a0.size : Int) := od
                      have hx7 := bt_at a0 x3_2
                      replace p7 := eq_true p7
                      replace q7 := eq_true q7
                      go_wp2
                      go_ret
                      exact ⟨by first | rfl | (simp; done) | (simp [*]; done), by repeat (first | exact Drawn0.refl _ | apply Drawn0.step)⟩
                    · rw [if_neg c26] at H
                      have c26b0 := beq_eq_false_iff_ne.mpr c26
                      have c26b1 := bne_iff_ne.mpr c26
                      by_cases c27 : (bt a0 x3_2) = 45
                      · rw [if_pos c27] at H
                        have c27b0 := beq_iff_eq.mpr c27
                        have c27b1 := bne_eq_false_iff_eq.mpr c27
                        clear c27
                        have H' := m0 H
                        clear H
                        have p7 : 0 ≤ (x3_2 : Int) := od
                        have q7 : x3_2 < (a0.size : Int) := od
                        have hx7 := bt_at a0 x3_2
                        replace p7 := eq_true p7
                        replace q7 := eq_true q7
                        go_wp2
                        go_roundg k2
                        case measure => have := HJ1.out; have := HK2.out; omega
                        case rel => exact ⟨(wrap64 (x3_2 + 1)), (by first | rfl | (simp; done) | (simp [*]; done)), H', ⟨by have := HJ1.out; have := HK2.out; omega⟩, by repeat (first | exact Drawn0.refl _ | apply Drawn0.step)⟩
                      · rw [if_neg c27] at H
                        have c27b0 := beq_eq_false_iff_ne.mpr c27
                        have c27b1 := bne_iff_ne.mpr c27
                        by_cases c28 : (bt a0 x3_2) < 48
                        · rw [if_pos c28] at H
                          have c28b0 := decide_eq_true c28
                          clear c28
                          obtain rfl := Option.some.inj H
                          have p7 : 0 ≤ (x3_2 : Int) := od
                          have q7 : x3_2 < (a0.size : Int) := od
                          have hx7 := bt_at a0 x3_2
                          replace p7 := eq_true p7
                          replace q7 := eq_true q7
                          go_wp2
                          go_ret
                          exact ⟨by first | rfl | (simp; done) | (simp [*]; done), by repeat (first | exact Drawn0.refl _ | apply Drawn0.step)⟩
                        · rw [if_neg c28] at H
                          have c28b0 := decide_eq_false c28
                          clear c28
                          by_cases c29 : (bt a0 x3_2) > 57
                          · rw [if_pos c29] at H
                            have c29b0 := decide_eq_true c29
                            clear c29
                            obtain rfl := Option.some.inj H
                            have p7 : 0 ≤ (x3_2 : Int) := od
                            have q7 : x3_2 < (a0.size : Int) := od
                            have hx7 := bt_at a0 x3_2
                            replace p7 := eq_true p7
                            replace q7 := eq_true q7
                            go_wp2
                            go_ret
                            exact ⟨by first | rfl | (simp; done) | (simp [*]; done), by repeat (first | exact Drawn0.refl _ | apply Drawn0.step)⟩
                          · rw [if_neg c29] at H
                            have c29b0 := decide_eq_false c29
                            clear c29
                            have H' := m0 H
                            clear H
                            have p7 : 0 ≤ (x3_2 : Int) := od
                            have q7 : x3_2 < (a0.size : Int) := od
                            have hx7 := bt_at a0 x3_2
                            replace p7 := eq_true p7
                            replace q7 := eq_true q7
                            go_wp2
                            go_roundg k2
                            case measure => have := HJ1.out; have := HK2.out; omega
                            case rel => exact ⟨(wrap64 (x3_2 + 1)), (by first | rfl | (simp; done) | (simp [*]; done)), H', ⟨by have := HJ1.out; have := HK2.out; omega⟩, by repeat (first | exact Drawn0.refl _ | apply Drawn0.step)⟩
              · rw [if_neg c6] at H
                exact absurd H (by simp)
            · rw [if_neg c5] at H
              have c5b0 := decide_eq_false c5
              clear c5
              obtain rfl := Option.some.inj H
              go_wp2
              go_ret
              exact ⟨by first | rfl | (simp; done) | (simp [*]; done), by repeat (first | exact Drawn0.refl _ | apply Drawn0.step)⟩
end
section
mutual
def Rf_CheckTasks.l0 : Nat → List (S42) → Int → Option (Int × Int)
  | 0, _, _ => none
  | k + 1, x0, x4 => if x4 < (x0.length : Int) then (if 0 ≤ x4 then ((Bs_IsName.f k ((rd_T42 x0 x4).f0)).bind fun t342 => (if t342 = true then (Rf_CheckTasks.l1 k x0 x4 0) else (some (x4, 4)))) else (none)) else (some (0, 0))
def Rf_CheckTasks.l1 : Nat → List (S42) → Int → Int → Option (Int × Int)
  | 0, _, _, _ => none
  | k + 1, x0, x4, x5 => if x5 < x4 then (if 0 ≤ x5 then (if x5 < (x0.length : Int) then (if 0 ≤ x4 then (if x4 < (x0.length : Int) then (if ((rd_T42 x0 x5).f0).toList = ((rd_T42 x0 x4).f0).toList then (some (x4, 5)) else (Rf_CheckTasks.l1 k x0 x4 (wrap64 (x5 + 1)))) else (none)) else (none)) else (none)) else (none)) else (if 0 ≤ x4 then (if x4 < (x0.length : Int) then ((Bs_Within.f ((rd_T42 x0 x4).f1) 0 1000).bind fun t346 => (if t346 = true then ((Bs_Within.f ((rd_T42 x0 x4).f2) 0 1000).bind fun t348 => (if t348 = true then (Rf_CheckTasks.l0 k x0 (wrap64 (x4 + 1))) else (some (x4, 2)))) else (some (x4, 2)))) else (none)) else (none))
end
def Rf_CheckTasks.f (k : Nat) (l0 : List (S42)) : Option (Int × Int) := if (l0.length : Int) > 10 then (some (0, 8)) else (Rf_CheckTasks.l0 k l0 0)
theorem Rf_CheckTasks.mono_l : ∀ k, (∀ y0 y1, LeO (Rf_CheckTasks.l0 k y0 y1) (Rf_CheckTasks.l0 (k + 1) y0 y1)) ∧ (∀ y0 y1 y2, LeO (Rf_CheckTasks.l1 k y0 y1 y2) (Rf_CheckTasks.l1 (k + 1) y0 y1 y2))
  | 0 => ⟨fun _ _ r h => by simp [Rf_CheckTasks.l0] at h, fun _ _ _ r h => by simp [Rf_CheckTasks.l1] at h⟩
  | k + 1 => by
    obtain ⟨ih0, ih1⟩ := Rf_CheckTasks.mono_l k
    refine ⟨?_, ?_⟩
    · intro y0 y1
      unfold Rf_CheckTasks.l0
      repeat' with_reducible first
        | exact ih0 ..
        | exact ih1 ..
        | exact Bs_IsName.mono ..
        | exact LeO.refl ..
        | exact LeO.none ..
        | refine LeO.ite ?_ ?_
        | refine LeO.bind ?_ (fun _ => ?_)
    · intro y0 y1 y2
      unfold Rf_CheckTasks.l1
      repeat' with_reducible first
        | exact ih0 ..
        | exact ih1 ..
        | exact Bs_IsName.mono ..
        | exact LeO.refl ..
        | exact LeO.none ..
        | refine LeO.ite ?_ ?_
        | refine LeO.bind ?_ (fun _ => ?_)
theorem Rf_CheckTasks.mono : ∀ a0 k, LeO (Rf_CheckTasks.f k a0) (Rf_CheckTasks.f (k + 1) a0) := by
  intro a0 k
  obtain ⟨ih0, ih1⟩ := Rf_CheckTasks.mono_l k
  unfold Rf_CheckTasks.f
  repeat' with_reducible first
    | exact ih0 ..
    | exact ih1 ..
    | exact Bs_IsName.mono ..
    | exact LeO.refl ..
    | exact LeO.none ..
    | refine LeO.ite ?_ ?_
    | refine LeO.bind ?_ (fun _ => ?_)
theorem Rf_CheckTasks.calls (k : Nat) (A0 : Option Addr) (c0 : Nat) (l0 : List (S42)) (r1 : Int) (r2 : Int) (w : World) (hr0 : Kd.C k42 w A0 l0.length l0) (hc0 : l0.length ≤ c0) (h : Rf_CheckTasks.f k l0 = some (r1, r2)) :
    Calls Try.prog 19 #[.slice A0 l0.length c0] w fun e w' => e = .returned (.tuple #[.int .i64 r1, .int .i64 r2]) ∧ Drawn0 w w' := by
  have HR0 := m0 hr0
  have HC0 := m0 hc0
  clear hr0 hc0
  have H : (if (l0.length : Int) > 10 then (some (0, 8)) else (Rf_CheckTasks.l0 k l0 0)) = some (r1, r2) := h
  clear h
  by_cases c2 : (l0.length : Int) > 10
  · rw [if_pos c2] at H
    have c2b0 := decide_eq_true c2
    have c2b1 : decide (10 < l0.length) = true := decide_eq_true (by omega)
    clear c2
    simp only [Option.some.injEq, Prod.mk.injEq] at H
    obtain ⟨rfl, rfl⟩ := H
    go_enter Try.func19, Try.ntmps19
    go_wp2
    repeat (go_quiet (fail); try go_wp2)
    go_ret2
    exact ⟨by first | rfl | (simp; done) | (simp [*]; done), by repeat (first | exact Drawn0.refl _ | apply Drawn0.step)⟩
  · rw [if_neg c2] at H
    have c2b0 := decide_eq_false c2
    have c2b1 : decide (10 < l0.length) = false := decide_eq_false (by omega)
    clear c2
    have H' := m0 H
    clear H
    go_enter Try.func19, Try.ntmps19
    go_wp2
    repeat (go_quiet (fail); try go_wp2)
    go_loopg [4] k (fun kq v4 w' => ∃ (x4_1 : Int), v4 = .int .i64 x4_1 ∧ Aside0 (Rf_CheckTasks.l0 kq l0 x4_1 = some (r1, r2)) ∧ Aside0 (kq ≤ k) ∧ Drawn0 w w')
    case atStart => exact ⟨(0), (by first | rfl | (simp; done) | (simp [*]; done)), H', ⟨Nat.le_refl _⟩, by repeat (first | exact Drawn0.refl _ | apply Drawn0.step)⟩
    case round =>
      clear H'
      obtain ⟨x4_1, rfl, HA, HK1, ⟨m1, rfl⟩⟩ := hrel
      cases gk with
      | zero => exact absurd HA.out (by simp [Rf_CheckTasks.l0])
      | succ k1 =>
        have H := HA.out
        clear HA
        simp only [Rf_CheckTasks.l0] at H
        by_cases c3 : x4_1 < (l0.length : Int)
        · rw [if_pos c3] at H
          have c3b0 := decide_eq_true c3
          clear c3
          by_cases c4 : 0 ≤ x4_1
          · rw [if_pos c4] at H
            have c4b0 := decide_eq_true c4
            clear c4
            replace H := ob H
            obtain ⟨t342, A5, H⟩ := H
            (try dsimp only at H)
            replace A5 := m0 A5
            by_cases c6 : t342 = true
            · subst c6
              rw [if_pos rfl] at H
              have H' := m0 H
              clear H
              have p341 : 0 ≤ (x4_1 : Int) := od
              have q341 : x4_1 < (l0.length : Int) := od
              obtain ⟨ad341, e341, hx341_0, hx341_1, hx341_2⟩ := at_T42 HR0.out x4_1 p341 q341
              cases e341
              replace p341 := eq_true p341
              replace q341 := eq_true q341
              go_wp2_with (first | (go_at_call 81; (with_reducible refine (Bs_IsName.calls k1 ((rd_T42 l0 x4_1).f0) true _ A5.out).mono ?_); rintro e w' ⟨rfl, ⟨nd, rfl⟩⟩; (try first | exact ⟨rfl, _, World.drewN_drewN _ _ _⟩ | exact ⟨rfl, _, Eq.trans (World.drewN_drewN _ _ _) (congrArg (World.drewN _) (Nat.add_assoc _ _ _))⟩)))
              repeat (go_quiet (first | (go_at_call 81; (with_reducible refine (Bs_IsName.calls k1 ((rd_T42 l0 x4_1).f0) true _ A5.out).mono ?_); rintro e w' ⟨rfl, ⟨nd, rfl⟩⟩; (try first | exact ⟨rfl, _, World.drewN_drewN _ _ _⟩ | exact ⟨rfl, _, Eq.trans (World.drewN_drewN _ _ _) (congrArg (World.drewN _) (Nat.add_assoc _ _ _))⟩))); try go_wp2_with (first | (go_at_call 81; (with_reducible refine (Bs_IsName.calls k1 ((rd_T42 l0 x4_1).f0) true _ A5.out).mono ?_); rintro e w' ⟨rfl, ⟨nd, rfl⟩⟩; (try first | exact ⟨rfl, _, World.drewN_drewN _ _ _⟩ | exact ⟨rfl, _, Eq.trans (World.drewN_drewN _ _ _) (congrArg (World.drewN _) (Nat.add_assoc _ _ _))⟩))))
              go_loopg [5] k1 (fun kq v5 w' => ∃ (x5_2 : Int), v5 = .int .i64 x5_2 ∧ Aside0 (Rf_CheckTasks.l1 kq l0 x4_1 x5_2 = some (r1, r2)) ∧ Aside0 (kq ≤ k1) ∧ Drawn0 w w')
              case atStart => exact ⟨(0), (by first | rfl | (simp; done) | (simp [*]; done)), H', ⟨Nat.le_refl _⟩, by repeat (first | exact Drawn0.refl _ | apply Drawn0.step)⟩
              case round =>
                clear H'
                try clear hx3
                try clear hx341_0
                try clear hx341_1
                try clear hx341_2
                obtain ⟨x5_2, rfl, HA, HK2, ⟨m2, rfl⟩⟩ := hrel
                cases gk with
                | zero => exact absurd HA.out (by simp [Rf_CheckTasks.l1])
                | succ k2 =>
                  have H := HA.out
                  clear HA
                  simp only [Rf_CheckTasks.l1] at H
                  by_cases c7 : x5_2 < x4_1
                  · rw [if_pos c7] at H
                    have c7b0 := decide_eq_true c7
                    clear c7
                    by_cases c8 : 0 ≤ x5_2
                    · rw [if_pos c8] at H
                      have c8b0 := decide_eq_true c8
                      clear c8
                      by_cases c9 : x5_2 < (l0.length : Int)
                      · rw [if_pos c9] at H
                        have c9b0 := decide_eq_true c9
                        clear c9
                        by_cases c10 : 0 ≤ x4_1
                        · rw [if_pos c10] at H
                          have c10b0 := decide_eq_true c10
                          clear c10
                          by_cases c11 : x4_1 < (l0.length : Int)
                          · rw [if_pos c11] at H
                            have c11b0 := decide_eq_true c11
                            clear c11
                            by_cases c12 : ((rd_T42 l0 x5_2).f0).toList = ((rd_T42 l0 x4_1).f0).toList
                            · rw [if_pos c12] at H
                              have c12b0 := beq_iff_eq.mpr c12
                              have c12b1 := bne_eq_false_iff_eq.mpr c12
                              clear c12
                              simp only [Option.some.injEq, Prod.mk.injEq] at H
                              obtain ⟨rfl, rfl⟩ := H
                              have p343 : 0 ≤ (x5_2 : Int) := od
                              have q343 : x5_2 < (l0.length : Int) := od
                              obtain ⟨ad343, e343, hx343_0, hx343_1, hx343_2⟩ := at_T42 HR0.out x5_2 p343 q343
                              obtain rfl : ad341 = ad343 := (by injection e343)
                              replace p343 := eq_true p343
                              replace q343 := eq_true q343
                              have p344 : 0 ≤ (x4_1 : Int) := od
                              have q344 : x4_1 < (l0.length : Int) := od
                              obtain ⟨ad344, e344, hx344_0, hx344_1, hx344_2⟩ := at_T42 HR0.out x4_1 p344 q344
                              obtain rfl : ad341 = ad344 := (by injection e344)
                              replace p344 := eq_true p344
                              replace q344 := eq_true q344
                              go_wp2
                              repeat (go_quiet (fail); try go_wp2)
                              go_ret2
                              exact ⟨by first | rfl | (simp; done) | (simp [*]; done), by repeat (first | exact Drawn0.refl _ | apply Drawn0.step)⟩
                            · rw [if_neg c12] at H
                              have c12b0 := beq_eq_false_iff_ne.mpr c12
                              have c12b1 := bne_iff_ne.mpr c12
                              have H' := m0 H
                              clear H
                              have p343 : 0 ≤ (x5_2 : Int) := od
                              have q343 : x5_2 < (l0.length : Int) := od
                              obtain ⟨ad343, e343, hx343_0, hx343_1, hx343_2⟩ := at_T42 HR0.out x5_2 p343 q343
                              obtain rfl : ad341 = ad343 := (by injection e343)
                              replace p343 := eq_true p343
                              replace q343 := eq_true q343
                              have p344 : 0 ≤ (x4_1 : Int) := od
                              have q344 : x4_1 < (l0.length : Int) := od
                              obtain ⟨ad344, e344, hx344_0, hx344_1, hx344_2⟩ := at_T42 HR0.out x4_1 p344 q344
                              obtain rfl : ad341 = ad344 := (by injection e344)
                              replace p344 := eq_true p344
                              replace q344 := eq_true q344
                              go_wp2
                              repeat (go_quiet (fail); try go_wp2)
                              go_roundg k2
                              case measure => have := HK1.out; have := HK2.out; omega
                              case rel => exact ⟨(wrap64 (x5_2 + 1)), (by first | rfl | (simp; done) | (simp [*]; done)), H', ⟨by have := HK1.out; have := HK2.out; omega⟩, by repeat (first | exact Drawn0.refl _ | apply Drawn0.step)⟩
                          · rw [if_neg c11] at H
                            exact absurd H (by simp)
                        · rw [if_neg c10] at H
                          exact absurd H (by simp)
                      · rw [if_neg c9] at H
                        exact absurd H (by simp)
                    · rw [if_neg c8] at H
                      exact absurd H (by simp)
                  · rw [if_neg c7] at H
                    have c7b0 := decide_eq_false c7
                    clear c7
                    by_cases c13 : 0 ≤ x4_1
                    · rw [if_pos c13] at H
                      have c13b0 := decide_eq_true c13
                      clear c13
                      by_cases c14 : x4_1 < (l0.length : Int)
                      · rw [if_pos c14] at H
                        have c14b0 := decide_eq_true c14
                        clear c14
                        replace H := ob H
                        obtain ⟨t346, A15, H⟩ := H
                        (try dsimp only at H)
                        replace A15 := m0 A15
                        by_cases c16 : t346 = true
                        · subst c16
                          rw [if_pos rfl] at H
                          replace H := ob H
                          obtain ⟨t348, A17, H⟩ := H
                          (try dsimp only at H)
                          replace A17 := m0 A17
                          by_cases c18 : t348 = true
                          · subst c18
                            rw [if_pos rfl] at H
                            have H' := m0 H
                            clear H
                            have p345 : 0 ≤ (x4_1 : Int) := od
                            have q345 : x4_1 < (l0.length : Int) := od
                            obtain ⟨ad345, e345, hx345_0, hx345_1, hx345_2⟩ := at_T42 HR0.out x4_1 p345 q345
                            obtain rfl : ad341 = ad345 := (by injection e345)
                            replace p345 := eq_true p345
                            replace q345 := eq_true q345
                            go_wp2_with (first | (go_at_call 24; (with_reducible refine (Bs_Within.calls ((rd_T42 l0 x4_1).f1) 0 1000 true _ A15.out).mono ?_); rintro e w' ⟨rfl, ⟨nd, rfl⟩⟩; (try first | exact ⟨rfl, _, World.drewN_drewN _ _ _⟩ | exact ⟨rfl, _, Eq.trans (World.drewN_drewN _ _ _) (congrArg (World.drewN _) (Nat.add_assoc _ _ _))⟩); have p347 : 0 ≤ (x4_1 : Int) := od; have q347 : x4_1 < (l0.length : Int) := od; obtain ⟨ad347, e347, hx347_0, hx347_1, hx347_2⟩ := at_T42 HR0.out x4_1 p347 q347; obtain rfl : ad341 = ad347 := (by injection e347); replace p347 := eq_true p347; replace q347 := eq_true q347) | (go_at_call 24; (with_reducible refine (Bs_Within.calls ((rd_T42 l0 x4_1).f2) 0 1000 true _ A17.out).mono ?_); rintro e w' ⟨rfl, ⟨nd, rfl⟩⟩; (try first | exact ⟨rfl, _, World.drewN_drewN _ _ _⟩ | exact ⟨rfl, _, Eq.trans (World.drewN_drewN _ _ _) (congrArg (World.drewN _) (Nat.add_assoc _ _ _))⟩)))
                            repeat (go_quiet (first | (go_at_call 24; (with_reducible refine (Bs_Within.calls ((rd_T42 l0 x4_1).f1) 0 1000 true _ A15.out).mono ?_); rintro e w' ⟨rfl, ⟨nd, rfl⟩⟩; (try first | exact ⟨rfl, _, World.drewN_drewN _ _ _⟩ | exact ⟨rfl, _, Eq.trans (World.drewN_drewN _ _ _) (congrArg (World.drewN _) (Nat.add_assoc _ _ _))⟩); have p347 : 0 ≤ (x4_1 : Int) := od; have q347 : x4_1 < (l0.length : Int) := od; obtain ⟨ad347, e347, hx347_0, hx347_1, hx347_2⟩ := at_T42 HR0.out x4_1 p347 q347; obtain rfl : ad341 = ad347 := (by injection e347); replace p347 := eq_true p347; replace q347 := eq_true q347) | (go_at_call 24; (with_reducible refine (Bs_Within.calls ((rd_T42 l0 x4_1).f2) 0 1000 true _ A17.out).mono ?_); rintro e w' ⟨rfl, ⟨nd, rfl⟩⟩; (try first | exact ⟨rfl, _, World.drewN_drewN _ _ _⟩ | exact ⟨rfl, _, Eq.trans (World.drewN_drewN _ _ _) (congrArg (World.drewN _) (Nat.add_assoc _ _ _))⟩))); try go_wp2_with (first | (go_at_call 24; (with_reducible refine (Bs_Within.calls ((rd_T42 l0 x4_1).f1) 0 1000 true _ A15.out).mono ?_); rintro e w' ⟨rfl, ⟨nd, rfl⟩⟩; (try first | exact ⟨rfl, _, World.drewN_drewN _ _ _⟩ | exact ⟨rfl, _, Eq.trans (World.drewN_drewN _ _ _) (congrArg (World.drewN _) (Nat.add_assoc _ _ _))⟩); have p347 : 0 ≤ (x4_1 : Int) := od; have q347 : x4_1 < (l0.length : Int) := od; obtain ⟨ad347, e347, hx347_0, hx347_1, hx347_2⟩ := at_T42 HR0.out x4_1 p347 q347; obtain rfl : ad341 = ad347 := (by injection e347); replace p347 := eq_true p347; replace q347 := eq_true q347) | (go_at_call 24; (with_reducible refine (Bs_Within.calls ((rd_T42 l0 x4_1).f2) 0 1000 true _ A17.out).mono ?_); rintro e w' ⟨rfl, ⟨nd, rfl⟩⟩; (try first | exact ⟨rfl, _, World.drewN_drewN _ _ _⟩ | exact ⟨rfl, _, Eq.trans (World.drewN_drewN _ _ _) (congrArg (World.drewN _) (Nat.add_assoc _ _ _))⟩))))
                            go_roundg k2
                            case measure => have := HK1.out; have := HK2.out; omega
                            case rel => exact ⟨(wrap64 (x4_1 + 1)), (by first | rfl | (simp; done) | (simp [*]; done)), H', ⟨by have := HK1.out; have := HK2.out; omega⟩, by repeat (first | exact Drawn0.refl _ | apply Drawn0.step)⟩
                          · replace c18 := Bool.eq_false_iff.mpr c18
                            subst c18
                            rw [if_neg (show ¬ (false = true) by decide)] at H
                            simp only [Option.some.injEq, Prod.mk.injEq] at H
                            obtain ⟨rfl, rfl⟩ := H
                            have p345 : 0 ≤ (x4_1 : Int) := od
                            have q345 : x4_1 < (l0.length : Int) := od
                            obtain ⟨ad345, e345, hx345_0, hx345_1, hx345_2⟩ := at_T42 HR0.out x4_1 p345 q345
                            obtain rfl : ad341 = ad345 := (by injection e345)
                            replace p345 := eq_true p345
                            replace q345 := eq_true q345
                            go_wp2_with (first | (go_at_call 24; (with_reducible refine (Bs_Within.calls ((rd_T42 l0 x4_1).f1) 0 1000 true _ A15.out).mono ?_); rintro e w' ⟨rfl, ⟨nd, rfl⟩⟩; (try first | exact ⟨rfl, _, World.drewN_drewN _ _ _⟩ | exact ⟨rfl, _, Eq.trans (World.drewN_drewN _ _ _) (congrArg (World.drewN _) (Nat.add_assoc _ _ _))⟩); have p347 : 0 ≤ (x4_1 : Int) := od; have q347 : x4_1 < (l0.length : Int) := od; obtain ⟨ad347, e347, hx347_0, hx347_1, hx347_2⟩ := at_T42 HR0.out x4_1 p347 q347; obtain rfl : ad341 = ad347 := (by injection e347); replace p347 := eq_true p347; replace q347 := eq_true q347) | (go_at_call 24; (with_reducible refine (Bs_Within.calls ((rd_T42 l0 x4_1).f2) 0 1000 false _ A17.out).mono ?_); rintro e w' ⟨rfl, ⟨nd, rfl⟩⟩; (try first | exact ⟨rfl, _, World.drewN_drewN _ _ _⟩ | exact ⟨rfl, _, Eq.trans (World.drewN_drewN _ _ _) (congrArg (World.drewN _) (Nat.add_assoc _ _ _))⟩)))
                            repeat (go_quiet (first | (go_at_call 24; (with_reducible refine (Bs_Within.calls ((rd_T42 l0 x4_1).f1) 0 1000 true _ A15.out).mono ?_); rintro e w' ⟨rfl, ⟨nd, rfl⟩⟩; (try first | exact ⟨rfl, _, World.drewN_drewN _ _ _⟩ | exact ⟨rfl, _, Eq.trans (World.drewN_drewN _ _ _) (congrArg (World.drewN _) (Nat.add_assoc _ _ _))⟩); have p347 : 0 ≤ (x4_1 : Int) := od; have q347 : x4_1 < (l0.length : Int) := od; obtain ⟨ad347, e347, hx347_0, hx347_1, hx347_2⟩ := at_T42 HR0.out x4_1 p347 q347; obtain rfl : ad341 = ad347 := (by injection e347); replace p347 := eq_true p347; replace q347 := eq_true q347) | (go_at_call 24; (with_reducible refine (Bs_Within.calls ((rd_T42 l0 x4_1).f2) 0 1000 false _ A17.out).mono ?_); rintro e w' ⟨rfl, ⟨nd, rfl⟩⟩; (try first | exact ⟨rfl, _, World.drewN_drewN _ _ _⟩ | exact ⟨rfl, _, Eq.trans (World.drewN_drewN _ _ _) (congrArg (World.drewN _) (Nat.add_assoc _ _ _))⟩))); try go_wp2_with (first | (go_at_call 24; (with_reducible refine (Bs_Within.calls ((rd_T42 l0 x4_1).f1) 0 1000 true _ A15.out).mono ?_); rintro e w' ⟨rfl, ⟨nd, rfl⟩⟩; (try first | exact ⟨rfl, _, World.drewN_drewN _ _ _⟩ | exact ⟨rfl, _, Eq.trans (World.drewN_drewN _ _ _) (congrArg (World.drewN _) (Nat.add_assoc _ _ _))⟩); have p347 : 0 ≤ (x4_1 : Int) := od; have q347 : x4_1 < (l0.length : Int) := od; obtain ⟨ad347, e347, hx347_0, hx347_1, hx347_2⟩ := at_T42 HR0.out x4_1 p347 q347; obtain rfl : ad341 = ad347 := (by injection e347); replace p347 := eq_true p347; replace q347 := eq_true q347) | (go_at_call 24; (with_reducible refine (Bs_Within.calls ((rd_T42 l0 x4_1).f2) 0 1000 false _ A17.out).mono ?_); rintro e w' ⟨rfl, ⟨nd, rfl⟩⟩; (try first | exact ⟨rfl, _, World.drewN_drewN _ _ _⟩ | exact ⟨rfl, _, Eq.trans (World.drewN_drewN _ _ _) (congrArg (World.drewN _) (Nat.add_assoc _ _ _))⟩))))
                            go_ret2
                            exact ⟨by first | rfl | (simp; done) | (simp [*]; done), by repeat (first | exact Drawn0.refl _ | apply Drawn0.step)⟩
                        · replace c16 := Bool.eq_false_iff.mpr c16
                          subst c16
                          rw [if_neg (show ¬ (false = true) by decide)] at H
                          simp only [Option.some.injEq, Prod.mk.injEq] at H
                          obtain ⟨rfl, rfl⟩ := H
                          have p345 : 0 ≤ (x4_1 : Int) := od
                          have q345 : x4_1 < (l0.length : Int) := od
                          obtain ⟨ad345, e345, hx345_0, hx345_1, hx345_2⟩ := at_T42 HR0.out x4_1 p345 q345
                          obtain rfl : ad341 = ad345 := (by injection e345)
                          replace p345 := eq_true p345
                          replace q345 := eq_true q345
                          go_wp2_with (first | (go_at_call 24; (with_reducible refine (Bs_Within.calls ((rd_T42 l0 x4_1).f1) 0 1000 false _ A15.out).mono ?_); rintro e w' ⟨rfl, ⟨nd, rfl⟩⟩; (try first | exact ⟨rfl, _, World.drewN_drewN _ _ _⟩ | exact ⟨rfl, _, Eq.trans (World.drewN_drewN _ _ _) (congrArg (World.drewN _) (Nat.add_assoc _ _ _))⟩)))
                          repeat (go_quiet (first | (go_at_call 24; (with_reducible refine (Bs_Within.calls ((rd_T42 l0 x4_1).f1) 0 1000 false _ A15.out).mono ?_); rintro e w' ⟨rfl, ⟨nd, rfl⟩⟩; (try first | exact ⟨rfl, _, World.drewN_drewN _ _ _⟩ | exact ⟨rfl, _, Eq.trans (World.drewN_drewN _ _ _) (congrArg (World.drewN _) (Nat.add_assoc _ _ _))⟩))); try go_wp2_with (first | (go_at_call 24; (with_reducible refine (Bs_Within.calls ((rd_T42 l0 x4_1).f1) 0 1000 false _ A15.out).mono ?_); rintro e w' ⟨rfl, ⟨nd, rfl⟩⟩; (try first | exact ⟨rfl, _, World.drewN_drewN _ _ _⟩ | exact ⟨rfl, _, Eq.trans (World.drewN_drewN _ _ _) (congrArg (World.drewN _) (Nat.add_assoc _ _ _))⟩))))
                          go_ret2
                          exact ⟨by first | rfl | (simp; done) | (simp [*]; done), by repeat (first | exact Drawn0.refl _ | apply Drawn0.step)⟩
                      · rw [if_neg c14] at H
                        exact absurd H (by simp)
                    · rw [if_neg c13] at H
                      exact absurd H (by simp)
            · replace c6 := Bool.eq_false_iff.mpr c6
              subst c6
              rw [if_neg (show ¬ (false = true) by decide)] at H
              simp only [Option.some.injEq, Prod.mk.injEq] at H
              obtain ⟨rfl, rfl⟩ := H
              have p341 : 0 ≤ (x4_1 : Int) := od
              have q341 : x4_1 < (l0.length : Int) := od
              obtain ⟨ad341, e341, hx341_0, hx341_1, hx341_2⟩ := at_T42 HR0.out x4_1 p341 q341
              cases e341
              replace p341 := eq_true p341
              replace q341 := eq_true q341
              go_wp2_with (first | (go_at_call 81; (with_reducible refine (Bs_IsName.calls k1 ((rd_T42 l0 x4_1).f0) false _ A5.out).mono ?_); rintro e w' ⟨rfl, ⟨nd, rfl⟩⟩; (try first | exact ⟨rfl, _, World.drewN_drewN _ _ _⟩ | exact ⟨rfl, _, Eq.trans (World.drewN_drewN _ _ _) (congrArg (World.drewN _) (Nat.add_assoc _ _ _))⟩)))
              repeat (go_quiet (first | (go_at_call 81; (with_reducible refine (Bs_IsName.calls k1 ((rd_T42 l0 x4_1).f0) false _ A5.out).mono ?_); rintro e w' ⟨rfl, ⟨nd, rfl⟩⟩; (try first | exact ⟨rfl, _, World.drewN_drewN _ _ _⟩ | exact ⟨rfl, _, Eq.trans (World.drewN_drewN _ _ _) (congrArg (World.drewN _) (Nat.add_assoc _ _ _))⟩))); try go_wp2_with (first | (go_at_call 81; (with_reducible refine (Bs_IsName.calls k1 ((rd_T42 l0 x4_1).f0) false _ A5.out).mono ?_); rintro e w' ⟨rfl, ⟨nd, rfl⟩⟩; (try first | exact ⟨rfl, _, World.drewN_drewN _ _ _⟩ | exact ⟨rfl, _, Eq.trans (World.drewN_drewN _ _ _) (congrArg (World.drewN _) (Nat.add_assoc _ _ _))⟩))))
              go_ret2
              exact ⟨by first | rfl | (simp; done) | (simp [*]; done), by repeat (first | exact Drawn0.refl _ | apply Drawn0.step)⟩
          · rw [if_neg c4] at H
            exact absurd H (by simp)
        · rw [if_neg c3] at H
          have c3b0 := decide_eq_false c3
          clear c3
          simp only [Option.some.injEq, Prod.mk.injEq] at H
          obtain ⟨rfl, rfl⟩ := H
          go_wp2
          repeat (go_quiet (fail); try go_wp2)
          go_ret2
          exact ⟨by first | rfl | (simp; done) | (simp [*]; done), by repeat (first | exact Drawn0.refl _ | apply Drawn0.step)⟩
end
section
def Rf_TasksErr.f (k : Nat) (l0 : List (S42)) (a1 : Int) : Option (Int) := (Rf_CheckTasks.f k l0).bind fun bt349 => (if bt349.2 = 0 then ((Bs_Within.f a1 1 24).bind fun t351 => (if t351 = true then (some 0) else (some 2))) else (some bt349.2))
theorem Rf_TasksErr.mono : ∀ a0 a1 k, LeO (Rf_TasksErr.f k a0 a1) (Rf_TasksErr.f (k + 1) a0 a1) := by
 intro a0 a1 k
 unfold Rf_TasksErr.f
 repeat' with_reducible first
  | exact Rf_CheckTasks.mono ..
  | exact LeO.refl ..
  | exact LeO.none ..
  | refine LeO.ite ?_ ?_
  | refine LeO.bind ?_ (fun _ => ?_)
theorem Rf_TasksErr.calls (k : Nat) (A0 : Option Addr) (c0 : Nat) (l0 : List (S42)) (a1 : Int) (r : Int) (w : World) (hr0 : Kd.C k42 w A0 l0.length l0) (hc0 : l0.length ≤ c0) (h : Rf_TasksErr.f k l0 a1 = some r) :
  Calls Try.prog 20 #[.slice A0 l0.length c0, .int .i64 a1] w fun e w' => e = .returned (.int .i64 r) ∧ Drawn0 w w' := by
 have HR0 := m0 hr0
 have HC0 := m0 hc0
 clear hr0 hc0
 have H : ((Rf_CheckTasks.f k l0).bind fun bt349 => (if bt349.2 = 0 then ((Bs_Within.f a1 1 24).bind fun t351 => (if t351 = true then (some 0) else (some 2))) else (some bt349.2))) = some r := h
 clear h
 replace H := ob H
 obtain ⟨⟨t349, t350⟩, A3, H⟩ := H
 (try dsimp only at H)
 replace A3 := m0 A3
 by_cases c4 : t350 = 0
 ·rw [if_pos c4] at H
  have c4b0 := beq_iff_eq.mpr c4
  have c4b1 := bne_eq_false_iff_eq.mpr c4
  clear c4
  replace H := ob H
  obtain ⟨t351, A5, H⟩ := H
  (try dsimp only at H)
  replace A5 := m0 A5
  by_cases c6 : t351 = true
  ·subst c6
   rw [if_pos rfl] at H
   obtain rfl := Option.some.inj H
   go_enter Try.func20, Try.ntmps20
   go_wp2_with (first | ((with_reducible refine gate_callee (f := 19) rfl ?_); refine gl (some 9) Try.func19 #[.slice A0 l0.length c0] ?_; (with_reducible refine (Rf_CheckTasks.calls k _ _ l0 t349 t350 _ ?side1 ?side2 A3.out).mono ?_); (case side1 => repeat (first | exact HR0.out | (with_reducible refine Kd.C_alloc ?_ _) | (with_reducible refine Kd.C_drewN ?_ _) | (with_reducible refine Kd.C_drew ?_))); (case side2 => exact HC0.out); rintro e w' ⟨rfl, ⟨nd, rfl⟩⟩; refine ⟨_, rfl, ?_⟩) | ((with_reducible refine gate_callee (f := 24) rfl ?_); refine gl (some 16) Try.func24 #[.int .i64 a1, .int .i64 1, .int .i64 24] ?_; (with_reducible refine (Bs_Within.calls a1 1 24 true _ A5.out).mono ?_); rintro e w' ⟨rfl, ⟨nd, rfl⟩⟩; refine ⟨_, rfl, ?_⟩))
   go_ret
   exact ⟨by first | rfl | (simp; done) | (simp [*]; done), by repeat (first | exact Drawn0.refl _ | apply Drawn0.step)⟩
  ·replace c6 := Bool.eq_false_iff.mpr c6
   subst c6
   rw [if_neg (show ¬ (false = true) by decide)] at H
   obtain rfl := Option.some.inj H
   go_enter Try.func20, Try.ntmps20
   go_wp2_with (first | ((with_reducible refine gate_callee (f := 19) rfl ?_); refine gl (some 9) Try.func19 #[.slice A0 l0.length c0] ?_; (with_reducible refine (Rf_CheckTasks.calls k _ _ l0 t349 t350 _ ?side1 ?side2 A3.out).mono ?_); (case side1 => repeat (first | exact HR0.out | (with_reducible refine Kd.C_alloc ?_ _) | (with_reducible refine Kd.C_drewN ?_ _) | (with_reducible refine Kd.C_drew ?_))); (case side2 => exact HC0.out); rintro e w' ⟨rfl, ⟨nd, rfl⟩⟩; refine ⟨_, rfl, ?_⟩) | ((with_reducible refine gate_callee (f := 24) rfl ?_); refine gl (some 16) Try.func24 #[.int .i64 a1, .int .i64 1, .int .i64 24] ?_; (with_reducible refine (Bs_Within.calls a1 1 24 false _ A5.out).mono ?_); rintro e w' ⟨rfl, ⟨nd, rfl⟩⟩; refine ⟨_, rfl, ?_⟩))
   go_ret
   exact ⟨by first | rfl | (simp; done) | (simp [*]; done), by repeat (first | exact Drawn0.refl _ | apply Drawn0.step)⟩
 ·rw [if_neg c4] at H
  have c4b0 := beq_eq_false_iff_ne.mpr c4
  have c4b1 := bne_iff_ne.mpr c4
  obtain rfl := Option.some.inj H
  go_enter Try.func20, Try.ntmps20
  go_wp2_with (first | ((with_reducible refine gate_callee (f := 19) rfl ?_); refine gl (some 9) Try.func19 #[.slice A0 l0.length c0] ?_; (with_reducible refine (Rf_CheckTasks.calls k _ _ l0 t349 t350 _ ?side1 ?side2 A3.out).mono ?_); (case side1 => repeat (first | exact HR0.out | (with_reducible refine Kd.C_alloc ?_ _) | (with_reducible refine Kd.C_drewN ?_ _) | (with_reducible refine Kd.C_drew ?_))); (case side2 => exact HC0.out); rintro e w' ⟨rfl, ⟨nd, rfl⟩⟩; refine ⟨_, rfl, ?_⟩))
  go_ret
  exact ⟨by first | rfl | (simp; done) | (simp [*]; done), by repeat (first | exact Drawn0.refl _ | apply Drawn0.step)⟩
end
section
def Bs_Floor.f (a0 : Int) (a1 : Int) : Option (Int) := if a1 = 0 then (none) else (if (Int.tmod a0 a1) < 0 then (some (wrap64 ((wrap64 (Int.tdiv a0 a1)) - 1))) else (some (wrap64 (Int.tdiv a0 a1))))
theorem Bs_Floor.calls (a0 : Int) (a1 : Int) (r : Int) (w : World) (h : Bs_Floor.f a0 a1 = some r) :
  Calls Try.prog 92 #[.int .i64 a0, .int .i64 a1] w fun e w' => e = .returned (.int .i64 r) ∧ Drawn0 w w' := by
 have H : (if a1 = 0 then (none) else (if (Int.tmod a0 a1) < 0 then (some (wrap64 ((wrap64 (Int.tdiv a0 a1)) - 1))) else (some (wrap64 (Int.tdiv a0 a1))))) = some r := h
 clear h
 by_cases c3 : a1 = 0
 ·rw [if_pos c3] at H
  exact absurd H (by simp)
 ·rw [if_neg c3] at H
  have c3b0 := beq_eq_false_iff_ne.mpr c3
  have c3b1 := bne_iff_ne.mpr c3
  by_cases c4 : (Int.tmod a0 a1) < 0
  ·rw [if_pos c4] at H
   have c4b0 := decide_eq_true c4
   clear c4
   obtain rfl := Option.some.inj H
   go_enter Try.func92, Try.ntmps92
   go_wp2
   go_ret
   exact ⟨by first | rfl | (simp; done) | (simp [*]; done), by repeat (first | exact Drawn0.refl _ | apply Drawn0.step)⟩
  ·rw [if_neg c4] at H
   have c4b0 := decide_eq_false c4
   clear c4
   obtain rfl := Option.some.inj H
   go_enter Try.func92, Try.ntmps92
   go_wp2
   go_ret
   exact ⟨by first | rfl | (simp; done) | (simp [*]; done), by repeat (first | exact Drawn0.refl _ | apply Drawn0.step)⟩
end
section
def Bs_Ceil.f (a0 : Int) (a1 : Int) : Option (Int) := (Bs_Floor.f (wrap64 (-a0)) a1).bind fun t352 => (some (wrap64 (-t352)))
theorem Bs_Ceil.calls (a0 : Int) (a1 : Int) (r : Int) (w : World) (h : Bs_Ceil.f a0 a1 = some r) :
  Calls Try.prog 82 #[.int .i64 a0, .int .i64 a1] w fun e w' => e = .returned (.int .i64 r) ∧ Drawn0 w w' := by
 have H : ((Bs_Floor.f (wrap64 (-a0)) a1).bind fun t352 => (some (wrap64 (-t352)))) = some r := h
 clear h
 replace H := ob H
 obtain ⟨t352, A3, H⟩ := H
 (try dsimp only at H)
 replace A3 := m0 A3
 obtain rfl := Option.some.inj H
 go_enter Try.func82, Try.ntmps82
 go_wp2_with (first | ((with_reducible refine gate_callee (f := 92) rfl ?_); refine gl (some 8) Try.func92 #[.int .i64 (wrap64 (-a0)), .int .i64 a1] ?_; (with_reducible refine (Bs_Floor.calls (wrap64 (-a0)) a1 t352 _ A3.out).mono ?_); rintro e w' ⟨rfl, ⟨nd, rfl⟩⟩; refine ⟨_, rfl, ?_⟩))
 go_ret
 exact ⟨by first | rfl | (simp; done) | (simp [*]; done), by repeat (first | exact Drawn0.refl _ | apply Drawn0.step)⟩
end
section
mutual
def Rf_Days.l0 : Nat → List (S42) → Int → List Int → Int → Option (List Int)
  | 0, _, _, _, _ => none
  | k + 1, x0, x1, x5, x6 => if x6 < (x0.length : Int) then (Rf_Days.l1 k x0 x1 x5 x6 0 0) else (some x5)
def Rf_Days.l1 : Nat → List (S42) → Int → List Int → Int → Int → Int → Option (List Int)
  | 0, _, _, _, _, _, _ => none
  | k + 1, x0, x1, x5, x6, x7, x8 => if x8 < (x0.length : Int) then (if 0 ≤ x8 then (if 0 ≤ x6 then (if x6 < (x0.length : Int) then (if ((rd_T42 x0 x8).f1) < ((rd_T42 x0 x6).f1) then (Rf_Days.l1 k x0 x1 x5 x6 (wrap64 (x7 + ((rd_T42 x0 x8).f2))) (wrap64 (x8 + 1))) else (if ((rd_T42 x0 x8).f1) = ((rd_T42 x0 x6).f1) then (if x8 ≤ x6 then (Rf_Days.l1 k x0 x1 x5 x6 (wrap64 (x7 + ((rd_T42 x0 x8).f2))) (wrap64 (x8 + 1))) else (Rf_Days.l1 k x0 x1 x5 x6 x7 (wrap64 (x8 + 1)))) else (Rf_Days.l1 k x0 x1 x5 x6 x7 (wrap64 (x8 + 1))))) else (none)) else (none)) else (none)) else ((Bs_Ceil.f x7 x1).bind fun t359 => (if x5.length < 17592186044416 then (Rf_Days.l0 k x0 x1 (x5 ++ [t359]) (wrap64 (x6 + 1))) else (none)))
end
def Rf_Days.f (k : Nat) (l0 : List (S42)) (a1 : Int) : Option (List Int) := Rf_Days.l0 k l0 a1 ([] : List Int) 0
theorem Rf_Days.mono_l : ∀ k, (∀ y0 y1 y2 y3, LeO (Rf_Days.l0 k y0 y1 y2 y3) (Rf_Days.l0 (k + 1) y0 y1 y2 y3)) ∧ (∀ y0 y1 y2 y3 y4 y5, LeO (Rf_Days.l1 k y0 y1 y2 y3 y4 y5) (Rf_Days.l1 (k + 1) y0 y1 y2 y3 y4 y5))
  | 0 => ⟨fun _ _ _ _ r h => by simp [Rf_Days.l0] at h, fun _ _ _ _ _ _ r h => by simp [Rf_Days.l1] at h⟩
  | k + 1 => by
    obtain ⟨ih0, ih1⟩ := Rf_Days.mono_l k
    refine ⟨?_, ?_⟩
    · intro y0 y1 y2 y3
      unfold Rf_Days.l0
      repeat' with_reducible first
        | exact ih0 ..
        | exact ih1 ..
        | exact LeO.refl ..
        | exact LeO.none ..
        | refine LeO.ite ?_ ?_
        | refine LeO.bind ?_ (fun _ => ?_)
    · intro y0 y1 y2 y3 y4 y5
      unfold Rf_Days.l1
      repeat' with_reducible first
        | exact ih0 ..
        | exact ih1 ..
        | exact LeO.refl ..
        | exact LeO.none ..
        | refine LeO.ite ?_ ?_
        | refine LeO.bind ?_ (fun _ => ?_)
theorem Rf_Days.mono : ∀ a0 a1 k, LeO (Rf_Days.f k a0 a1) (Rf_Days.f (k + 1) a0 a1) := by
  intro a0 a1 k
  obtain ⟨ih0, ih1⟩ := Rf_Days.mono_l k
  unfold Rf_Days.f
  repeat' with_reducible first
    | exact ih0 ..
    | exact ih1 ..
    | exact LeO.refl ..
    | exact LeO.none ..
    | refine LeO.ite ?_ ?_
    | refine LeO.bind ?_ (fun _ => ?_)
theorem Rf_Days.calls (k : Nat) (A0 : Option Addr) (c0 : Nat) (l0 : List (S42)) (a1 : Int) (r : List Int) (w : World) (hr0 : Kd.C k42 w A0 l0.length l0) (hc0 : l0.length ≤ c0) (h : Rf_Days.f k l0 a1 = some r) :
    Calls Try.prog 22 #[.slice A0 l0.length c0, .int .i64 a1] w fun e w' => ∃ v0_ : Value, e = .returned (v0_) ∧ Kd.R (Kd.int .i64) 3 w' w.heap.size (fun _ => True) v0_ r ∧ Below w.heap.size w w' := by
  have HR0 := m0 hr0
  have HC0 := m0 hc0
  clear hr0 hc0
  have HB := m0 (Below.refl w.heap.size w)
  have H : (Rf_Days.l0 k l0 a1 ([] : List Int) 0) = some r := h
  clear h
  have H' := m0 H
  clear H
  go_enter Try.func22, Try.ntmps22
  go_wp2
  repeat (go_quiet (fail); try go_wp2)
  go_loopg [5, 6] k (fun kq v5 v6 w' => ∃ (x5_1 : List Int) (x6_1 : Int), v6 = .int .i64 x6_1 ∧ Aside0 (Rf_Days.l0 kq l0 a1 x5_1 x6_1 = some r) ∧ Aside0 (kq ≤ k) ∧ Aside0 (Kd.R (Kd.int .i64) 3 w' w.heap.size (fun _ => True) v5 x5_1) ∧ Aside0 (Below w.heap.size w w'))
  case atStart => exact ⟨(([] : List Int)), (0), (by first | rfl | (simp; done) | (simp [*]; done)), H', ⟨Nat.le_refl _⟩, ⟨by first | exact Kd.R_nil _ _ _ _ _ | exact Kd.N_nil _ _ _ _ _ | exact Kd.V_nil _ _ _ _ _ | exact Kd.Q_nil _ _ _ _ _ | exact Kd.S_nil _ _ _ _ _⟩, ⟨bz⟩⟩
  case round =>
    clear H'
    obtain ⟨x5_1, x6_1, rfl, HA, HK1, HO_5, HB⟩ := hrel
    cases gk with
    | zero => exact absurd HA.out (by simp [Rf_Days.l0])
    | succ k1 =>
      have H := HA.out
      clear HA
      simp only [Rf_Days.l0] at H
      by_cases c3 : x6_1 < (l0.length : Int)
      · rw [if_pos c3] at H
        have c3b0 := decide_eq_true c3
        clear c3
        have H' := m0 H
        clear H
        go_wp2
        repeat (go_quiet (fail); try go_wp2)
        go_loopg [7, 8] k1 (fun kq v7 v8 w' => ∃ (x7_2 : Int) (x8_2 : Int), v7 = .int .i64 x7_2 ∧ v8 = .int .i64 x8_2 ∧ Aside0 (Rf_Days.l1 kq l0 a1 x5_1 x6_1 x7_2 x8_2 = some r) ∧ Aside0 (kq ≤ k1) ∧ Aside0 (Kd.R (Kd.int .i64) 3 w' w.heap.size (fun _ => True) u5 x5_1) ∧ Aside0 (Below w.heap.size w w'))
        case atStart => exact ⟨(0), (0), (by first | rfl | (simp; done) | (simp [*]; done)), (by first | rfl | (simp; done) | (simp [*]; done)), H', ⟨Nat.le_refl _⟩, ⟨br HO_5.out⟩, ⟨bz⟩⟩
        case round =>
          clear H'
          obtain ⟨x7_2, x8_2, rfl, rfl, HA, HK2, HO_5, HB⟩ := hrel
          cases gk with
          | zero => exact absurd HA.out (by simp [Rf_Days.l1])
          | succ k2 =>
            have H := HA.out
            clear HA
            simp only [Rf_Days.l1] at H
            by_cases c4 : x8_2 < (l0.length : Int)
            · rw [if_pos c4] at H
              have c4b0 := decide_eq_true c4
              clear c4
              by_cases c5 : 0 ≤ x8_2
              · rw [if_pos c5] at H
                have c5b0 := decide_eq_true c5
                clear c5
                by_cases c6 : 0 ≤ x6_1
                · rw [if_pos c6] at H
                  have c6b0 := decide_eq_true c6
                  clear c6
                  by_cases c7 : x6_1 < (l0.length : Int)
                  · rw [if_pos c7] at H
                    have c7b0 := decide_eq_true c7
                    clear c7
                    by_cases c8 : ((rd_T42 l0 x8_2).f1) < ((rd_T42 l0 x6_1).f1)
                    · rw [if_pos c8] at H
                      have c8b0 := decide_eq_true c8
                      clear c8
                      have H' := m0 H
                      clear H
                      have p353 : 0 ≤ (x8_2 : Int) := od
                      have q353 : x8_2 < (l0.length : Int) := od
                      obtain ⟨ad353, e353, hx353_0, hx353_1, hx353_2⟩ := at_T42 HR0.out x8_2 p353 q353
                      cases e353
                      replace hx353_0 := (HB.out.cell (World.block_lt_of_cell? w _ hx353_0)).trans hx353_0
                      replace hx353_1 := (HB.out.cell (World.block_lt_of_cell? w _ hx353_1)).trans hx353_1
                      replace hx353_2 := (HB.out.cell (World.block_lt_of_cell? w _ hx353_2)).trans hx353_2
                      replace p353 := eq_true p353
                      replace q353 := eq_true q353
                      have p354 : 0 ≤ (x6_1 : Int) := od
                      have q354 : x6_1 < (l0.length : Int) := od
                      obtain ⟨ad354, e354, hx354_0, hx354_1, hx354_2⟩ := at_T42 HR0.out x6_1 p354 q354
                      obtain rfl : ad353 = ad354 := (by injection e354)
                      replace hx354_0 := (HB.out.cell (World.block_lt_of_cell? w _ hx354_0)).trans hx354_0
                      replace hx354_1 := (HB.out.cell (World.block_lt_of_cell? w _ hx354_1)).trans hx354_1
                      replace hx354_2 := (HB.out.cell (World.block_lt_of_cell? w _ hx354_2)).trans hx354_2
                      replace p354 := eq_true p354
                      replace q354 := eq_true q354
                      have p355 : 0 ≤ (x8_2 : Int) := od
                      have q355 : x8_2 < (l0.length : Int) := od
                      obtain ⟨ad355, e355, hx355_0, hx355_1, hx355_2⟩ := at_T42 HR0.out x8_2 p355 q355
                      obtain rfl : ad353 = ad355 := (by injection e355)
                      replace hx355_0 := (HB.out.cell (World.block_lt_of_cell? w _ hx355_0)).trans hx355_0
                      replace hx355_1 := (HB.out.cell (World.block_lt_of_cell? w _ hx355_1)).trans hx355_1
                      replace hx355_2 := (HB.out.cell (World.block_lt_of_cell? w _ hx355_2)).trans hx355_2
                      replace p355 := eq_true p355
                      replace q355 := eq_true q355
                      go_wp2
                      repeat (go_quiet (fail); try go_wp2)
                      go_roundg k2
                      case measure => have := HK1.out; have := HK2.out; omega
                      case rel => exact ⟨(wrap64 (x7_2 + ((rd_T42 l0 x8_2).f2))), (wrap64 (x8_2 + 1)), (by first | rfl | (simp; done) | (simp [*]; done)), (by first | rfl | (simp; done) | (simp [*]; done)), H', ⟨by have := HK1.out; have := HK2.out; omega⟩, ⟨br HO_5.out⟩, ⟨bz⟩⟩
                    · rw [if_neg c8] at H
                      have c8b0 := decide_eq_false c8
                      clear c8
                      by_cases c9 : ((rd_T42 l0 x8_2).f1) = ((rd_T42 l0 x6_1).f1)
                      · rw [if_pos c9] at H
                        have c9b0 := beq_iff_eq.mpr c9
                        have c9b1 := bne_eq_false_iff_eq.mpr c9
                        clear c9
                        by_cases c10 : x8_2 ≤ x6_1
                        · rw [if_pos c10] at H
                          have c10b0 := decide_eq_true c10
                          clear c10
                          have H' := m0 H
                          clear H
                          have p353 : 0 ≤ (x8_2 : Int) := od
                          have q353 : x8_2 < (l0.length : Int) := od
                          obtain ⟨ad353, e353, hx353_0, hx353_1, hx353_2⟩ := at_T42 HR0.out x8_2 p353 q353
                          cases e353
                          replace hx353_0 := (HB.out.cell (World.block_lt_of_cell? w _ hx353_0)).trans hx353_0
                          replace hx353_1 := (HB.out.cell (World.block_lt_of_cell? w _ hx353_1)).trans hx353_1
                          replace hx353_2 := (HB.out.cell (World.block_lt_of_cell? w _ hx353_2)).trans hx353_2
                          replace p353 := eq_true p353
                          replace q353 := eq_true q353
                          have p354 : 0 ≤ (x6_1 : Int) := od
                          have q354 : x6_1 < (l0.length : Int) := od
                          obtain ⟨ad354, e354, hx354_0, hx354_1, hx354_2⟩ := at_T42 HR0.out x6_1 p354 q354
                          obtain rfl : ad353 = ad354 := (by injection e354)
                          replace hx354_0 := (HB.out.cell (World.block_lt_of_cell? w _ hx354_0)).trans hx354_0
                          replace hx354_1 := (HB.out.cell (World.block_lt_of_cell? w _ hx354_1)).trans hx354_1
                          replace hx354_2 := (HB.out.cell (World.block_lt_of_cell? w _ hx354_2)).trans hx354_2
                          replace p354 := eq_true p354
                          replace q354 := eq_true q354
                          have p356 : 0 ≤ (x8_2 : Int) := od
                          have q356 : x8_2 < (l0.length : Int) := od
                          obtain ⟨ad356, e356, hx356_0, hx356_1, hx356_2⟩ := at_T42 HR0.out x8_2 p356 q356
                          obtain rfl : ad353 = ad356 := (by injection e356)
                          replace hx356_0 := (HB.out.cell (World.block_lt_of_cell? w _ hx356_0)).trans hx356_0
                          replace hx356_1 := (HB.out.cell (World.block_lt_of_cell? w _ hx356_1)).trans hx356_1
                          replace hx356_2 := (HB.out.cell (World.block_lt_of_cell? w _ hx356_2)).trans hx356_2
                          replace p356 := eq_true p356
                          replace q356 := eq_true q356
                          have p357 : 0 ≤ (x6_1 : Int) := od
                          have q357 : x6_1 < (l0.length : Int) := od
                          obtain ⟨ad357, e357, hx357_0, hx357_1, hx357_2⟩ := at_T42 HR0.out x6_1 p357 q357
                          obtain rfl : ad353 = ad357 := (by injection e357)
                          replace hx357_0 := (HB.out.cell (World.block_lt_of_cell? w _ hx357_0)).trans hx357_0
                          replace hx357_1 := (HB.out.cell (World.block_lt_of_cell? w _ hx357_1)).trans hx357_1
                          replace hx357_2 := (HB.out.cell (World.block_lt_of_cell? w _ hx357_2)).trans hx357_2
                          replace p357 := eq_true p357
                          replace q357 := eq_true q357
                          have p358 : 0 ≤ (x8_2 : Int) := od
                          have q358 : x8_2 < (l0.length : Int) := od
                          obtain ⟨ad358, e358, hx358_0, hx358_1, hx358_2⟩ := at_T42 HR0.out x8_2 p358 q358
                          obtain rfl : ad353 = ad358 := (by injection e358)
                          replace hx358_0 := (HB.out.cell (World.block_lt_of_cell? w _ hx358_0)).trans hx358_0
                          replace hx358_1 := (HB.out.cell (World.block_lt_of_cell? w _ hx358_1)).trans hx358_1
                          replace hx358_2 := (HB.out.cell (World.block_lt_of_cell? w _ hx358_2)).trans hx358_2
                          replace p358 := eq_true p358
                          replace q358 := eq_true q358
                          go_wp2
                          repeat (go_quiet (fail); try go_wp2)
                          go_roundg k2
                          case measure => have := HK1.out; have := HK2.out; omega
                          case rel => exact ⟨(wrap64 (x7_2 + ((rd_T42 l0 x8_2).f2))), (wrap64 (x8_2 + 1)), (by first | rfl | (simp; done) | (simp [*]; done)), (by first | rfl | (simp; done) | (simp [*]; done)), H', ⟨by have := HK1.out; have := HK2.out; omega⟩, ⟨br HO_5.out⟩, ⟨bz⟩⟩
                        · rw [if_neg c10] at H
                          have c10b0 := decide_eq_false c10
                          clear c10
                          have H' := m0 H
                          clear H
                          have p353 : 0 ≤ (x8_2 : Int) := od
                          have q353 : x8_2 < (l0.length : Int) := od
                          obtain ⟨ad353, e353, hx353_0, hx353_1, hx353_2⟩ := at_T42 HR0.out x8_2 p353 q353
                          cases e353
                          replace hx353_0 := (HB.out.cell (World.block_lt_of_cell? w _ hx353_0)).trans hx353_0
                          replace hx353_1 := (HB.out.cell (World.block_lt_of_cell? w _ hx353_1)).trans hx353_1
                          replace hx353_2 := (HB.out.cell (World.block_lt_of_cell? w _ hx353_2)).trans hx353_2
                          replace p353 := eq_true p353
                          replace q353 := eq_true q353
                          have p354 : 0 ≤ (x6_1 : Int) := od
                          have q354 : x6_1 < (l0.length : Int) := od
                          obtain ⟨ad354, e354, hx354_0, hx354_1, hx354_2⟩ := at_T42 HR0.out x6_1 p354 q354
                          obtain rfl : ad353 = ad354 := (by injection e354)
                          replace hx354_0 := (HB.out.cell (World.block_lt_of_cell? w _ hx354_0)).trans hx354_0
                          replace hx354_1 := (HB.out.cell (World.block_lt_of_cell? w _ hx354_1)).trans hx354_1
                          replace hx354_2 := (HB.out.cell (World.block_lt_of_cell? w _ hx354_2)).trans hx354_2
                          replace p354 := eq_true p354
                          replace q354 := eq_true q354
                          have p356 : 0 ≤ (x8_2 : Int) := od
                          have q356 : x8_2 < (l0.length : Int) := od
                          obtain ⟨ad356, e356, hx356_0, hx356_1, hx356_2⟩ := at_T42 HR0.out x8_2 p356 q356
                          obtain rfl : ad353 = ad356 := (by injection e356)
                          replace hx356_0 := (HB.out.cell (World.block_lt_of_cell? w _ hx356_0)).trans hx356_0
                          replace hx356_1 := (HB.out.cell (World.block_lt_of_cell? w _ hx356_1)).trans hx356_1
                          replace hx356_2 := (HB.out.cell (World.block_lt_of_cell? w _ hx356_2)).trans hx356_2
                          replace p356 := eq_true p356
                          replace q356 := eq_true q356
                          have p357 : 0 ≤ (x6_1 : Int) := od
                          have q357 : x6_1 < (l0.length : Int) := od
                          obtain ⟨ad357, e357, hx357_0, hx357_1, hx357_2⟩ := at_T42 HR0.out x6_1 p357 q357
                          obtain rfl : ad353 = ad357 := (by injection e357)
                          replace hx357_0 := (HB.out.cell (World.block_lt_of_cell? w _ hx357_0)).trans hx357_0
                          replace hx357_1 := (HB.out.cell (World.block_lt_of_cell? w _ hx357_1)).trans hx357_1
                          replace hx357_2 := (HB.out.cell (World.block_lt_of_cell? w _ hx357_2)).trans hx357_2
                          replace p357 := eq_true p357
                          replace q357 := eq_true q357
                          go_wp2
                          repeat (go_quiet (fail); try go_wp2)
                          go_roundg k2
                          case measure => have := HK1.out; have := HK2.out; omega
                          case rel => exact ⟨(x7_2), (wrap64 (x8_2 + 1)), (by first | rfl | (simp; done) | (simp [*]; done)), (by first | rfl | (simp; done) | (simp [*]; done)), H', ⟨by have := HK1.out; have := HK2.out; omega⟩, ⟨br HO_5.out⟩, ⟨bz⟩⟩
                      · rw [if_neg c9] at H
                        have c9b0 := beq_eq_false_iff_ne.mpr c9
                        have c9b1 := bne_iff_ne.mpr c9
                        have H' := m0 H
                        clear H
                        have p353 : 0 ≤ (x8_2 : Int) := od
                        have q353 : x8_2 < (l0.length : Int) := od
                        obtain ⟨ad353, e353, hx353_0, hx353_1, hx353_2⟩ := at_T42 HR0.out x8_2 p353 q353
                        cases e353
                        replace hx353_0 := (HB.out.cell (World.block_lt_of_cell? w _ hx353_0)).trans hx353_0
                        replace hx353_1 := (HB.out.cell (World.block_lt_of_cell? w _ hx353_1)).trans hx353_1
                        replace hx353_2 := (HB.out.cell (World.block_lt_of_cell? w _ hx353_2)).trans hx353_2
                        replace p353 := eq_true p353
                        replace q353 := eq_true q353
                        have p354 : 0 ≤ (x6_1 : Int) := od
                        have q354 : x6_1 < (l0.length : Int) := od
                        obtain ⟨ad354, e354, hx354_0, hx354_1, hx354_2⟩ := at_T42 HR0.out x6_1 p354 q354
                        obtain rfl : ad353 = ad354 := (by injection e354)
                        replace hx354_0 := (HB.out.cell (World.block_lt_of_cell? w _ hx354_0)).trans hx354_0
                        replace hx354_1 := (HB.out.cell (World.block_lt_of_cell? w _ hx354_1)).trans hx354_1
                        replace hx354_2 := (HB.out.cell (World.block_lt_of_cell? w _ hx354_2)).trans hx354_2
                        replace p354 := eq_true p354
                        replace q354 := eq_true q354
                        have p356 : 0 ≤ (x8_2 : Int) := od
                        have q356 : x8_2 < (l0.length : Int) := od
                        obtain ⟨ad356, e356, hx356_0, hx356_1, hx356_2⟩ := at_T42 HR0.out x8_2 p356 q356
                        obtain rfl : ad353 = ad356 := (by injection e356)
                        replace hx356_0 := (HB.out.cell (World.block_lt_of_cell? w _ hx356_0)).trans hx356_0
                        replace hx356_1 := (HB.out.cell (World.block_lt_of_cell? w _ hx356_1)).trans hx356_1
                        replace hx356_2 := (HB.out.cell (World.block_lt_of_cell? w _ hx356_2)).trans hx356_2
                        replace p356 := eq_true p356
                        replace q356 := eq_true q356
                        have p357 : 0 ≤ (x6_1 : Int) := od
                        have q357 : x6_1 < (l0.length : Int) := od
                        obtain ⟨ad357, e357, hx357_0, hx357_1, hx357_2⟩ := at_T42 HR0.out x6_1 p357 q357
                        obtain rfl : ad353 = ad357 := (by injection e357)
                        replace hx357_0 := (HB.out.cell (World.block_lt_of_cell? w _ hx357_0)).trans hx357_0
                        replace hx357_1 := (HB.out.cell (World.block_lt_of_cell? w _ hx357_1)).trans hx357_1
                        replace hx357_2 := (HB.out.cell (World.block_lt_of_cell? w _ hx357_2)).trans hx357_2
                        replace p357 := eq_true p357
                        replace q357 := eq_true q357
                        go_wp2
                        repeat (go_quiet (fail); try go_wp2)
                        go_roundg k2
                        case measure => have := HK1.out; have := HK2.out; omega
                        case rel => exact ⟨(x7_2), (wrap64 (x8_2 + 1)), (by first | rfl | (simp; done) | (simp [*]; done)), (by first | rfl | (simp; done) | (simp [*]; done)), H', ⟨by have := HK1.out; have := HK2.out; omega⟩, ⟨br HO_5.out⟩, ⟨bz⟩⟩
                  · rw [if_neg c7] at H
                    exact absurd H (by simp)
                · rw [if_neg c6] at H
                  exact absurd H (by simp)
              · rw [if_neg c5] at H
                exact absurd H (by simp)
            · rw [if_neg c4] at H
              have c4b0 := decide_eq_false c4
              clear c4
              replace H := ob H
              obtain ⟨t359, A11, H⟩ := H
              (try dsimp only at H)
              replace A11 := m0 A11
              by_cases c12 : x5_1.length < 17592186044416
              · rw [if_pos c12] at H
                have LMc12 := m0 c12
                clear c12
                obtain ⟨y360, hy360⟩ : ∃ y_ : List Int, y_ = (x5_1 ++ [t359]) := ⟨_, rfl⟩
                replace H : (Rf_Days.l0 k2 l0 a1 y360 (wrap64 (x6_1 + 1))) = some r := by first | (rw [hy360]; with_reducible exact H) | (have H2_ := (Option.bind_some _ _).symm.trans H; rw [hy360]; with_reducible exact H2_) | (have H2_ := (Option.bind_some _ _).symm.trans H; with_reducible exact H2_) | with_reducible exact H | (rw [hy360]; exact H) | exact H
                have Ny360 := m0 hy360
                clear hy360
                have H' := m0 H
                clear H
                go_wp2_with (first | (go_at_call 82; (with_reducible refine (Bs_Ceil.calls x7_2 a1 t359 _ A11.out).mono ?_); rintro e w' ⟨rfl, ⟨nd, rfl⟩⟩; (try first | exact ⟨rfl, _, World.drewN_drewN _ _ _⟩ | exact ⟨rfl, _, Eq.trans (World.drewN_drewN _ _ _) (congrArg (World.drewN _) (Nat.add_assoc _ _ _))⟩)) | ((with_reducible refine gate_builtin (b := .append) (xs := #[.tmp 57, .tmp 61]) rfl ?_); at_builtin; refine Kd.R_append (Kd.int .i64) (w0 := w) w.heap.size rfl (.tmp 57) (.tmp 61) 28 3 (.int .i64 0) 8 rfl Try.underlying28 info3 rfl (by decide) (by omega) u5 x5_1 t359 [.int .i64 t359] (fun _ => True) (fun _ => False) rfl rfl ?aP (fun _ hk => hk.elim) ?aF ?aO ?aB ?aS ?aL ?_; (case aP => exact rfl); (case aB => exact bz); (case aF => exact (fun _ _ => trivial)); (case aO => exact (br HO_5.out)); (case aS => exact (below_size bz)); (case aL => have := LMc12.out; omega); intro v361 w13 ho hb hg hat; rw [← Ny360.out] at ho; have n0_ := m0 (hb); have n1_ := m0 (ho); clear HB; clear HO_5; have HB := n0_; have HO362 := n1_; clear n0_ n1_; clear ho hb hg hat))
                repeat (go_quiet (first | (go_at_call 82; (with_reducible refine (Bs_Ceil.calls x7_2 a1 t359 _ A11.out).mono ?_); rintro e w' ⟨rfl, ⟨nd, rfl⟩⟩; (try first | exact ⟨rfl, _, World.drewN_drewN _ _ _⟩ | exact ⟨rfl, _, Eq.trans (World.drewN_drewN _ _ _) (congrArg (World.drewN _) (Nat.add_assoc _ _ _))⟩)) | ((with_reducible refine gate_builtin (b := .append) (xs := #[.tmp 57, .tmp 61]) rfl ?_); at_builtin; refine Kd.R_append (Kd.int .i64) (w0 := w) w.heap.size rfl (.tmp 57) (.tmp 61) 28 3 (.int .i64 0) 8 rfl Try.underlying28 info3 rfl (by decide) (by omega) u5 x5_1 t359 [.int .i64 t359] (fun _ => True) (fun _ => False) rfl rfl ?aP (fun _ hk => hk.elim) ?aF ?aO ?aB ?aS ?aL ?_; (case aP => exact rfl); (case aB => exact bz); (case aF => exact (fun _ _ => trivial)); (case aO => exact (br HO_5.out)); (case aS => exact (below_size bz)); (case aL => have := LMc12.out; omega); intro v361 w13 ho hb hg hat; rw [← Ny360.out] at ho; have n0_ := m0 (hb); have n1_ := m0 (ho); clear HB; clear HO_5; have HB := n0_; have HO362 := n1_; clear n0_ n1_; clear ho hb hg hat)); try go_wp2_with (first | (go_at_call 82; (with_reducible refine (Bs_Ceil.calls x7_2 a1 t359 _ A11.out).mono ?_); rintro e w' ⟨rfl, ⟨nd, rfl⟩⟩; (try first | exact ⟨rfl, _, World.drewN_drewN _ _ _⟩ | exact ⟨rfl, _, Eq.trans (World.drewN_drewN _ _ _) (congrArg (World.drewN _) (Nat.add_assoc _ _ _))⟩)) | ((with_reducible refine gate_builtin (b := .append) (xs := #[.tmp 57, .tmp 61]) rfl ?_); at_builtin; refine Kd.R_append (Kd.int .i64) (w0 := w) w.heap.size rfl (.tmp 57) (.tmp 61) 28 3 (.int .i64 0) 8 rfl Try.underlying28 info3 rfl (by decide) (by omega) u5 x5_1 t359 [.int .i64 t359] (fun _ => True) (fun _ => False) rfl rfl ?aP (fun _ hk => hk.elim) ?aF ?aO ?aB ?aS ?aL ?_; (case aP => exact rfl); (case aB => exact bz); (case aF => exact (fun _ _ => trivial)); (case aO => exact (br HO_5.out)); (case aS => exact (below_size bz)); (case aL => have := LMc12.out; omega); intro v361 w13 ho hb hg hat; rw [← Ny360.out] at ho; have n0_ := m0 (hb); have n1_ := m0 (ho); clear HB; clear HO_5; have HB := n0_; have HO362 := n1_; clear n0_ n1_; clear ho hb hg hat)))
                go_roundg k2
                case measure => have := HK1.out; have := HK2.out; omega
                case rel => exact ⟨(y360), (wrap64 (x6_1 + 1)), (by first | rfl | (simp; done) | (simp [*]; done)), H', ⟨by have := HK1.out; have := HK2.out; omega⟩, ⟨br HO362.out⟩, ⟨bz⟩⟩
              · rw [if_neg c12] at H
                exact absurd H (by simp)
      · rw [if_neg c3] at H
        have c3b0 := decide_eq_false c3
        clear c3
        obtain rfl := Option.some.inj H
        go_wp2
        repeat (go_quiet (fail); try go_wp2)
        go_ret
        exact ⟨_, by first | rfl | (simp [errW_none, errW_some] <;> rfl) | (simp [*, errW_none, errW_some] <;> rfl), by (with_reducible repeat (first | apply Kd.R_alloc | apply Kd.R_drewN | apply Kd.R_drew)); exact HO_5.out, by repeat (first | (with_reducible first | exact HB.out | apply below_alloc | apply pw_below_drewN | apply below_drew1) | exact HB.out)⟩
end
section
mutual
def Rf_Lack.l0 : Nat → List (S42) → Int → Int → Option (Int × Int × Bool)
  | 0, _, _, _ => none
  | k + 1, x0, x1, x7 => if x7 ≤ 1000 then (Rf_Lack.l1 k x0 x1 x7 0 0) else (some (0, 0, false))
def Rf_Lack.l1 : Nat → List (S42) → Int → Int → Int → Int → Option (Int × Int × Bool)
  | 0, _, _, _, _, _ => none
  | k + 1, x0, x1, x7, x8, x9 => if x9 < (x0.length : Int) then (if 0 ≤ x9 then (if ((rd_T42 x0 x9).f1) ≤ x7 then (Rf_Lack.l1 k x0 x1 x7 (wrap64 (x8 + ((rd_T42 x0 x9).f2))) (wrap64 (x9 + 1))) else (Rf_Lack.l1 k x0 x1 x7 x8 (wrap64 (x9 + 1)))) else (none)) else (if x8 > (wrap64 (x7 * x1)) then (some (x7, wrap64 (x8 - (wrap64 (x7 * x1))), true)) else (Rf_Lack.l0 k x0 x1 (wrap64 (x7 + 1))))
end
def Rf_Lack.f (k : Nat) (l0 : List (S42)) (a1 : Int) : Option (Int × Int × Bool) := Rf_Lack.l0 k l0 a1 0
theorem Rf_Lack.mono_l : ∀ k, (∀ y0 y1 y2, LeO (Rf_Lack.l0 k y0 y1 y2) (Rf_Lack.l0 (k + 1) y0 y1 y2)) ∧ (∀ y0 y1 y2 y3 y4, LeO (Rf_Lack.l1 k y0 y1 y2 y3 y4) (Rf_Lack.l1 (k + 1) y0 y1 y2 y3 y4))
  | 0 => ⟨fun _ _ _ r h => by simp [Rf_Lack.l0] at h, fun _ _ _ _ _ r h => by simp [Rf_Lack.l1] at h⟩
  | k + 1 => by
    obtain ⟨ih0, ih1⟩ := Rf_Lack.mono_l k
    refine ⟨?_, ?_⟩
    · intro y0 y1 y2
      unfold Rf_Lack.l0
      repeat' with_reducible first
        | exact ih0 ..
        | exact ih1 ..
        | exact LeO.refl ..
        | exact LeO.none ..
        | refine LeO.ite ?_ ?_
        | refine LeO.bind ?_ (fun _ => ?_)
    · intro y0 y1 y2 y3 y4
      unfold Rf_Lack.l1
      repeat' with_reducible first
        | exact ih0 ..
        | exact ih1 ..
        | exact LeO.refl ..
        | exact LeO.none ..
        | refine LeO.ite ?_ ?_
        | refine LeO.bind ?_ (fun _ => ?_)
theorem Rf_Lack.mono : ∀ a0 a1 k, LeO (Rf_Lack.f k a0 a1) (Rf_Lack.f (k + 1) a0 a1) := by
  intro a0 a1 k
  obtain ⟨ih0, ih1⟩ := Rf_Lack.mono_l k
  unfold Rf_Lack.f
  repeat' with_reducible first
    | exact ih0 ..
    | exact ih1 ..
    | exact LeO.refl ..
    | exact LeO.none ..
    | refine LeO.ite ?_ ?_
    | refine LeO.bind ?_ (fun _ => ?_)
theorem Rf_Lack.calls (k : Nat) (A0 : Option Addr) (c0 : Nat) (l0 : List (S42)) (a1 : Int) (r1 : Int) (r2 : Int) (r3 : Bool) (w : World) (hr0 : Kd.C k42 w A0 l0.length l0) (hc0 : l0.length ≤ c0) (h : Rf_Lack.f k l0 a1 = some (r1, r2, r3)) :
    Calls Try.prog 23 #[.slice A0 l0.length c0, .int .i64 a1] w fun e w' => e = .returned (.tuple #[.int .i64 r1, .int .i64 r2, .bool r3]) ∧ Drawn0 w w' := by
  have HR0 := m0 hr0
  have HC0 := m0 hc0
  clear hr0 hc0
  have H : (Rf_Lack.l0 k l0 a1 0) = some (r1, r2, r3) := h
  clear h
  have H' := m0 H
  clear H
  go_enter Try.func23, Try.ntmps23
  go_wp2
  go_loopg [7] k (fun kq v7 w' => ∃ (x7_1 : Int), v7 = .int .i64 x7_1 ∧ Aside0 (Rf_Lack.l0 kq l0 a1 x7_1 = some (r1, r2, r3)) ∧ Aside0 (kq ≤ k) ∧ Drawn0 w w')
  case atStart => exact ⟨(0), (by first | rfl | (simp; done) | (simp [*]; done)), H', ⟨Nat.le_refl _⟩, by repeat (first | exact Drawn0.refl _ | apply Drawn0.step)⟩
  case round =>
    clear H'
    obtain ⟨x7_1, rfl, HA, HK1, ⟨m1, rfl⟩⟩ := hrel
    cases gk with
    | zero => exact absurd HA.out (by simp [Rf_Lack.l0])
    | succ k1 =>
      have H := HA.out
      clear HA
      simp only [Rf_Lack.l0] at H
      by_cases c3 : x7_1 ≤ 1000
      · rw [if_pos c3] at H
        have c3b0 := decide_eq_true c3
        clear c3
        have H' := m0 H
        clear H
        go_wp2
        go_loopg [8, 9] k1 (fun kq v8 v9 w' => ∃ (x8_2 : Int) (x9_2 : Int), v8 = .int .i64 x8_2 ∧ v9 = .int .i64 x9_2 ∧ Aside0 (Rf_Lack.l1 kq l0 a1 x7_1 x8_2 x9_2 = some (r1, r2, r3)) ∧ Aside0 (kq ≤ k1) ∧ Drawn0 w w')
        case atStart => exact ⟨(0), (0), (by first | rfl | (simp; done) | (simp [*]; done)), (by first | rfl | (simp; done) | (simp [*]; done)), H', ⟨Nat.le_refl _⟩, by repeat (first | exact Drawn0.refl _ | apply Drawn0.step)⟩
        case round =>
          clear H'
          obtain ⟨x8_2, x9_2, rfl, rfl, HA, HK2, ⟨m2, rfl⟩⟩ := hrel
          cases gk with
          | zero => exact absurd HA.out (by simp [Rf_Lack.l1])
          | succ k2 =>
            have H := HA.out
            clear HA
            simp only [Rf_Lack.l1] at H
            by_cases c4 : x9_2 < (l0.length : Int)
            · rw [if_pos c4] at H
              have c4b0 := decide_eq_true c4
              clear c4
              by_cases c5 : 0 ≤ x9_2
              · rw [if_pos c5] at H
                have c5b0 := decide_eq_true c5
                clear c5
                by_cases c6 : ((rd_T42 l0 x9_2).f1) ≤ x7_1
                · rw [if_pos c6] at H
                  have c6b0 := decide_eq_true c6
                  clear c6
                  have H' := m0 H
                  clear H
                  have p363 : 0 ≤ (x9_2 : Int) := od
                  have q363 : x9_2 < (l0.length : Int) := od
                  obtain ⟨ad363, e363, hx363_0, hx363_1, hx363_2⟩ := at_T42 HR0.out x9_2 p363 q363
                  cases e363
                  replace p363 := eq_true p363
                  replace q363 := eq_true q363
                  have p364 : 0 ≤ (x9_2 : Int) := od
                  have q364 : x9_2 < (l0.length : Int) := od
                  obtain ⟨ad364, e364, hx364_0, hx364_1, hx364_2⟩ := at_T42 HR0.out x9_2 p364 q364
                  obtain rfl : ad363 = ad364 := (by injection e364)
                  replace p364 := eq_true p364
                  replace q364 := eq_true q364
                  go_wp2
                  go_roundg k2
                  case measure => have := HK1.out; have := HK2.out; omega
                  case rel => exact ⟨(wrap64 (x8_2 + ((rd_T42 l0 x9_2).f2))), (wrap64 (x9_2 + 1)), (by first | rfl | (simp; done) | (simp [*]; done)), (by first | rfl | (simp; done) | (simp [*]; done)), H', ⟨by have := HK1.out; have := HK2.out; omega⟩, by repeat (first | exact Drawn0.refl _ | apply Drawn0.step)⟩
                · rw [if_neg c6] at H
                  have c6b0 := decide_eq_false c6
                  clear c6
                  have H' := m0 H
                  clear H
                  have p363 : 0 ≤ (x9_2 : Int) := od
                  have q363 : x9_2 < (l0.length : Int) := od
                  obtain ⟨ad363, e363, hx363_0, hx363_1, hx363_2⟩ := at_T42 HR0.out x9_2 p363 q363
                  cases e363
                  replace p363 := eq_true p363
                  replace q363 := eq_true q363
                  go_wp2
                  go_roundg k2
                  case measure => have := HK1.out; have := HK2.out; omega
                  case rel => exact ⟨(x8_2), (wrap64 (x9_2 + 1)), (by first | rfl | (simp; done) | (simp [*]; done)), (by first | rfl | (simp; done) | (simp [*]; done)), H', ⟨by have := HK1.out; have := HK2.out; omega⟩, by repeat (first | exact Drawn0.refl _ | apply Drawn0.step)⟩
              · rw [if_neg c5] at H
                exact absurd H (by simp)
            · rw [if_neg c4] at H
              have c4b0 := decide_eq_false c4
              clear c4
              by_cases c7 : x8_2 > (wrap64 (x7_1 * a1))
              · rw [if_pos c7] at H
                have c7b0 := decide_eq_true c7
                clear c7
                simp only [Option.some.injEq, Prod.mk.injEq] at H
                obtain ⟨rfl, rfl, rfl⟩ := H
                go_wp2
                go_ret3
                exact ⟨by first | rfl | (simp; done) | (simp [*]; done), by repeat (first | exact Drawn0.refl _ | apply Drawn0.step)⟩
              · rw [if_neg c7] at H
                have c7b0 := decide_eq_false c7
                clear c7
                have H' := m0 H
                clear H
                go_wp2
                go_roundg k2
                case measure => have := HK1.out; have := HK2.out; omega
                case rel => exact ⟨(wrap64 (x7_1 + 1)), (by first | rfl | (simp; done) | (simp [*]; done)), H', ⟨by have := HK1.out; have := HK2.out; omega⟩, by repeat (first | exact Drawn0.refl _ | apply Drawn0.step)⟩
      · rw [if_neg c3] at H
        have c3b0 := decide_eq_false c3
        clear c3
        simp only [Option.some.injEq, Prod.mk.injEq] at H
        obtain ⟨rfl, rfl, rfl⟩ := H
        go_wp2
        go_ret3
        exact ⟨by first | rfl | (simp; done) | (simp [*]; done), by repeat (first | exact Drawn0.refl _ | apply Drawn0.step)⟩
end
end Go.Proofs.Ytibhfahbabgbaaa.A
