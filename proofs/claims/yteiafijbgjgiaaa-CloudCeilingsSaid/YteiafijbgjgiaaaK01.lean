/- Walks of the program's functions (printed, made shorter), each with what it computes. -/
import Derived.Test.YteiafijbgjgiaaaB06
import Derived.Test.YteiafijbgjgiaaaB05
import Derived.Test.YteiafijbgjgiaaaB09
import Derived.Test.YteiafijbgjgiaaaB12
namespace Go.Proofs.Yteiafijbgjgiaaa.A
set_option maxHeartbeats 8000000
set_option maxRecDepth 100000
open Go.RowKit Go.Proofs.YteiafijbgjgiaaaW.PrintWords Go.Proofs.YteiafijbgjgiaaaW.PrintLast Go.Proofs.YteiafijbgjgiaaaW.PrintMore
attribute [local go_sem] max2_int min2_int max_two min_two max_three min_three max_four min_four
set_option linter.unusedVariables false
set_option linter.unusedSimpArgs false
section
def Bs_Within.f (a0 : Int) (a1 : Int) (a2 : Int) : Option (Bool) := if a1 ≤ a0 then (some (decide (a0 ≤ a2))) else (some false)
theorem Bs_Within.calls (a0 : Int) (a1 : Int) (a2 : Int) (r : Bool) (w : World) (H : Bs_Within.f a0 a1 a2 = some r) :
  Calls Try.prog 19 #[.int .i64 a0, .int .i64 a1, .int .i64 a2] w fun e w' => e = .returned (.bool r) ∧ Drawn0 w w' := by
 unfold Bs_Within.f at H
 by_cases c4 : a1 ≤ a0
 ·rw [if_pos c4] at H; have c4b0 := decide_eq_true c4; clear c4; obtain rfl := Option.some.inj H; go_enter Try.func19, Try.ntmps19
  go_wp2
  go_ret
  exact ⟨rz, by repeat (first | exact Drawn0.refl _ | apply Drawn0.step)⟩
 ·rw [if_neg c4] at H; have c4b0 := decide_eq_false c4; clear c4; obtain rfl := Option.some.inj H; go_enter Try.func19, Try.ntmps19
  go_wp2
  go_ret
  exact ⟨rz, by repeat (first | exact Drawn0.refl _ | apply Drawn0.step)⟩
end
section
def Bs_CopyInts.f (l0 : List Int) : Option (List Int) := (some (([] : List Int) : List Int)).bind fun y404 => (if y404.length + l0.length < 17592186044416 then (some (y404 ++ l0)) else (none))
theorem Bs_CopyInts.calls (A0 : Option Addr) (c0 : Nat) (l0 : List Int) (r : List Int) (w : World) (hr0 : Kd.C (Kd.int .i64) w A0 l0.length l0) (hc0 : l0.length ≤ c0) (H : Bs_CopyInts.f l0 = some r) :
  Calls Try.prog 26 #[.slice A0 l0.length c0] w fun e w' => ∃ v0_ : Value, e = .returned (v0_) ∧ Kd.R (Kd.int .i64) 3 w' w.heap.size (fun _ => True) v0_ r ∧ Below w.heap.size w w' := by
 have HR0 := m0 hr0; have HC0 := m0 hc0; clear hr0 hc0; have HB := m0 (Below.refl w.heap.size w); unfold Bs_CopyInts.f at H; obtain ⟨y404, hy404⟩ : ∃ y_ : List Int, y_ = (([] : List Int)) := ⟨_, rfl⟩; replace H : (if y404.length + l0.length < 17592186044416 then (some (y404 ++ l0)) else (none)) = some r := by first | (rw [hy404]; with_reducible exact H) | (have H2_ := (Option.bind_some _ _).symm.trans H; rw [hy404]; with_reducible exact H2_) | (have H2_ := (Option.bind_some _ _).symm.trans H; with_reducible exact H2_) | with_reducible exact H | (rw [hy404]; exact H) | exact H
 have Ny404 := m0 hy404; clear hy404
 by_cases c2 : y404.length + l0.length < 17592186044416
 ·rw [if_pos c2] at H; have LMc2 := m0 c2; clear c2; obtain ⟨y407, hy407⟩ : ∃ y_ : List Int, y_ = (y404 ++ l0) := ⟨_, rfl⟩; replace H : (some y407) = some r := by first | (rw [hy407]; with_reducible exact H) | (have H2_ := (Option.bind_some _ _).symm.trans H; rw [hy407]; with_reducible exact H2_) | (have H2_ := (Option.bind_some _ _).symm.trans H; with_reducible exact H2_) | with_reducible exact H | (rw [hy407]; exact H) | exact H
  have Ny407 := m0 hy407; clear hy407; obtain rfl := Option.some.inj H; go_enter Try.func26, Try.ntmps26
  go_wp2_with (first | ((with_reducible refine ga 3 rfl ?_); refine Kd.R_lit (Kd.int .i64) _ 3 ?hg (N := 3) ?hd (xs := ([] : List Int)) (inner := []) (ok := fun _ => True) (okp := fun _ => True) ?hr ?hp (fun _ hk => hk) trivial (Below.refl _ _) (Nat.le_refl _) (by simp) ?_; (case hd => rfl); (case hg => rfl); (case hr => first | (go_simp; done) | (go_simp; rfl)); (case hp => exact (Reps.none _ _)); intro v405 w3 ho4 hb hg_ hnew_; clear hg_ hnew_; (first | rw [← Ny404.out] at ho4 | (simp only [Int.reduceToNat] at ho4; rw [← Ny404.out] at ho4)); have HO406 := m0 (Kd.R_lower ho4 (below_size bz)); replace HB := sb HB hb; clear hb ho4) | ((with_reducible refine gate_builtin (b := .append) (xs := #[.tmp 3, .tmp 4]) rfl ?_); at_builtin; refine Kd.R_append_rows (Kd.int .i64) (w0 := w) w.heap.size rfl (.tmp 3) (.tmp 4) 41 3 (.int .i64 0) 8 rfl Try.underlying41 info3 rfl (by decide) (by omega) v405 y404 l0 _ _ _ (fun _ => True) (fun _ => False) rfl rfl ?aO ?aR (fun _ _ h => h) (fun _ h => h.elim) ?aF ?aB ?aS ?aL ?_; (case aR => exact cb HR0 HB); (case aB => exact bz); (case aF => exact (fun _ _ => trivial)); (case aO => exact (br HO406.out)); (case aS => exact (below_size bz)); (case aL => have := LMc2.out; omega); intro v408 w5 ho hb hg hat; rw [← Ny407.out] at ho; have n0_ := m0 (hb); have n1_ := m0 (ho); clear HB; clear HO406; have HB := n0_; have HO409 := n1_; clear n0_ n1_; clear ho hb hg hat))
  go_ret
  exact ⟨_, by first | rfl | (simp [errW_none, errW_some] <;> rfl) | (simp [*, errW_none, errW_some] <;> rfl), by (with_reducible repeat (first | apply Kd.R_alloc | apply Kd.R_drewN | apply Kd.R_drew)); exact HO409.out, by repeat (first | (with_reducible first | exact HB.out | apply below_alloc | apply pw_below_drewN | apply below_drew1) | exact HB.out)⟩
 ·rw [if_neg c2] at H; exact absurd H (by simp)
end
section
def Rf_CopyLayers.f (l0 : List (S112)) : Option ((List (S112))) := (some (([] : List (S112)) : List (S112))).bind fun y496 => (if y496.length + l0.length < 5864062014805 then (some (y496 ++ l0)) else (none))
theorem Rf_CopyLayers.calls (A0 : Option Addr) (c0 : Nat) (l0 : List (S112)) (r : List (S112)) (w : World) (hr0 : Kd.C k112 w A0 l0.length l0) (hc0 : l0.length ≤ c0) (H : Rf_CopyLayers.f l0 = some r) :
  Calls Try.prog 23 #[.slice A0 l0.length c0] w fun e w' => ∃ v0_ : Value, e = .returned (v0_) ∧ Kd.R k112 112 w' w.heap.size (fun _ => True) v0_ r ∧ Below w.heap.size w w' := by
 have HR0 := m0 hr0; have HC0 := m0 hc0; clear hr0 hc0; have HB := m0 (Below.refl w.heap.size w); unfold Rf_CopyLayers.f at H; obtain ⟨y496, hy496⟩ : ∃ y_ : List (S112), y_ = (([] : List (S112))) := ⟨_, rfl⟩; replace H : (if y496.length + l0.length < 5864062014805 then (some (y496 ++ l0)) else (none)) = some r := by first | (rw [hy496]; with_reducible exact H) | (have H2_ := (Option.bind_some _ _).symm.trans H; rw [hy496]; with_reducible exact H2_) | (have H2_ := (Option.bind_some _ _).symm.trans H; with_reducible exact H2_) | with_reducible exact H | (rw [hy496]; exact H) | exact H
 have Ny496 := m0 hy496; clear hy496
 by_cases c2 : y496.length + l0.length < 5864062014805
 ·rw [if_pos c2] at H; have LMc2 := m0 c2; clear c2; obtain ⟨y499, hy499⟩ : ∃ y_ : List (S112), y_ = (y496 ++ l0) := ⟨_, rfl⟩; replace H : (some y499) = some r := by first | (rw [hy499]; with_reducible exact H) | (have H2_ := (Option.bind_some _ _).symm.trans H; rw [hy499]; with_reducible exact H2_) | (have H2_ := (Option.bind_some _ _).symm.trans H; with_reducible exact H2_) | with_reducible exact H | (rw [hy499]; exact H) | exact H
  have Ny499 := m0 hy499; clear hy499; obtain rfl := Option.some.inj H; go_enter Try.func23, Try.ntmps23
  go_wp2_with (first | ((with_reducible refine ga 3 rfl ?_); refine Kd.R_lit k112 _ 112 ?hg (N := 3) ?hd (xs := ([] : List (S112))) (inner := []) (ok := fun _ => True) (okp := fun _ => True) ?hr ?hp (fun _ hk => hk) trivial (Below.refl _ _) (Nat.le_refl _) (by simp) ?_; (case hd => rfl); (case hg => rfl); (case hr => first | (go_simp; done) | (go_simp; rfl)); (case hp => exact (Reps.none _ _)); intro v497 w3 ho4 hb hg_ hnew_; clear hg_ hnew_; (first | rw [← Ny496.out] at ho4 | (simp only [Int.reduceToNat] at ho4; rw [← Ny496.out] at ho4)); have HO498 := m0 (Kd.R_lower ho4 (below_size bz)); replace HB := sb HB hb; clear hb ho4) | ((with_reducible refine gate_builtin (b := .append) (xs := #[.tmp 3, .tmp 4]) rfl ?_); at_builtin; refine Kd.R_append_rows k112 (w0 := w) w.heap.size rfl (.tmp 3) (.tmp 4) 40 112 (.agg #[(.int .i64 0), (.int .i64 0), (.int .i64 0)]) 24 rfl Try.underlying40 info112 rfl (by decide) (by omega) v497 y496 l0 _ _ _ (fun _ => True) (fun _ => False) rfl rfl ?aO ?aR (fun _ _ h => h) (fun _ h => h.elim) ?aF ?aB ?aS ?aL ?_; (case aR => exact cb HR0 HB); (case aB => exact bz); (case aF => exact (fun _ _ => trivial)); (case aO => exact (br HO498.out)); (case aS => exact (below_size bz)); (case aL => have := LMc2.out; omega); intro v500 w5 ho hb hg hat; rw [← Ny499.out] at ho; have n0_ := m0 (hb); have n1_ := m0 (ho); clear HB; clear HO498; have HB := n0_; have HO501 := n1_; clear n0_ n1_; clear ho hb hg hat))
  go_ret
  exact ⟨_, by first | rfl | (simp [errW_none, errW_some] <;> rfl) | (simp [*, errW_none, errW_some] <;> rfl), by (with_reducible repeat (first | apply Kd.R_alloc | apply Kd.R_drewN | apply Kd.R_drew)); exact HO501.out, by repeat (first | (with_reducible first | exact HB.out | apply below_alloc | apply pw_below_drewN | apply below_drew1) | exact HB.out)⟩
 ·rw [if_neg c2] at H; exact absurd H (by simp)
end
section
def L_MiddleOf_1.f (a0 : Int) : Option (Int) := (L_isHeight.f a0).bind fun t502 => ((L_unless.f t502 2).bind fun t503 => (some t503))
theorem L_MiddleOf_1.calls (a0 : Int) (r : Int) (w : World) (H : L_MiddleOf_1.f a0 = some r) :
  Calls Try.prog 81 #[.int .i64 a0] w fun e w' => e = .returned (.int .i64 r) ∧ Drawn0 w w' := by
 unfold L_MiddleOf_1.f at H; replace H := oa H; obtain ⟨t502, A2, H⟩ := H; (try dsimp only at H); replace H := oa H; obtain ⟨t503, A3, H⟩ := H; (try dsimp only at H); obtain rfl := Option.some.inj H; go_enter Try.func81, Try.ntmps81
 go_wp2_with (first | ((with_reducible refine gc 75 rfl ?_); refine gl (some 4) Try.func75 #[.int .i64 a0] ?_; (with_reducible refine (L_isHeight.calls a0 t502 _ A2.out).mono ?_); rintro e w' ⟨rfl, ⟨nd, rfl⟩⟩; refine ⟨_, rfl, ?_⟩) | ((with_reducible refine gc 69 rfl ?_); refine gl (some 5) Try.func69 #[.bool t502, .int .i64 2] ?_; (with_reducible refine (L_unless.calls t502 2 t503 _ A3.out).mono ?_); rintro e w' ⟨rfl, ⟨nd, rfl⟩⟩; refine ⟨_, rfl, ?_⟩))
 go_ret
 exact ⟨rz, by repeat (first | exact Drawn0.refl _ | apply Drawn0.step)⟩
end
section
def L_each_int_MiddleOf_1.l0 : Nat → List Int → Int → Int → Option (Int × Int)
 | 0, _, _, _ => none
 | k + 1, x9, x10, x11 => if x11 < x10 then (if 0 ≤ x11 then (if x11 < (x9.length : Int) then ((L_MiddleOf_1.f (rd x9 x11)).bind fun t505 => (if t505 = 0 then (L_each_int_MiddleOf_1.l0 k x9 x10 (wrap64 (x11 + 1))) else (some (x11, t505)))) else (none)) else (none)) else (some (0, 0))
def L_each_int_MiddleOf_1.f (k : Nat) (l0 : List Int)  : Option (Int × Int) := L_each_int_MiddleOf_1.l0 k l0 (l0.length : Int) 0
theorem L_each_int_MiddleOf_1.mono_l : ∀ k, (∀ y0 y1 y2, LeO (L_each_int_MiddleOf_1.l0 k y0 y1 y2) (L_each_int_MiddleOf_1.l0 (k + 1) y0 y1 y2))
 | 0 => fun _ _ _ r h => by simp [L_each_int_MiddleOf_1.l0] at h
 | k + 1 => by
  have ih0 := L_each_int_MiddleOf_1.mono_l k
  ·intro y0 y1 y2; unfold L_each_int_MiddleOf_1.l0
   repeat' with_reducible first
    | exact ih0 ..
    | exact LeO.refl ..
    | exact LeO.none ..
    | refine LeO.ite ?_ ?_
    | refine LeO.bind ?_ (fun _ => ?_)
theorem L_each_int_MiddleOf_1.mono : ∀ a0 k, LeO (L_each_int_MiddleOf_1.f k a0) (L_each_int_MiddleOf_1.f (k + 1) a0) := by
 intro a0 k; have ih0 := L_each_int_MiddleOf_1.mono_l k; unfold L_each_int_MiddleOf_1.f
 repeat' with_reducible first
  | exact ih0 ..
  | exact LeO.refl ..
  | exact LeO.none ..
  | refine LeO.ite ?_ ?_
  | refine LeO.bind ?_ (fun _ => ?_)
theorem L_each_int_MiddleOf_1.calls (k : Nat) (A0 : Option Addr) (c0 : Nat) (l0 : List Int)  (r1 : Int) (r2 : Int) (w : World) (hr0 : Kd.C (Kd.int .i64) w A0 l0.length l0) (hc0 : l0.length ≤ c0) (H : L_each_int_MiddleOf_1.f k l0 = some (r1, r2)) :
  Calls Try.prog 80 #[.slice A0 l0.length c0, .func (.func 81) #[] #[]] w fun e w' => e = .returned (.tuple #[.int .i64 r1, .int .i64 r2]) ∧ Drawn0 w w' := by
 have HR0 := m0 hr0; have HC0 := m0 hc0; clear hr0 hc0; unfold L_each_int_MiddleOf_1.f at H; have H' := m0 H; clear H; go_enter Try.func80, Try.ntmps80
 go_wp2
 go_loopg [11] k (fun kq v11 w' => ∃ (x11_1 : Int), v11 = .int .i64 x11_1 ∧ Aside0 (L_each_int_MiddleOf_1.l0 kq l0 (l0.length : Int) x11_1 = some (r1, r2)) ∧ Aside0 (kq ≤ k) ∧ Drawn0 w w')
 case atStart => exact ⟨(0), rz, H', ⟨Nat.le_refl _⟩, by repeat (first | exact Drawn0.refl _ | apply Drawn0.step)⟩
 case round =>
  clear H'; obtain ⟨x11_1, rfl, HA, HK1, ⟨m1, rfl⟩⟩ := hrel
  cases gk with
  | zero => exact absurd HA.out (by simp [L_each_int_MiddleOf_1.l0])
  | succ k1 =>
   have H := HA.out; clear HA; simp only [L_each_int_MiddleOf_1.l0] at H
   by_cases c3 : x11_1 < (l0.length : Int)
   ·rw [if_pos c3] at H; have c3b0 := decide_eq_true c3; clear c3
    by_cases c4 : 0 ≤ x11_1
    ·rw [if_pos c4] at H; have c4b0 := decide_eq_true c4; clear c4
     by_cases c5 : x11_1 < (l0.length : Int)
     ·rw [if_pos c5] at H; have c5b0 := decide_eq_true c5; clear c5; replace H := oa H; obtain ⟨t505, A6, H⟩ := H; (try dsimp only at H)
      by_cases c7 : t505 = 0
      ·rw [if_pos c7] at H; have c7b0 := beq_iff_eq.mpr c7; have c7b1 := bne_eq_false_iff_eq.mpr c7; clear c7; have H' := m0 H; clear H; have p504 : 0 ≤ (x11_1 : Int) := od; have q504 : x11_1 < (l0.length : Int) := od; obtain ⟨ad504, e504, hx504_0⟩ := Kd.at_int HR0.out x11_1 p504 q504
       cases e504
       replace p504 := eq_true p504; replace q504 := eq_true q504
       go_wp2_with (first | (go_at_call 81; (with_reducible refine (L_MiddleOf_1.calls (rd l0 x11_1) t505 _ A6.out).mono ?_); rintro e w' ⟨rfl, ⟨nd, rfl⟩⟩))
       go_roundg k1
       case measure => have := HK1.out; omega
       case rel => exact ⟨(wrap64 (x11_1 + 1)), rz, H', ⟨by have := HK1.out; omega⟩, by repeat (first | exact Drawn0.refl _ | apply Drawn0.step)⟩
      ·rw [if_neg c7] at H; have c7b0 := beq_eq_false_iff_ne.mpr c7; have c7b1 := bne_iff_ne.mpr c7; simp only [Option.some.injEq, Prod.mk.injEq] at H; obtain ⟨rfl, rfl⟩ := H; have p504 : 0 ≤ (x11_1 : Int) := od; have q504 : x11_1 < (l0.length : Int) := od; obtain ⟨ad504, e504, hx504_0⟩ := Kd.at_int HR0.out x11_1 p504 q504
       cases e504
       replace p504 := eq_true p504; replace q504 := eq_true q504
       go_wp2_with (first | (go_at_call 81; (with_reducible refine (L_MiddleOf_1.calls (rd l0 x11_1) t505 _ A6.out).mono ?_); rintro e w' ⟨rfl, ⟨nd, rfl⟩⟩))
       go_ret2
       exact ⟨rz, by repeat (first | exact Drawn0.refl _ | apply Drawn0.step)⟩
     ·rw [if_neg c5] at H; exact absurd H (by simp)
    ·rw [if_neg c4] at H; exact absurd H (by simp)
   ·rw [if_neg c3] at H; have c3b0 := decide_eq_false c3; clear c3; simp only [Option.some.injEq, Prod.mk.injEq] at H; obtain ⟨rfl, rfl⟩ := H
    go_wp2
    go_ret2
    exact ⟨rz, by repeat (first | exact Drawn0.refl _ | apply Drawn0.step)⟩
end
section
def L_MiddleOf.f (k : Nat) (l0 : List Int) : Option (Int × Int) := (L_unless.f (decide ((l0.length : Int) > 0)) 10).bind fun t506 => ((L_unless.f (decide ((l0.length : Int) ≤ 15)) 8).bind fun t507 => ((L_first.f k (([t506, t507] : List Int))).bind fun t511 => (if t511 = 0 then ((L_each_int_MiddleOf_1.f k l0).bind fun bt512 => (if bt512.2 = 0 then ((L_sorted_ints.f l0).bind fun t515 => (if 0 ≤ (wrap64 (Int.tdiv (wrap64 ((l0.length : Int) - 1)) 2)) then (if (wrap64 (Int.tdiv (wrap64 ((l0.length : Int) - 1)) 2)) < (t515.length : Int) then (some (rd t515 (wrap64 (Int.tdiv (wrap64 ((l0.length : Int) - 1)) 2)), 0)) else (none)) else (none))) else (some (0, bt512.2)))) else (some (0, t511)))))
theorem L_MiddleOf.mono : ∀ a0 k, LeO (L_MiddleOf.f k a0) (L_MiddleOf.f (k + 1) a0) := by
 intro a0 k; unfold L_MiddleOf.f
 repeat' with_reducible first
  | exact L_each_int_MiddleOf_1.mono ..
  | exact L_first.mono ..
  | exact LeO.refl ..
  | exact LeO.none ..
  | refine LeO.ite ?_ ?_
  | refine LeO.bind ?_ (fun _ => ?_)
theorem L_MiddleOf.calls (k : Nat) (A0 : Option Addr) (c0 : Nat) (l0 : List Int) (r1 : Int) (r2 : Int) (w : World) (hr0 : Kd.C (Kd.int .i64) w A0 l0.length l0) (hc0 : l0.length ≤ c0) (H : L_MiddleOf.f k l0 = some (r1, r2)) :
  Calls Try.prog 25 #[.slice A0 l0.length c0] w fun e w' => e = .returned (.tuple #[.int .i64 r1, .int .i64 r2]) ∧ Below w.heap.size w w' := by
 have HR0 := m0 hr0; have HC0 := m0 hc0; clear hr0 hc0; have HB := m0 (Below.refl w.heap.size w); unfold L_MiddleOf.f at H; replace H := oa H; obtain ⟨t506, A2, H⟩ := H; (try dsimp only at H); replace H := oa H; obtain ⟨t507, A3, H⟩ := H; (try dsimp only at H); obtain ⟨y508, hy508⟩ : ∃ y_ : List Int, y_ = (([t506, t507] : List Int)) := ⟨_, rfl⟩; replace H : ((L_first.f k y508).bind fun t511 => (if t511 = 0 then ((L_each_int_MiddleOf_1.f k l0).bind fun bt512 => (if bt512.2 = 0 then ((L_sorted_ints.f l0).bind fun t515 => (if 0 ≤ (wrap64 (Int.tdiv (wrap64 ((l0.length : Int) - 1)) 2)) then (if (wrap64 (Int.tdiv (wrap64 ((l0.length : Int) - 1)) 2)) < (t515.length : Int) then (some (rd t515 (wrap64 (Int.tdiv (wrap64 ((l0.length : Int) - 1)) 2)), 0)) else (none)) else (none))) else (some (0, bt512.2)))) else (some (0, t511)))) = some (r1, r2) := by first | (rw [hy508]; with_reducible exact H) | (have H2_ := (Option.bind_some _ _).symm.trans H; rw [hy508]; with_reducible exact H2_) | (have H2_ := (Option.bind_some _ _).symm.trans H; with_reducible exact H2_) | with_reducible exact H | (rw [hy508]; exact H) | exact H
 have Ny508 := m0 hy508; clear hy508; replace H := oa H; obtain ⟨t511, A4, H⟩ := H; (try dsimp only at H)
 by_cases c5 : t511 = 0
 ·rw [if_pos c5] at H; have c5b0 := beq_iff_eq.mpr c5; have c5b1 := bne_eq_false_iff_eq.mpr c5; clear c5; replace H := oa H; obtain ⟨⟨t512, t513⟩, A6, H⟩ := H; (try dsimp only at H)
  by_cases c7 : t513 = 0
  ·rw [if_pos c7] at H; have c7b0 := beq_iff_eq.mpr c7; have c7b1 := bne_eq_false_iff_eq.mpr c7; clear c7; replace H := oa H; obtain ⟨t515, A8, H⟩ := H; (try dsimp only at H); obtain ⟨ji9, hji9⟩ : ∃ j_ : Int, (wrap64 (Int.tdiv (wrap64 ((l0.length : Int) - 1)) 2)) = j_ := ⟨_, rfl⟩; replace H : (if 0 ≤ (ji9) then (if (ji9) < (t515.length : Int) then (some (rd t515 (ji9), 0)) else (none)) else (none)) = some (r1, r2) := by first | (rw [hji9] at H; exact H) | (simp only [hji9] at H ⊢; exact H)
   (try rw [hji9] at A2); (try rw [hji9] at A3); (try rw [hji9] at A4); (try rw [hji9] at A6); (try rw [hji9] at A8); have hji9w : (IntKind.i64.wrap (Int.tdiv (wrap64 ((l0.length : Int) - 1)) 2)) = ji9 := (i64_w _).trans hji9
   by_cases c10 : 0 ≤ (ji9)
   ·rw [if_pos c10] at H; have c10b0 := decide_eq_true c10; clear c10
    by_cases c11 : (ji9) < (t515.length : Int)
    ·rw [if_pos c11] at H; have c11b0 := decide_eq_true c11; clear c11; simp only [Option.some.injEq, Prod.mk.injEq] at H; obtain ⟨rfl, rfl⟩ := H; go_enter Try.func25, Try.ntmps25
     go_wp2_with (first | ((with_reducible refine gc 69 rfl ?_); refine goesL_ (some 10) rfl rfl Try.func69 (by kernel_rfl) rfl #[.bool (decide ((l0.length : Int) > 0)), .int .i64 10] rfl (by (try simp only [List.map_toArray, List.map_cons, List.map_nil]); first | done | rfl | (simp only [List.length_drop, List.length_take]; rfl) | (simp; first | done | exact ⟨rfl, rfl⟩)) ?_; (with_reducible refine (L_unless.calls (decide ((l0.length : Int) > 0)) 10 t506 _ A2.out).mono ?_); rintro e w' ⟨rfl, ⟨nd, rfl⟩⟩; refine ⟨_, rfl, ?_⟩) | ((with_reducible refine gc 69 rfl ?_); refine gl (some 14) Try.func69 #[.bool (decide ((l0.length : Int) ≤ 15)), .int .i64 8] ?_; (with_reducible refine (L_unless.calls (decide ((l0.length : Int) ≤ 15)) 8 t507 _ A3.out).mono ?_); rintro e w' ⟨rfl, ⟨nd, rfl⟩⟩; refine ⟨_, rfl, ?_⟩) | ((with_reducible refine ga 15 rfl ?_); refine Kd.R_lit (Kd.int .i64) _ 26 ?hg (N := 15) ?hd (xs := ([t506, t507] : List Int)) (inner := [.int .i64 t506, .int .i64 t507]) (ok := fun _ => True) (okp := fun _ => True) ?hr ?hp (fun _ hk => hk) trivial (Below.refl _ _) (Nat.le_refl _) (by simp) ?_; (case hd => rfl); (case hg => rfl); (case hr => first | (go_simp; done) | (go_simp; rfl)); (case hp => exact (Reps.one (ki t506) (Reps.one (ki t507) (Reps.none _ _)))); intro v509 w12 ho13 hb hg_ hnew_; clear hg_ hnew_; (first | rw [← Ny508.out] at ho13 | (simp only [Int.reduceToNat] at ho13; rw [← Ny508.out] at ho13)); have HO510 := m0 (Kd.R_lower ho13 (below_size bz)); replace HB := sb HB hb; clear hb ho13; obtain ⟨Ao14, co14, eo14⟩ := Kd.R_slice HO510.out; subst eo14) | ((with_reducible refine gc 68 rfl ?_); refine gl (some 16) Try.func68 #[.slice Ao14 y508.length co14] ?_; (with_reducible refine (L_first.calls k _ _ y508 t511 _ ?side1 ?side2 A4.out).mono ?_); (case side1 => exact bc (Kd.R_reads' HO510.out).2.2); (case side2 => exact (Kd.R_reads' HO510.out).2.1); rintro e w' ⟨rfl, ⟨nd, rfl⟩⟩; refine ⟨_, rfl, ?_⟩) | ((with_reducible refine gc 80 rfl ?_); refine gl (some 22) Try.func80 #[.slice A0 l0.length c0, .func (.func 81) #[] #[]] ?_; (with_reducible refine (L_each_int_MiddleOf_1.calls k _ _ l0  t512 t513 _ ?side1 ?side2 A6.out).mono ?_); (case side1 => repeat (first | exact (Kd.C_below HR0.out bz) | (with_reducible refine Kd.C_alloc ?_ _) | (with_reducible refine Kd.C_drewN ?_ _) | (with_reducible refine Kd.C_drew ?_))); (case side2 => exact HC0.out); rintro e w' ⟨rfl, ⟨nd, rfl⟩⟩; refine ⟨_, rfl, ?_⟩) | ((with_reducible refine gc 83 rfl ?_); refine goesL_ (some 29) rfl rfl Try.func83 (by kernel_rfl) rfl #[.slice A0 l0.length c0] rfl (by (try simp only [List.map_toArray, List.map_cons, List.map_nil]); first | done | rfl) ?_; refine (slices_Values_int_int.calls_own _ _ _ _).mono ?_; rintro e w15 ⟨gb514, hg, rfl, hbox, hb⟩; refine ⟨_, rfl, ?_⟩; replace HO510 := rb HO510 hb; have BK514 := m0 hbox; have GE514 := gw w hg; replace HB := sb HB hb; clear hb hbox hg) | (go_at_call 82; (with_reducible refine (L_sorted_ints.calls gb514 A0 c0 l0 t515 _ ?side1 ?side2 ?side3 A8.out).mono ?_); (case side1 => exact (bk BK514.out)); (case side2 => exact cb HR0 HB); (case side3 => exact HC0.out); rintro e w16 ⟨v516, rfl, ho0, hb⟩; replace HO510 := rb HO510 hb; have HO517 := m0 (Kd.R_lower ho0 (below_size bz)); replace BK514 := bb BK514 hb; replace HB := sb HB hb; (try clear hb); (try clear ho0); obtain ⟨Ao17, co17, eo17⟩ := Kd.R_slice HO517.out; subst eo17; have p518 : 0 ≤ ((ji9) : Int) := od; have q518 : (ji9) < (t515.length : Int) := od; obtain ⟨ad518, e518, hx518_0⟩ := Kd.at_int (Kd.R_reads' HO517.out).2.2 (ji9) p518 q518; cases e518; replace p518 := eq_true p518; replace q518 := eq_true q518))
     go_ret2
     exact ⟨by first | rfl | (simp [errW_none, errW_some] <;> rfl) | (simp only [← hji9]; first | rfl | (simp [errW_none, errW_some] <;> rfl)) | (simp [*, errW_none, errW_some] <;> rfl), by repeat (first | (with_reducible first | exact HB.out | apply below_alloc | apply pw_below_drewN | apply below_drew1 | refine below_set ?_ GE514.out) | exact HB.out)⟩
    ·rw [if_neg c11] at H; exact absurd H (by simp)
   ·rw [if_neg c10] at H; exact absurd H (by simp)
  ·rw [if_neg c7] at H; have c7b0 := beq_eq_false_iff_ne.mpr c7; have c7b1 := bne_iff_ne.mpr c7; simp only [Option.some.injEq, Prod.mk.injEq] at H; obtain ⟨rfl, rfl⟩ := H; go_enter Try.func25, Try.ntmps25
   go_wp2_with (first | ((with_reducible refine gc 69 rfl ?_); refine goesL_ (some 10) rfl rfl Try.func69 (by kernel_rfl) rfl #[.bool (decide ((l0.length : Int) > 0)), .int .i64 10] rfl (by (try simp only [List.map_toArray, List.map_cons, List.map_nil]); first | done | rfl | (simp only [List.length_drop, List.length_take]; rfl) | (simp; first | done | exact ⟨rfl, rfl⟩)) ?_; (with_reducible refine (L_unless.calls (decide ((l0.length : Int) > 0)) 10 t506 _ A2.out).mono ?_); rintro e w' ⟨rfl, ⟨nd, rfl⟩⟩; refine ⟨_, rfl, ?_⟩) | ((with_reducible refine gc 69 rfl ?_); refine gl (some 14) Try.func69 #[.bool (decide ((l0.length : Int) ≤ 15)), .int .i64 8] ?_; (with_reducible refine (L_unless.calls (decide ((l0.length : Int) ≤ 15)) 8 t507 _ A3.out).mono ?_); rintro e w' ⟨rfl, ⟨nd, rfl⟩⟩; refine ⟨_, rfl, ?_⟩) | ((with_reducible refine ga 15 rfl ?_); refine Kd.R_lit (Kd.int .i64) _ 26 ?hg (N := 15) ?hd (xs := ([t506, t507] : List Int)) (inner := [.int .i64 t506, .int .i64 t507]) (ok := fun _ => True) (okp := fun _ => True) ?hr ?hp (fun _ hk => hk) trivial (Below.refl _ _) (Nat.le_refl _) (by simp) ?_; (case hd => rfl); (case hg => rfl); (case hr => first | (go_simp; done) | (go_simp; rfl)); (case hp => exact (Reps.one (ki t506) (Reps.one (ki t507) (Reps.none _ _)))); intro v509 w18 ho19 hb hg_ hnew_; clear hg_ hnew_; (first | rw [← Ny508.out] at ho19 | (simp only [Int.reduceToNat] at ho19; rw [← Ny508.out] at ho19)); have HO510 := m0 (Kd.R_lower ho19 (below_size bz)); replace HB := sb HB hb; clear hb ho19; obtain ⟨Ao20, co20, eo20⟩ := Kd.R_slice HO510.out; subst eo20) | ((with_reducible refine gc 68 rfl ?_); refine gl (some 16) Try.func68 #[.slice Ao20 y508.length co20] ?_; (with_reducible refine (L_first.calls k _ _ y508 t511 _ ?side1 ?side2 A4.out).mono ?_); (case side1 => exact bc (Kd.R_reads' HO510.out).2.2); (case side2 => exact (Kd.R_reads' HO510.out).2.1); rintro e w' ⟨rfl, ⟨nd, rfl⟩⟩; refine ⟨_, rfl, ?_⟩) | ((with_reducible refine gc 80 rfl ?_); refine gl (some 22) Try.func80 #[.slice A0 l0.length c0, .func (.func 81) #[] #[]] ?_; (with_reducible refine (L_each_int_MiddleOf_1.calls k _ _ l0  t512 t513 _ ?side1 ?side2 A6.out).mono ?_); (case side1 => repeat (first | exact (Kd.C_below HR0.out bz) | (with_reducible refine Kd.C_alloc ?_ _) | (with_reducible refine Kd.C_drewN ?_ _) | (with_reducible refine Kd.C_drew ?_))); (case side2 => exact HC0.out); rintro e w' ⟨rfl, ⟨nd, rfl⟩⟩; refine ⟨_, rfl, ?_⟩))
   go_ret2
   exact ez
 ·rw [if_neg c5] at H; have c5b0 := beq_eq_false_iff_ne.mpr c5; have c5b1 := bne_iff_ne.mpr c5; simp only [Option.some.injEq, Prod.mk.injEq] at H; obtain ⟨rfl, rfl⟩ := H; go_enter Try.func25, Try.ntmps25
  go_wp2_with (first | ((with_reducible refine gc 69 rfl ?_); refine goesL_ (some 10) rfl rfl Try.func69 (by kernel_rfl) rfl #[.bool (decide ((l0.length : Int) > 0)), .int .i64 10] rfl (by (try simp only [List.map_toArray, List.map_cons, List.map_nil]); first | done | rfl | (simp only [List.length_drop, List.length_take]; rfl) | (simp; first | done | exact ⟨rfl, rfl⟩)) ?_; (with_reducible refine (L_unless.calls (decide ((l0.length : Int) > 0)) 10 t506 _ A2.out).mono ?_); rintro e w' ⟨rfl, ⟨nd, rfl⟩⟩; refine ⟨_, rfl, ?_⟩) | ((with_reducible refine gc 69 rfl ?_); refine gl (some 14) Try.func69 #[.bool (decide ((l0.length : Int) ≤ 15)), .int .i64 8] ?_; (with_reducible refine (L_unless.calls (decide ((l0.length : Int) ≤ 15)) 8 t507 _ A3.out).mono ?_); rintro e w' ⟨rfl, ⟨nd, rfl⟩⟩; refine ⟨_, rfl, ?_⟩) | ((with_reducible refine ga 15 rfl ?_); refine Kd.R_lit (Kd.int .i64) _ 26 ?hg (N := 15) ?hd (xs := ([t506, t507] : List Int)) (inner := [.int .i64 t506, .int .i64 t507]) (ok := fun _ => True) (okp := fun _ => True) ?hr ?hp (fun _ hk => hk) trivial (Below.refl _ _) (Nat.le_refl _) (by simp) ?_; (case hd => rfl); (case hg => rfl); (case hr => first | (go_simp; done) | (go_simp; rfl)); (case hp => exact (Reps.one (ki t506) (Reps.one (ki t507) (Reps.none _ _)))); intro v509 w21 ho22 hb hg_ hnew_; clear hg_ hnew_; (first | rw [← Ny508.out] at ho22 | (simp only [Int.reduceToNat] at ho22; rw [← Ny508.out] at ho22)); have HO510 := m0 (Kd.R_lower ho22 (below_size bz)); replace HB := sb HB hb; clear hb ho22; obtain ⟨Ao23, co23, eo23⟩ := Kd.R_slice HO510.out; subst eo23) | ((with_reducible refine gc 68 rfl ?_); refine gl (some 16) Try.func68 #[.slice Ao23 y508.length co23] ?_; (with_reducible refine (L_first.calls k _ _ y508 t511 _ ?side1 ?side2 A4.out).mono ?_); (case side1 => exact bc (Kd.R_reads' HO510.out).2.2); (case side2 => exact (Kd.R_reads' HO510.out).2.1); rintro e w' ⟨rfl, ⟨nd, rfl⟩⟩; refine ⟨_, rfl, ?_⟩))
  go_ret2
  exact ez
end
section
mutual
def Rf_CheckLayers.l0 : Nat → List (S112) → Int → Option (Int × Int)
  | 0, _, _ => none
  | k + 1, x0, x4 => if x4 < (x0.length : Int) then (if 0 ≤ x4 then ((Bs_Within.f ((rd_T112 x0 x4).f0) 0 20000).bind fun t520 => (if t520 = true then ((Bs_Within.f ((rd_T112 x0 x4).f1) 0 20000).bind fun t522 => (if t522 = true then ((Bs_Within.f ((rd_T112 x0 x4).f2) 0 8).bind fun t524 => (Rf_CheckLayers.j1 k x0 x4 (!t524))) else (Rf_CheckLayers.j1 k x0 x4 true))) else (Rf_CheckLayers.j1 k x0 x4 true))) else (none)) else (some (0, 0))
def Rf_CheckLayers.j1 : Nat → List (S112) → Int → Bool → Option (Int × Int)
  | 0, _, _, _ => none
  | k + 1, x0, x4, x38 => if x38 = true then (some (x4, 2)) else (if 0 ≤ x4 then (if x4 < (x0.length : Int) then (if ((rd_T112 x0 x4).f0) ≥ ((rd_T112 x0 x4).f1) then (some (x4, 9)) else (Rf_CheckLayers.l0 k x0 (wrap64 (x4 + 1)))) else (none)) else (none))
end
def Rf_CheckLayers.f (k : Nat) (l0 : List (S112)) : Option (Int × Int) := if (l0.length : Int) > 10 then (some (0, 8)) else (Rf_CheckLayers.l0 k l0 0)
theorem Rf_CheckLayers.mono_l : ∀ k, (∀ y0 y1, LeO (Rf_CheckLayers.l0 k y0 y1) (Rf_CheckLayers.l0 (k + 1) y0 y1)) ∧ (∀ y0 y1 y2, LeO (Rf_CheckLayers.j1 k y0 y1 y2) (Rf_CheckLayers.j1 (k + 1) y0 y1 y2))
  | 0 => ⟨fun _ _ r h => by simp [Rf_CheckLayers.l0] at h, fun _ _ _ r h => by simp [Rf_CheckLayers.j1] at h⟩
  | k + 1 => by
    obtain ⟨ih0, ih1⟩ := Rf_CheckLayers.mono_l k; refine ⟨?_, ?_⟩
    · intro y0 y1; unfold Rf_CheckLayers.l0
      repeat' with_reducible first
        | exact ih0 ..
        | exact ih1 ..
        | exact LeO.refl ..
        | exact LeO.none ..
        | refine LeO.ite ?_ ?_
        | refine LeO.bind ?_ (fun _ => ?_)
    · intro y0 y1 y2; unfold Rf_CheckLayers.j1
      repeat' with_reducible first
        | exact ih0 ..
        | exact ih1 ..
        | exact LeO.refl ..
        | exact LeO.none ..
        | refine LeO.ite ?_ ?_
        | refine LeO.bind ?_ (fun _ => ?_)
theorem Rf_CheckLayers.mono : ∀ a0 k, LeO (Rf_CheckLayers.f k a0) (Rf_CheckLayers.f (k + 1) a0) := by
  intro a0 k; obtain ⟨ih0, ih1⟩ := Rf_CheckLayers.mono_l k; unfold Rf_CheckLayers.f
  repeat' with_reducible first
    | exact ih0 ..
    | exact ih1 ..
    | exact LeO.refl ..
    | exact LeO.none ..
    | refine LeO.ite ?_ ?_
    | refine LeO.bind ?_ (fun _ => ?_)
theorem Rf_CheckLayers.calls (k : Nat) (A0 : Option Addr) (c0 : Nat) (l0 : List (S112)) (r1 : Int) (r2 : Int) (w : World) (hr0 : Kd.C k112 w A0 l0.length l0) (hc0 : l0.length ≤ c0) (H : Rf_CheckLayers.f k l0 = some (r1, r2)) :
    Calls Try.prog 27 #[.slice A0 l0.length c0] w fun e w' => e = .returned (.tuple #[.int .i64 r1, .int .i64 r2]) ∧ Drawn0 w w' := by
  have HR0 := m0 hr0; have HC0 := m0 hc0; clear hr0 hc0; unfold Rf_CheckLayers.f at H
  by_cases c2 : (l0.length : Int) > 10
  · rw [if_pos c2] at H; have c2b0 := decide_eq_true c2; have c2b1 : decide (10 < l0.length) = true := decide_eq_true (by omega); clear c2; simp only [Option.some.injEq, Prod.mk.injEq] at H; obtain ⟨rfl, rfl⟩ := H; go_enter Try.func27, Try.ntmps27
    go_wp2
    repeat (go_quiet (fail); try go_wp2)
    go_ret2
    exact ⟨rz, by repeat (first | exact Drawn0.refl _ | apply Drawn0.step)⟩
  · rw [if_neg c2] at H; have c2b0 := decide_eq_false c2; have c2b1 : decide (10 < l0.length) = false := decide_eq_false (by omega); clear c2; have H' := m0 H; clear H; go_enter Try.func27, Try.ntmps27
    go_wp2
    repeat (go_quiet (fail); try go_wp2)
    go_loopg [4] k (fun kq v4 w' => ∃ (x4_1 : Int), v4 = .int .i64 x4_1 ∧ Aside0 (Rf_CheckLayers.l0 kq l0 x4_1 = some (r1, r2)) ∧ Aside0 (kq ≤ k) ∧ Drawn0 w w')
    case atStart => exact ⟨(0), rz, H', ⟨Nat.le_refl _⟩, by repeat (first | exact Drawn0.refl _ | apply Drawn0.step)⟩
    case round =>
      clear H'; obtain ⟨x4_1, rfl, HA, HK1, ⟨m1, rfl⟩⟩ := hrel
      cases gk with
      | zero => exact absurd HA.out (by simp [Rf_CheckLayers.l0])
      | succ k1 =>
        have H := HA.out; clear HA; simp only [Rf_CheckLayers.l0] at H
        by_cases c3 : x4_1 < (l0.length : Int)
        · rw [if_pos c3] at H; have c3b0 := decide_eq_true c3; clear c3; have HC4 := m0 H; clear H
          go_upto_region 6 with (fail)
          repeat (go_quiet (fail); go_upto_region 6 with (fail))
          go_cut [38] (fun v38 wc => ∃ (kq : Nat) (x38_3 : Bool), v38 = .bool x38_3 ∧ Aside0 (Rf_CheckLayers.j1 kq l0 x4_1 x38_3 = some (r1, r2)) ∧ Aside0 (kq ≤ k1) ∧ Drawn0 w wc)
          case first =>
            have H := HC4.out; clear HC4
            by_cases c5 : 0 ≤ x4_1
            · rw [if_pos c5] at H; have c5b0 := decide_eq_true c5; clear c5
              (first | rw [c5b0] | (simp only [i64_w, i32_w]; rw [c5b0]) | skip)
              replace H := oa H; obtain ⟨t520, A6, H⟩ := H; (try dsimp only at H)
              by_cases c7 : t520 = true
              · subst c7; rw [if_pos rfl] at H; replace H := oa H; obtain ⟨t522, A8, H⟩ := H; (try dsimp only at H)
                by_cases c9 : t522 = true
                · subst c9; rw [if_pos rfl] at H; replace H := oa H; obtain ⟨t524, A10, H⟩ := H; (try dsimp only at H); have H' := m0 H; clear H; have p519 : 0 ≤ (x4_1 : Int) := od; have q519 : x4_1 < (l0.length : Int) := od; obtain ⟨ad519, e519, hx519_0, hx519_1, hx519_2⟩ := at_T112 HR0.out x4_1 p519 q519
                  cases e519
                  replace p519 := eq_true p519; replace q519 := eq_true q519
                  go_wp2_with (first | (go_at_call 19; (with_reducible refine (Bs_Within.calls ((rd_T112 l0 x4_1).f0) 0 20000 true _ A6.out).mono ?_); rintro e w' ⟨rfl, ⟨nd, rfl⟩⟩; (try first | exact ⟨rfl, _, World.drewN_drewN _ _ _⟩ | exact ⟨rfl, _, Eq.trans (World.drewN_drewN _ _ _) (congrArg (World.drewN _) (Nat.add_assoc _ _ _))⟩); have p521 : 0 ≤ (x4_1 : Int) := od; have q521 : x4_1 < (l0.length : Int) := od; obtain ⟨ad521, e521, hx521_0, hx521_1, hx521_2⟩ := at_T112 HR0.out x4_1 p521 q521; obtain rfl : ad519 = ad521 := (by injection e521); replace p521 := eq_true p521; replace q521 := eq_true q521) | (go_at_call 19; (with_reducible refine (Bs_Within.calls ((rd_T112 l0 x4_1).f1) 0 20000 true _ A8.out).mono ?_); rintro e w' ⟨rfl, ⟨nd, rfl⟩⟩; (try first | exact ⟨rfl, _, World.drewN_drewN _ _ _⟩ | exact ⟨rfl, _, Eq.trans (World.drewN_drewN _ _ _) (congrArg (World.drewN _) (Nat.add_assoc _ _ _))⟩); have p523 : 0 ≤ (x4_1 : Int) := od; have q523 : x4_1 < (l0.length : Int) := od; obtain ⟨ad523, e523, hx523_0, hx523_1, hx523_2⟩ := at_T112 HR0.out x4_1 p523 q523; obtain rfl : ad519 = ad523 := (by injection e523); replace p523 := eq_true p523; replace q523 := eq_true q523) | (go_at_call 19; (with_reducible refine (Bs_Within.calls ((rd_T112 l0 x4_1).f2) 0 8 t524 _ A10.out).mono ?_); rintro e w' ⟨rfl, ⟨nd, rfl⟩⟩; (try first | exact ⟨rfl, _, World.drewN_drewN _ _ _⟩ | exact ⟨rfl, _, Eq.trans (World.drewN_drewN _ _ _) (congrArg (World.drewN _) (Nat.add_assoc _ _ _))⟩)))
                  repeat (go_quiet (first | (go_at_call 19; (with_reducible refine (Bs_Within.calls ((rd_T112 l0 x4_1).f0) 0 20000 true _ A6.out).mono ?_); rintro e w' ⟨rfl, ⟨nd, rfl⟩⟩; (try first | exact ⟨rfl, _, World.drewN_drewN _ _ _⟩ | exact ⟨rfl, _, Eq.trans (World.drewN_drewN _ _ _) (congrArg (World.drewN _) (Nat.add_assoc _ _ _))⟩); have p521 : 0 ≤ (x4_1 : Int) := od; have q521 : x4_1 < (l0.length : Int) := od; obtain ⟨ad521, e521, hx521_0, hx521_1, hx521_2⟩ := at_T112 HR0.out x4_1 p521 q521; obtain rfl : ad519 = ad521 := (by injection e521); replace p521 := eq_true p521; replace q521 := eq_true q521) | (go_at_call 19; (with_reducible refine (Bs_Within.calls ((rd_T112 l0 x4_1).f1) 0 20000 true _ A8.out).mono ?_); rintro e w' ⟨rfl, ⟨nd, rfl⟩⟩; (try first | exact ⟨rfl, _, World.drewN_drewN _ _ _⟩ | exact ⟨rfl, _, Eq.trans (World.drewN_drewN _ _ _) (congrArg (World.drewN _) (Nat.add_assoc _ _ _))⟩); have p523 : 0 ≤ (x4_1 : Int) := od; have q523 : x4_1 < (l0.length : Int) := od; obtain ⟨ad523, e523, hx523_0, hx523_1, hx523_2⟩ := at_T112 HR0.out x4_1 p523 q523; obtain rfl : ad519 = ad523 := (by injection e523); replace p523 := eq_true p523; replace q523 := eq_true q523) | (go_at_call 19; (with_reducible refine (Bs_Within.calls ((rd_T112 l0 x4_1).f2) 0 8 t524 _ A10.out).mono ?_); rintro e w' ⟨rfl, ⟨nd, rfl⟩⟩; (try first | exact ⟨rfl, _, World.drewN_drewN _ _ _⟩ | exact ⟨rfl, _, Eq.trans (World.drewN_drewN _ _ _) (congrArg (World.drewN _) (Nat.add_assoc _ _ _))⟩))); try go_wp2_with (first | (go_at_call 19; (with_reducible refine (Bs_Within.calls ((rd_T112 l0 x4_1).f0) 0 20000 true _ A6.out).mono ?_); rintro e w' ⟨rfl, ⟨nd, rfl⟩⟩; (try first | exact ⟨rfl, _, World.drewN_drewN _ _ _⟩ | exact ⟨rfl, _, Eq.trans (World.drewN_drewN _ _ _) (congrArg (World.drewN _) (Nat.add_assoc _ _ _))⟩); have p521 : 0 ≤ (x4_1 : Int) := od; have q521 : x4_1 < (l0.length : Int) := od; obtain ⟨ad521, e521, hx521_0, hx521_1, hx521_2⟩ := at_T112 HR0.out x4_1 p521 q521; obtain rfl : ad519 = ad521 := (by injection e521); replace p521 := eq_true p521; replace q521 := eq_true q521) | (go_at_call 19; (with_reducible refine (Bs_Within.calls ((rd_T112 l0 x4_1).f1) 0 20000 true _ A8.out).mono ?_); rintro e w' ⟨rfl, ⟨nd, rfl⟩⟩; (try first | exact ⟨rfl, _, World.drewN_drewN _ _ _⟩ | exact ⟨rfl, _, Eq.trans (World.drewN_drewN _ _ _) (congrArg (World.drewN _) (Nat.add_assoc _ _ _))⟩); have p523 : 0 ≤ (x4_1 : Int) := od; have q523 : x4_1 < (l0.length : Int) := od; obtain ⟨ad523, e523, hx523_0, hx523_1, hx523_2⟩ := at_T112 HR0.out x4_1 p523 q523; obtain rfl : ad519 = ad523 := (by injection e523); replace p523 := eq_true p523; replace q523 := eq_true q523) | (go_at_call 19; (with_reducible refine (Bs_Within.calls ((rd_T112 l0 x4_1).f2) 0 8 t524 _ A10.out).mono ?_); rintro e w' ⟨rfl, ⟨nd, rfl⟩⟩; (try first | exact ⟨rfl, _, World.drewN_drewN _ _ _⟩ | exact ⟨rfl, _, Eq.trans (World.drewN_drewN _ _ _) (congrArg (World.drewN _) (Nat.add_assoc _ _ _))⟩))))
                  go_meet
                  case rel => exact ⟨_, (!t524), rz, H', ⟨by have := HK1.out; first | omega | exact Nat.le_refl _⟩, by repeat (first | exact Drawn0.refl _ | apply Drawn0.step)⟩
                · replace c9 := Bool.eq_false_iff.mpr c9; subst c9; rw [if_neg (show ¬ (false = true) by decide)] at H; have H' := m0 H; clear H; have p519 : 0 ≤ (x4_1 : Int) := od; have q519 : x4_1 < (l0.length : Int) := od; obtain ⟨ad519, e519, hx519_0, hx519_1, hx519_2⟩ := at_T112 HR0.out x4_1 p519 q519
                  cases e519
                  replace p519 := eq_true p519; replace q519 := eq_true q519
                  go_wp2_with (first | (go_at_call 19; (with_reducible refine (Bs_Within.calls ((rd_T112 l0 x4_1).f0) 0 20000 true _ A6.out).mono ?_); rintro e w' ⟨rfl, ⟨nd, rfl⟩⟩; (try first | exact ⟨rfl, _, World.drewN_drewN _ _ _⟩ | exact ⟨rfl, _, Eq.trans (World.drewN_drewN _ _ _) (congrArg (World.drewN _) (Nat.add_assoc _ _ _))⟩); have p521 : 0 ≤ (x4_1 : Int) := od; have q521 : x4_1 < (l0.length : Int) := od; obtain ⟨ad521, e521, hx521_0, hx521_1, hx521_2⟩ := at_T112 HR0.out x4_1 p521 q521; obtain rfl : ad519 = ad521 := (by injection e521); replace p521 := eq_true p521; replace q521 := eq_true q521) | (go_at_call 19; (with_reducible refine (Bs_Within.calls ((rd_T112 l0 x4_1).f1) 0 20000 false _ A8.out).mono ?_); rintro e w' ⟨rfl, ⟨nd, rfl⟩⟩; (try first | exact ⟨rfl, _, World.drewN_drewN _ _ _⟩ | exact ⟨rfl, _, Eq.trans (World.drewN_drewN _ _ _) (congrArg (World.drewN _) (Nat.add_assoc _ _ _))⟩)))
                  repeat (go_quiet (first | (go_at_call 19; (with_reducible refine (Bs_Within.calls ((rd_T112 l0 x4_1).f0) 0 20000 true _ A6.out).mono ?_); rintro e w' ⟨rfl, ⟨nd, rfl⟩⟩; (try first | exact ⟨rfl, _, World.drewN_drewN _ _ _⟩ | exact ⟨rfl, _, Eq.trans (World.drewN_drewN _ _ _) (congrArg (World.drewN _) (Nat.add_assoc _ _ _))⟩); have p521 : 0 ≤ (x4_1 : Int) := od; have q521 : x4_1 < (l0.length : Int) := od; obtain ⟨ad521, e521, hx521_0, hx521_1, hx521_2⟩ := at_T112 HR0.out x4_1 p521 q521; obtain rfl : ad519 = ad521 := (by injection e521); replace p521 := eq_true p521; replace q521 := eq_true q521) | (go_at_call 19; (with_reducible refine (Bs_Within.calls ((rd_T112 l0 x4_1).f1) 0 20000 false _ A8.out).mono ?_); rintro e w' ⟨rfl, ⟨nd, rfl⟩⟩; (try first | exact ⟨rfl, _, World.drewN_drewN _ _ _⟩ | exact ⟨rfl, _, Eq.trans (World.drewN_drewN _ _ _) (congrArg (World.drewN _) (Nat.add_assoc _ _ _))⟩))); try go_wp2_with (first | (go_at_call 19; (with_reducible refine (Bs_Within.calls ((rd_T112 l0 x4_1).f0) 0 20000 true _ A6.out).mono ?_); rintro e w' ⟨rfl, ⟨nd, rfl⟩⟩; (try first | exact ⟨rfl, _, World.drewN_drewN _ _ _⟩ | exact ⟨rfl, _, Eq.trans (World.drewN_drewN _ _ _) (congrArg (World.drewN _) (Nat.add_assoc _ _ _))⟩); have p521 : 0 ≤ (x4_1 : Int) := od; have q521 : x4_1 < (l0.length : Int) := od; obtain ⟨ad521, e521, hx521_0, hx521_1, hx521_2⟩ := at_T112 HR0.out x4_1 p521 q521; obtain rfl : ad519 = ad521 := (by injection e521); replace p521 := eq_true p521; replace q521 := eq_true q521) | (go_at_call 19; (with_reducible refine (Bs_Within.calls ((rd_T112 l0 x4_1).f1) 0 20000 false _ A8.out).mono ?_); rintro e w' ⟨rfl, ⟨nd, rfl⟩⟩; (try first | exact ⟨rfl, _, World.drewN_drewN _ _ _⟩ | exact ⟨rfl, _, Eq.trans (World.drewN_drewN _ _ _) (congrArg (World.drewN _) (Nat.add_assoc _ _ _))⟩))))
                  go_meet
                  case rel => exact ⟨_, (true), rz, H', ⟨by have := HK1.out; first | omega | exact Nat.le_refl _⟩, by repeat (first | exact Drawn0.refl _ | apply Drawn0.step)⟩
              · replace c7 := Bool.eq_false_iff.mpr c7; subst c7; rw [if_neg (show ¬ (false = true) by decide)] at H; have H' := m0 H; clear H; have p519 : 0 ≤ (x4_1 : Int) := od; have q519 : x4_1 < (l0.length : Int) := od; obtain ⟨ad519, e519, hx519_0, hx519_1, hx519_2⟩ := at_T112 HR0.out x4_1 p519 q519
                cases e519
                replace p519 := eq_true p519; replace q519 := eq_true q519
                go_wp2_with (first | (go_at_call 19; (with_reducible refine (Bs_Within.calls ((rd_T112 l0 x4_1).f0) 0 20000 false _ A6.out).mono ?_); rintro e w' ⟨rfl, ⟨nd, rfl⟩⟩; (try first | exact ⟨rfl, _, World.drewN_drewN _ _ _⟩ | exact ⟨rfl, _, Eq.trans (World.drewN_drewN _ _ _) (congrArg (World.drewN _) (Nat.add_assoc _ _ _))⟩)))
                repeat (go_quiet (first | (go_at_call 19; (with_reducible refine (Bs_Within.calls ((rd_T112 l0 x4_1).f0) 0 20000 false _ A6.out).mono ?_); rintro e w' ⟨rfl, ⟨nd, rfl⟩⟩; (try first | exact ⟨rfl, _, World.drewN_drewN _ _ _⟩ | exact ⟨rfl, _, Eq.trans (World.drewN_drewN _ _ _) (congrArg (World.drewN _) (Nat.add_assoc _ _ _))⟩))); try go_wp2_with (first | (go_at_call 19; (with_reducible refine (Bs_Within.calls ((rd_T112 l0 x4_1).f0) 0 20000 false _ A6.out).mono ?_); rintro e w' ⟨rfl, ⟨nd, rfl⟩⟩; (try first | exact ⟨rfl, _, World.drewN_drewN _ _ _⟩ | exact ⟨rfl, _, Eq.trans (World.drewN_drewN _ _ _) (congrArg (World.drewN _) (Nat.add_assoc _ _ _))⟩))))
                go_meet
                case rel => exact ⟨_, (true), rz, H', ⟨by have := HK1.out; first | omega | exact Nat.le_refl _⟩, by repeat (first | exact Drawn0.refl _ | apply Drawn0.step)⟩
            · rw [if_neg c5] at H; exact absurd H (by simp)
          case rest =>
            clear HC4
            try clear hx5
            try clear hx519_0
            try clear hx519_1
            try clear hx519_2
            try clear hx521_0
            try clear hx521_1
            try clear hx521_2
            try clear hx523_0
            try clear hx523_1
            try clear hx523_2
            obtain ⟨kq, x38_3, rfl, HA, HJ3, ⟨mc3, rfl⟩⟩ := hcut
            cases kq with
            | zero => exact absurd HA.out (by simp [Rf_CheckLayers.j1])
            | succ kj3 =>
              have H := HA.out; clear HA; simp only [Rf_CheckLayers.j1] at H
              by_cases c11 : x38_3 = true
              · subst c11; rw [if_pos rfl] at H; simp only [Option.some.injEq, Prod.mk.injEq] at H; obtain ⟨rfl, rfl⟩ := H
                go_wp2
                repeat (go_quiet (fail); try go_wp2)
                go_ret2
                exact ⟨rz, by repeat (first | exact Drawn0.refl _ | apply Drawn0.step)⟩
              · replace c11 := Bool.eq_false_iff.mpr c11; subst c11; rw [if_neg (show ¬ (false = true) by decide)] at H
                by_cases c12 : 0 ≤ x4_1
                · rw [if_pos c12] at H; have c12b0 := decide_eq_true c12; clear c12
                  by_cases c13 : x4_1 < (l0.length : Int)
                  · rw [if_pos c13] at H; have c13b0 := decide_eq_true c13; clear c13
                    by_cases c14 : ((rd_T112 l0 x4_1).f0) ≥ ((rd_T112 l0 x4_1).f1)
                    · rw [if_pos c14] at H; have c14b0 := decide_eq_true c14; clear c14; simp only [Option.some.injEq, Prod.mk.injEq] at H; obtain ⟨rfl, rfl⟩ := H; have p525 : 0 ≤ (x4_1 : Int) := od; have q525 : x4_1 < (l0.length : Int) := od; obtain ⟨ad525, e525, hx525_0, hx525_1, hx525_2⟩ := at_T112 HR0.out x4_1 p525 q525
                      cases e525
                      replace p525 := eq_true p525; replace q525 := eq_true q525; have p526 : 0 ≤ (x4_1 : Int) := od; have q526 : x4_1 < (l0.length : Int) := od; obtain ⟨ad526, e526, hx526_0, hx526_1, hx526_2⟩ := at_T112 HR0.out x4_1 p526 q526; obtain rfl : ad525 = ad526 := (by injection e526); replace p526 := eq_true p526; replace q526 := eq_true q526
                      go_wp2
                      repeat (go_quiet (fail); try go_wp2)
                      go_ret2
                      exact ⟨rz, by repeat (first | exact Drawn0.refl _ | apply Drawn0.step)⟩
                    · rw [if_neg c14] at H; have c14b0 := decide_eq_false c14; clear c14; have H' := m0 H; clear H; have p525 : 0 ≤ (x4_1 : Int) := od; have q525 : x4_1 < (l0.length : Int) := od; obtain ⟨ad525, e525, hx525_0, hx525_1, hx525_2⟩ := at_T112 HR0.out x4_1 p525 q525
                      cases e525
                      replace p525 := eq_true p525; replace q525 := eq_true q525; have p526 : 0 ≤ (x4_1 : Int) := od; have q526 : x4_1 < (l0.length : Int) := od; obtain ⟨ad526, e526, hx526_0, hx526_1, hx526_2⟩ := at_T112 HR0.out x4_1 p526 q526; obtain rfl : ad525 = ad526 := (by injection e526); replace p526 := eq_true p526; replace q526 := eq_true q526
                      go_wp2
                      repeat (go_quiet (fail); try go_wp2)
                      go_roundg kj3
                      case measure => have := HK1.out; have := HJ3.out; omega
                      case rel => exact ⟨(wrap64 (x4_1 + 1)), rz, H', ⟨by have := HK1.out; have := HJ3.out; omega⟩, by repeat (first | exact Drawn0.refl _ | apply Drawn0.step)⟩
                  · rw [if_neg c13] at H; exact absurd H (by simp)
                · rw [if_neg c12] at H; exact absurd H (by simp)
        · rw [if_neg c3] at H; have c3b0 := decide_eq_false c3; clear c3; simp only [Option.some.injEq, Prod.mk.injEq] at H; obtain ⟨rfl, rfl⟩ := H
          go_wp2
          repeat (go_quiet (fail); try go_wp2)
          go_ret2
          exact ⟨rz, by repeat (first | exact Drawn0.refl _ | apply Drawn0.step)⟩
end
section
def Rf_HeightsErr.l0 : Nat → List Int → Int → Option (Int)
  | 0, _, _ => none
  | k + 1, x0, x3 => if x3 < (x0.length : Int) then (if 0 ≤ x3 then ((Bs_Within.f (rd x0 x3) 0 20000).bind fun t528 => (if t528 = true then (Rf_HeightsErr.l0 k x0 (wrap64 (x3 + 1))) else (some 2))) else (none)) else (some 0)
def Rf_HeightsErr.f (k : Nat) (l0 : List Int) : Option (Int) := if (l0.length : Int) = 0 then (some 10) else (if (l0.length : Int) > 15 then (some 8) else (Rf_HeightsErr.l0 k l0 0))
theorem Rf_HeightsErr.mono_l : ∀ k, (∀ y0 y1, LeO (Rf_HeightsErr.l0 k y0 y1) (Rf_HeightsErr.l0 (k + 1) y0 y1))
  | 0 => fun _ _ r h => by simp [Rf_HeightsErr.l0] at h
  | k + 1 => by
    have ih0 := Rf_HeightsErr.mono_l k
    · intro y0 y1; unfold Rf_HeightsErr.l0
      repeat' with_reducible first
        | exact ih0 ..
        | exact LeO.refl ..
        | exact LeO.none ..
        | refine LeO.ite ?_ ?_
        | refine LeO.bind ?_ (fun _ => ?_)
theorem Rf_HeightsErr.mono : ∀ a0 k, LeO (Rf_HeightsErr.f k a0) (Rf_HeightsErr.f (k + 1) a0) := by
  intro a0 k; have ih0 := Rf_HeightsErr.mono_l k; unfold Rf_HeightsErr.f
  repeat' with_reducible first
    | exact ih0 ..
    | exact LeO.refl ..
    | exact LeO.none ..
    | refine LeO.ite ?_ ?_
    | refine LeO.bind ?_ (fun _ => ?_)
theorem Rf_HeightsErr.calls (k : Nat) (A0 : Option Addr) (c0 : Nat) (l0 : List Int) (r : Int) (w : World) (hr0 : Kd.C (Kd.int .i64) w A0 l0.length l0) (hc0 : l0.length ≤ c0) (H : Rf_HeightsErr.f k l0 = some r) :
    Calls Try.prog 28 #[.slice A0 l0.length c0] w fun e w' => e = .returned (.int .i64 r) ∧ Drawn0 w w' := by
  have HR0 := m0 hr0; have HC0 := m0 hc0; clear hr0 hc0; unfold Rf_HeightsErr.f at H
  by_cases c2 : (l0.length : Int) = 0
  · rw [if_pos c2] at H; have c2b0 := beq_iff_eq.mpr c2; have c2b1 := bne_eq_false_iff_eq.mpr c2; clear c2; obtain rfl := Option.some.inj H; go_enter Try.func28, Try.ntmps28
    go_wp2
    go_ret
    exact ⟨rz, by repeat (first | exact Drawn0.refl _ | apply Drawn0.step)⟩
  · rw [if_neg c2] at H; have c2b0 := beq_eq_false_iff_ne.mpr c2; have c2b1 := bne_iff_ne.mpr c2; have c2b2 : ¬ (l0 = []) := fun h_ => c2 (by rw [h_]; rfl)
    by_cases c3 : (l0.length : Int) > 15
    · rw [if_pos c3] at H; have c3b0 := decide_eq_true c3; have c3b1 : decide (15 < l0.length) = true := decide_eq_true (by omega); clear c3; obtain rfl := Option.some.inj H; go_enter Try.func28, Try.ntmps28
      go_wp2
      go_ret
      exact ⟨rz, by repeat (first | exact Drawn0.refl _ | apply Drawn0.step)⟩
    · rw [if_neg c3] at H; have c3b0 := decide_eq_false c3; have c3b1 : decide (15 < l0.length) = false := decide_eq_false (by omega); clear c3; have H' := m0 H; clear H; go_enter Try.func28, Try.ntmps28
      go_wp2
      go_loopg [3] k (fun kq v3 w' => ∃ (x3_1 : Int), v3 = .int .i64 x3_1 ∧ Aside0 (Rf_HeightsErr.l0 kq l0 x3_1 = some r) ∧ Aside0 (kq ≤ k) ∧ Drawn0 w w')
      case atStart => exact ⟨(0), rz, H', ⟨Nat.le_refl _⟩, by repeat (first | exact Drawn0.refl _ | apply Drawn0.step)⟩
      case round =>
        clear H'; obtain ⟨x3_1, rfl, HA, HK1, ⟨m1, rfl⟩⟩ := hrel
        cases gk with
        | zero => exact absurd HA.out (by simp [Rf_HeightsErr.l0])
        | succ k1 =>
          have H := HA.out; clear HA; simp only [Rf_HeightsErr.l0] at H
          by_cases c4 : x3_1 < (l0.length : Int)
          · rw [if_pos c4] at H; have c4b0 := decide_eq_true c4; clear c4
            by_cases c5 : 0 ≤ x3_1
            · rw [if_pos c5] at H; have c5b0 := decide_eq_true c5; clear c5; replace H := oa H; obtain ⟨t528, A6, H⟩ := H; (try dsimp only at H)
              by_cases c7 : t528 = true
              · subst c7; rw [if_pos rfl] at H; have H' := m0 H; clear H; have p527 : 0 ≤ (x3_1 : Int) := od; have q527 : x3_1 < (l0.length : Int) := od; obtain ⟨ad527, e527, hx527_0⟩ := Kd.at_int HR0.out x3_1 p527 q527
                cases e527
                replace p527 := eq_true p527; replace q527 := eq_true q527
                go_wp2_with (first | ((with_reducible refine gc 19 rfl ?_); refine gl (some 20) Try.func19 #[.int .i64 (rd l0 x3_1), .int .i64 0, .int .i64 20000] ?_; (with_reducible refine (Bs_Within.calls (rd l0 x3_1) 0 20000 true _ A6.out).mono ?_); rintro e w' ⟨rfl, ⟨nd, rfl⟩⟩; refine ⟨_, rfl, ?_⟩))
                go_roundg k1
                case measure => have := HK1.out; omega
                case rel => exact ⟨(wrap64 (x3_1 + 1)), rz, H', ⟨by have := HK1.out; omega⟩, by repeat (first | exact Drawn0.refl _ | apply Drawn0.step)⟩
              · replace c7 := Bool.eq_false_iff.mpr c7; subst c7; rw [if_neg (show ¬ (false = true) by decide)] at H; obtain rfl := Option.some.inj H; have p527 : 0 ≤ (x3_1 : Int) := od; have q527 : x3_1 < (l0.length : Int) := od; obtain ⟨ad527, e527, hx527_0⟩ := Kd.at_int HR0.out x3_1 p527 q527
                cases e527
                replace p527 := eq_true p527; replace q527 := eq_true q527
                go_wp2_with (first | ((with_reducible refine gc 19 rfl ?_); refine gl (some 20) Try.func19 #[.int .i64 (rd l0 x3_1), .int .i64 0, .int .i64 20000] ?_; (with_reducible refine (Bs_Within.calls (rd l0 x3_1) 0 20000 false _ A6.out).mono ?_); rintro e w' ⟨rfl, ⟨nd, rfl⟩⟩; refine ⟨_, rfl, ?_⟩))
                go_ret
                exact ⟨rz, by repeat (first | exact Drawn0.refl _ | apply Drawn0.step)⟩
            · rw [if_neg c5] at H; exact absurd H (by simp)
          · rw [if_neg c4] at H; have c4b0 := decide_eq_false c4; clear c4; obtain rfl := Option.some.inj H
            go_wp2
            go_ret
            exact ⟨rz, by repeat (first | exact Drawn0.refl _ | apply Drawn0.step)⟩
end
section
mutual
def Rf_Middle.l0 : Nat → List Int → Int → Option (Int)
  | 0, _, _ => none
  | k + 1, x0, x3 => if x3 < (x0.length : Int) then (Rf_Middle.l1 k x0 x3 0 0 0) else (some 0)
def Rf_Middle.l1 : Nat → List Int → Int → Int → Int → Int → Option (Int)
  | 0, _, _, _, _, _ => none
  | k + 1, x0, x3, x4, x5, x6 => if x6 < (x0.length : Int) then (if 0 ≤ x6 then (if 0 ≤ x3 then (if x3 < (x0.length : Int) then (if (rd x0 x6) < (rd x0 x3) then (if (rd x0 x6) = (rd x0 x3) then (Rf_Middle.l1 k x0 x3 (wrap64 (x4 + 1)) (wrap64 (x5 + 1)) (wrap64 (x6 + 1))) else (Rf_Middle.l1 k x0 x3 (wrap64 (x4 + 1)) x5 (wrap64 (x6 + 1)))) else (if (rd x0 x6) = (rd x0 x3) then (Rf_Middle.l1 k x0 x3 x4 (wrap64 (x5 + 1)) (wrap64 (x6 + 1))) else (Rf_Middle.l1 k x0 x3 x4 x5 (wrap64 (x6 + 1))))) else (none)) else (none)) else (none)) else (if x4 ≤ (wrap64 (Int.tdiv (wrap64 ((x0.length : Int) - 1)) 2)) then (if (wrap64 (Int.tdiv (wrap64 ((x0.length : Int) - 1)) 2)) < (wrap64 (x4 + x5)) then (if 0 ≤ x3 then (if x3 < (x0.length : Int) then (some (rd x0 x3)) else (none)) else (none)) else (Rf_Middle.l0 k x0 (wrap64 (x3 + 1)))) else (Rf_Middle.l0 k x0 (wrap64 (x3 + 1))))
end
def Rf_Middle.f (k : Nat) (l0 : List Int) : Option (Int) := Rf_Middle.l0 k l0 0
theorem Rf_Middle.mono_l : ∀ k, (∀ y0 y1, LeO (Rf_Middle.l0 k y0 y1) (Rf_Middle.l0 (k + 1) y0 y1)) ∧ (∀ y0 y1 y2 y3 y4, LeO (Rf_Middle.l1 k y0 y1 y2 y3 y4) (Rf_Middle.l1 (k + 1) y0 y1 y2 y3 y4))
  | 0 => ⟨fun _ _ r h => by simp [Rf_Middle.l0] at h, fun _ _ _ _ _ r h => by simp [Rf_Middle.l1] at h⟩
  | k + 1 => by
    obtain ⟨ih0, ih1⟩ := Rf_Middle.mono_l k; refine ⟨?_, ?_⟩
    · intro y0 y1; unfold Rf_Middle.l0
      repeat' with_reducible first
        | exact ih0 ..
        | exact ih1 ..
        | exact LeO.refl ..
        | exact LeO.none ..
        | refine LeO.ite ?_ ?_
        | refine LeO.bind ?_ (fun _ => ?_)
    · intro y0 y1 y2 y3 y4; unfold Rf_Middle.l1
      repeat' with_reducible first
        | exact ih0 ..
        | exact ih1 ..
        | exact LeO.refl ..
        | exact LeO.none ..
        | refine LeO.ite ?_ ?_
        | refine LeO.bind ?_ (fun _ => ?_)
theorem Rf_Middle.mono : ∀ a0 k, LeO (Rf_Middle.f k a0) (Rf_Middle.f (k + 1) a0) := by
  intro a0 k; obtain ⟨ih0, ih1⟩ := Rf_Middle.mono_l k; unfold Rf_Middle.f
  repeat' with_reducible first
    | exact ih0 ..
    | exact ih1 ..
    | exact LeO.refl ..
    | exact LeO.none ..
    | refine LeO.ite ?_ ?_
    | refine LeO.bind ?_ (fun _ => ?_)
theorem Rf_Middle.calls (k : Nat) (A0 : Option Addr) (c0 : Nat) (l0 : List Int) (r : Int) (w : World) (hr0 : Kd.C (Kd.int .i64) w A0 l0.length l0) (hc0 : l0.length ≤ c0) (H : Rf_Middle.f k l0 = some r) :
    Calls Try.prog 29 #[.slice A0 l0.length c0] w fun e w' => e = .returned (.int .i64 r) ∧ Drawn0 w w' := by
  have HR0 := m0 hr0; have HC0 := m0 hc0; clear hr0 hc0; unfold Rf_Middle.f at H; have H' := m0 H; clear H; go_enter Try.func29, Try.ntmps29
  go_wp2
  repeat (go_quiet (fail); try go_wp2)
  go_loopg [3] k (fun kq v3 w' => ∃ (x3_1 : Int), v3 = .int .i64 x3_1 ∧ Aside0 (Rf_Middle.l0 kq l0 x3_1 = some r) ∧ Aside0 (kq ≤ k) ∧ Drawn0 w w')
  case atStart => exact ⟨(0), rz, H', ⟨Nat.le_refl _⟩, by repeat (first | exact Drawn0.refl _ | apply Drawn0.step)⟩
  case round =>
    clear H'; obtain ⟨x3_1, rfl, HA, HK1, ⟨m1, rfl⟩⟩ := hrel
    cases gk with
    | zero => exact absurd HA.out (by simp [Rf_Middle.l0])
    | succ k1 =>
      have H := HA.out; clear HA; simp only [Rf_Middle.l0] at H
      by_cases c2 : x3_1 < (l0.length : Int)
      · rw [if_pos c2] at H; have c2b0 := decide_eq_true c2; clear c2; have H' := m0 H; clear H
        go_wp2
        repeat (go_quiet (fail); try go_wp2)
        go_loopg [4, 5, 6] k1 (fun kq v4 v5 v6 w' => ∃ (x4_2 : Int) (x5_2 : Int) (x6_2 : Int), v4 = .int .i64 x4_2 ∧ v5 = .int .i64 x5_2 ∧ v6 = .int .i64 x6_2 ∧ Aside0 (Rf_Middle.l1 kq l0 x3_1 x4_2 x5_2 x6_2 = some r) ∧ Aside0 (kq ≤ k1) ∧ Drawn0 w w')
        case atStart => exact ⟨(0), (0), (0), rz, rz, rz, H', ⟨Nat.le_refl _⟩, by repeat (first | exact Drawn0.refl _ | apply Drawn0.step)⟩
        case round =>
          clear H'; obtain ⟨x4_2, x5_2, x6_2, rfl, rfl, rfl, HA, HK2, ⟨m2, rfl⟩⟩ := hrel
          cases gk with
          | zero => exact absurd HA.out (by simp [Rf_Middle.l1])
          | succ k2 =>
            have H := HA.out; clear HA; simp only [Rf_Middle.l1] at H
            by_cases c3 : x6_2 < (l0.length : Int)
            · rw [if_pos c3] at H; have c3b0 := decide_eq_true c3; clear c3
              by_cases c4 : 0 ≤ x6_2
              · rw [if_pos c4] at H; have c4b0 := decide_eq_true c4; clear c4
                by_cases c5 : 0 ≤ x3_1
                · rw [if_pos c5] at H; have c5b0 := decide_eq_true c5; clear c5
                  by_cases c6 : x3_1 < (l0.length : Int)
                  · rw [if_pos c6] at H; have c6b0 := decide_eq_true c6; clear c6
                    by_cases c7 : (rd l0 x6_2) < (rd l0 x3_1)
                    · rw [if_pos c7] at H; have c7b0 := decide_eq_true c7; clear c7
                      by_cases c8 : (rd l0 x6_2) = (rd l0 x3_1)
                      · rw [if_pos c8] at H; have c8b0 := beq_iff_eq.mpr c8; have c8b1 := bne_eq_false_iff_eq.mpr c8; clear c8; have H' := m0 H; clear H; have p530 : 0 ≤ (x6_2 : Int) := od; have q530 : x6_2 < (l0.length : Int) := od; obtain ⟨ad530, e530, hx530_0⟩ := Kd.at_int HR0.out x6_2 p530 q530
                        cases e530
                        replace p530 := eq_true p530; replace q530 := eq_true q530; have p531 : 0 ≤ (x3_1 : Int) := od; have q531 : x3_1 < (l0.length : Int) := od; obtain ⟨ad531, e531, hx531_0⟩ := Kd.at_int HR0.out x3_1 p531 q531; obtain rfl : ad530 = ad531 := (by injection e531); replace p531 := eq_true p531; replace q531 := eq_true q531; have p532 : 0 ≤ (x6_2 : Int) := od; have q532 : x6_2 < (l0.length : Int) := od; obtain ⟨ad532, e532, hx532_0⟩ := Kd.at_int HR0.out x6_2 p532 q532; obtain rfl : ad530 = ad532 := (by injection e532); replace p532 := eq_true p532; replace q532 := eq_true q532; have p533 : 0 ≤ (x3_1 : Int) := od; have q533 : x3_1 < (l0.length : Int) := od; obtain ⟨ad533, e533, hx533_0⟩ := Kd.at_int HR0.out x3_1 p533 q533; obtain rfl : ad530 = ad533 := (by injection e533); replace p533 := eq_true p533; replace q533 := eq_true q533
                        go_wp2
                        repeat (go_quiet (fail); try go_wp2)
                        go_roundg k2
                        case measure => have := HK1.out; have := HK2.out; omega
                        case rel => exact ⟨(wrap64 (x4_2 + 1)), (wrap64 (x5_2 + 1)), (wrap64 (x6_2 + 1)), rz, rz, rz, H', ⟨by have := HK1.out; have := HK2.out; omega⟩, by repeat (first | exact Drawn0.refl _ | apply Drawn0.step)⟩
                      · rw [if_neg c8] at H; have c8b0 := beq_eq_false_iff_ne.mpr c8; have c8b1 := bne_iff_ne.mpr c8; have H' := m0 H; clear H; have p530 : 0 ≤ (x6_2 : Int) := od; have q530 : x6_2 < (l0.length : Int) := od; obtain ⟨ad530, e530, hx530_0⟩ := Kd.at_int HR0.out x6_2 p530 q530
                        cases e530
                        replace p530 := eq_true p530; replace q530 := eq_true q530; have p531 : 0 ≤ (x3_1 : Int) := od; have q531 : x3_1 < (l0.length : Int) := od; obtain ⟨ad531, e531, hx531_0⟩ := Kd.at_int HR0.out x3_1 p531 q531; obtain rfl : ad530 = ad531 := (by injection e531); replace p531 := eq_true p531; replace q531 := eq_true q531; have p532 : 0 ≤ (x6_2 : Int) := od; have q532 : x6_2 < (l0.length : Int) := od; obtain ⟨ad532, e532, hx532_0⟩ := Kd.at_int HR0.out x6_2 p532 q532; obtain rfl : ad530 = ad532 := (by injection e532); replace p532 := eq_true p532; replace q532 := eq_true q532; have p533 : 0 ≤ (x3_1 : Int) := od; have q533 : x3_1 < (l0.length : Int) := od; obtain ⟨ad533, e533, hx533_0⟩ := Kd.at_int HR0.out x3_1 p533 q533; obtain rfl : ad530 = ad533 := (by injection e533); replace p533 := eq_true p533; replace q533 := eq_true q533
                        go_wp2
                        repeat (go_quiet (fail); try go_wp2)
                        go_roundg k2
                        case measure => have := HK1.out; have := HK2.out; omega
                        case rel => exact ⟨(wrap64 (x4_2 + 1)), (x5_2), (wrap64 (x6_2 + 1)), rz, rz, rz, H', ⟨by have := HK1.out; have := HK2.out; omega⟩, by repeat (first | exact Drawn0.refl _ | apply Drawn0.step)⟩
                    · rw [if_neg c7] at H; have c7b0 := decide_eq_false c7; clear c7
                      by_cases c9 : (rd l0 x6_2) = (rd l0 x3_1)
                      · rw [if_pos c9] at H; have c9b0 := beq_iff_eq.mpr c9; have c9b1 := bne_eq_false_iff_eq.mpr c9; clear c9; have H' := m0 H; clear H; have p530 : 0 ≤ (x6_2 : Int) := od; have q530 : x6_2 < (l0.length : Int) := od; obtain ⟨ad530, e530, hx530_0⟩ := Kd.at_int HR0.out x6_2 p530 q530
                        cases e530
                        replace p530 := eq_true p530; replace q530 := eq_true q530; have p531 : 0 ≤ (x3_1 : Int) := od; have q531 : x3_1 < (l0.length : Int) := od; obtain ⟨ad531, e531, hx531_0⟩ := Kd.at_int HR0.out x3_1 p531 q531; obtain rfl : ad530 = ad531 := (by injection e531); replace p531 := eq_true p531; replace q531 := eq_true q531; have p534 : 0 ≤ (x6_2 : Int) := od; have q534 : x6_2 < (l0.length : Int) := od; obtain ⟨ad534, e534, hx534_0⟩ := Kd.at_int HR0.out x6_2 p534 q534; obtain rfl : ad530 = ad534 := (by injection e534); replace p534 := eq_true p534; replace q534 := eq_true q534; have p535 : 0 ≤ (x3_1 : Int) := od; have q535 : x3_1 < (l0.length : Int) := od; obtain ⟨ad535, e535, hx535_0⟩ := Kd.at_int HR0.out x3_1 p535 q535; obtain rfl : ad530 = ad535 := (by injection e535); replace p535 := eq_true p535; replace q535 := eq_true q535
                        go_wp2
                        repeat (go_quiet (fail); try go_wp2)
                        go_roundg k2
                        case measure => have := HK1.out; have := HK2.out; omega
                        case rel => exact ⟨(x4_2), (wrap64 (x5_2 + 1)), (wrap64 (x6_2 + 1)), rz, rz, rz, H', ⟨by have := HK1.out; have := HK2.out; omega⟩, by repeat (first | exact Drawn0.refl _ | apply Drawn0.step)⟩
                      · rw [if_neg c9] at H; have c9b0 := beq_eq_false_iff_ne.mpr c9; have c9b1 := bne_iff_ne.mpr c9; have H' := m0 H; clear H; have p530 : 0 ≤ (x6_2 : Int) := od; have q530 : x6_2 < (l0.length : Int) := od; obtain ⟨ad530, e530, hx530_0⟩ := Kd.at_int HR0.out x6_2 p530 q530
                        cases e530
                        replace p530 := eq_true p530; replace q530 := eq_true q530; have p531 : 0 ≤ (x3_1 : Int) := od; have q531 : x3_1 < (l0.length : Int) := od; obtain ⟨ad531, e531, hx531_0⟩ := Kd.at_int HR0.out x3_1 p531 q531; obtain rfl : ad530 = ad531 := (by injection e531); replace p531 := eq_true p531; replace q531 := eq_true q531; have p534 : 0 ≤ (x6_2 : Int) := od; have q534 : x6_2 < (l0.length : Int) := od; obtain ⟨ad534, e534, hx534_0⟩ := Kd.at_int HR0.out x6_2 p534 q534; obtain rfl : ad530 = ad534 := (by injection e534); replace p534 := eq_true p534; replace q534 := eq_true q534; have p535 : 0 ≤ (x3_1 : Int) := od; have q535 : x3_1 < (l0.length : Int) := od; obtain ⟨ad535, e535, hx535_0⟩ := Kd.at_int HR0.out x3_1 p535 q535; obtain rfl : ad530 = ad535 := (by injection e535); replace p535 := eq_true p535; replace q535 := eq_true q535
                        go_wp2
                        repeat (go_quiet (fail); try go_wp2)
                        go_roundg k2
                        case measure => have := HK1.out; have := HK2.out; omega
                        case rel => exact ⟨(x4_2), (x5_2), (wrap64 (x6_2 + 1)), rz, rz, rz, H', ⟨by have := HK1.out; have := HK2.out; omega⟩, by repeat (first | exact Drawn0.refl _ | apply Drawn0.step)⟩
                  · rw [if_neg c6] at H; exact absurd H (by simp)
                · rw [if_neg c5] at H; exact absurd H (by simp)
              · rw [if_neg c4] at H; exact absurd H (by simp)
            · rw [if_neg c3] at H; have c3b0 := decide_eq_false c3; clear c3
              by_cases c10 : x4_2 ≤ (wrap64 (Int.tdiv (wrap64 ((l0.length : Int) - 1)) 2))
              · rw [if_pos c10] at H; have c10b0 := decide_eq_true c10; clear c10
                by_cases c11 : (wrap64 (Int.tdiv (wrap64 ((l0.length : Int) - 1)) 2)) < (wrap64 (x4_2 + x5_2))
                · rw [if_pos c11] at H; have c11b0 := decide_eq_true c11; clear c11
                  by_cases c12 : 0 ≤ x3_1
                  · rw [if_pos c12] at H; have c12b0 := decide_eq_true c12; clear c12
                    by_cases c13 : x3_1 < (l0.length : Int)
                    · rw [if_pos c13] at H; have c13b0 := decide_eq_true c13; clear c13; obtain rfl := Option.some.inj H; have p529 : 0 ≤ (x3_1 : Int) := od; have q529 : x3_1 < (l0.length : Int) := od; obtain ⟨ad529, e529, hx529_0⟩ := Kd.at_int HR0.out x3_1 p529 q529
                      cases e529
                      replace p529 := eq_true p529; replace q529 := eq_true q529
                      go_wp2
                      repeat (go_quiet (fail); try go_wp2)
                      go_ret
                      exact ⟨rz, by repeat (first | exact Drawn0.refl _ | apply Drawn0.step)⟩
                    · rw [if_neg c13] at H; exact absurd H (by simp)
                  · rw [if_neg c12] at H; exact absurd H (by simp)
                · rw [if_neg c11] at H; have c11b0 := decide_eq_false c11; clear c11; have H' := m0 H; clear H
                  go_wp2
                  repeat (go_quiet (fail); try go_wp2)
                  go_roundg k2
                  case measure => have := HK1.out; have := HK2.out; omega
                  case rel => exact ⟨(wrap64 (x3_1 + 1)), rz, H', ⟨by have := HK1.out; have := HK2.out; omega⟩, by repeat (first | exact Drawn0.refl _ | apply Drawn0.step)⟩
              · rw [if_neg c10] at H; have c10b0 := decide_eq_false c10; clear c10; have H' := m0 H; clear H
                go_wp2
                repeat (go_quiet (fail); try go_wp2)
                go_roundg k2
                case measure => have := HK1.out; have := HK2.out; omega
                case rel => exact ⟨(wrap64 (x3_1 + 1)), rz, H', ⟨by have := HK1.out; have := HK2.out; omega⟩, by repeat (first | exact Drawn0.refl _ | apply Drawn0.step)⟩
      · rw [if_neg c2] at H; have c2b0 := decide_eq_false c2; clear c2; obtain rfl := Option.some.inj H
        go_wp2
        repeat (go_quiet (fail); try go_wp2)
        go_ret
        exact ⟨rz, by repeat (first | exact Drawn0.refl _ | apply Drawn0.step)⟩
end
section
mutual
def Rf_Ceiling.l0 : Nat → List (S112) → Int → Int → Bool → Int → Option (Int × Bool)
  | 0, _, _, _, _, _ => none
  | k + 1, x0, x1, x6, x7, x8 => if x8 < (x0.length : Int) then (Rf_Ceiling.l1 k x0 x1 x6 x7 x8 0 0) else (some (x6, x7))
def Rf_Ceiling.l1 : Nat → List (S112) → Int → Int → Bool → Int → Int → Int → Option (Int × Bool)
  | 0, _, _, _, _, _, _, _ => none
  | k + 1, x0, x1, x6, x7, x8, x9, x10 => if x10 < (x0.length : Int) then (if 0 ≤ x10 then (if 0 ≤ x8 then (if x8 < (x0.length : Int) then (if ((rd_T112 x0 x10).f0) < ((rd_T112 x0 x8).f0) then (Rf_Ceiling.l1 k x0 x1 x6 x7 x8 (wrap64 (x9 + ((rd_T112 x0 x10).f2))) (wrap64 (x10 + 1))) else (if ((rd_T112 x0 x10).f0) = ((rd_T112 x0 x8).f0) then (if x10 ≤ x8 then (Rf_Ceiling.l1 k x0 x1 x6 x7 x8 (wrap64 (x9 + ((rd_T112 x0 x10).f2))) (wrap64 (x10 + 1))) else (Rf_Ceiling.l1 k x0 x1 x6 x7 x8 x9 (wrap64 (x10 + 1)))) else (Rf_Ceiling.l1 k x0 x1 x6 x7 x8 x9 (wrap64 (x10 + 1))))) else (none)) else (none)) else (none)) else (if x9 ≥ x1 then (if x7 = true then (if 0 ≤ x8 then (if x8 < (x0.length : Int) then (if ((rd_T112 x0 x8).f0) < x6 then (Rf_Ceiling.l0 k x0 x1 ((rd_T112 x0 x8).f0) true (wrap64 (x8 + 1))) else (Rf_Ceiling.l0 k x0 x1 x6 x7 (wrap64 (x8 + 1)))) else (none)) else (none)) else (if 0 ≤ x8 then (if x8 < (x0.length : Int) then (Rf_Ceiling.l0 k x0 x1 ((rd_T112 x0 x8).f0) true (wrap64 (x8 + 1))) else (none)) else (none))) else (Rf_Ceiling.l0 k x0 x1 x6 x7 (wrap64 (x8 + 1))))
end
def Rf_Ceiling.f (k : Nat) (l0 : List (S112)) (a1 : Int) : Option (Int × Bool) := Rf_Ceiling.l0 k l0 a1 0 false 0
theorem Rf_Ceiling.mono_l : ∀ k, (∀ y0 y1 y2 y3 y4, LeO (Rf_Ceiling.l0 k y0 y1 y2 y3 y4) (Rf_Ceiling.l0 (k + 1) y0 y1 y2 y3 y4)) ∧ (∀ y0 y1 y2 y3 y4 y5 y6, LeO (Rf_Ceiling.l1 k y0 y1 y2 y3 y4 y5 y6) (Rf_Ceiling.l1 (k + 1) y0 y1 y2 y3 y4 y5 y6))
  | 0 => ⟨fun _ _ _ _ _ r h => by simp [Rf_Ceiling.l0] at h, fun _ _ _ _ _ _ _ r h => by simp [Rf_Ceiling.l1] at h⟩
  | k + 1 => by
    obtain ⟨ih0, ih1⟩ := Rf_Ceiling.mono_l k; refine ⟨?_, ?_⟩
    · intro y0 y1 y2 y3 y4; unfold Rf_Ceiling.l0
      repeat' with_reducible first
        | exact ih0 ..
        | exact ih1 ..
        | exact LeO.refl ..
        | exact LeO.none ..
        | refine LeO.ite ?_ ?_
        | refine LeO.bind ?_ (fun _ => ?_)
    · intro y0 y1 y2 y3 y4 y5 y6; unfold Rf_Ceiling.l1
      repeat' with_reducible first
        | exact ih0 ..
        | exact ih1 ..
        | exact LeO.refl ..
        | exact LeO.none ..
        | refine LeO.ite ?_ ?_
        | refine LeO.bind ?_ (fun _ => ?_)
theorem Rf_Ceiling.mono : ∀ a0 a1 k, LeO (Rf_Ceiling.f k a0 a1) (Rf_Ceiling.f (k + 1) a0 a1) := by
  intro a0 a1 k; obtain ⟨ih0, ih1⟩ := Rf_Ceiling.mono_l k; unfold Rf_Ceiling.f
  repeat' with_reducible first
    | exact ih0 ..
    | exact ih1 ..
    | exact LeO.refl ..
    | exact LeO.none ..
    | refine LeO.ite ?_ ?_
    | refine LeO.bind ?_ (fun _ => ?_)
theorem Rf_Ceiling.calls (k : Nat) (A0 : Option Addr) (c0 : Nat) (l0 : List (S112)) (a1 : Int) (r1 : Int) (r2 : Bool) (w : World) (hr0 : Kd.C k112 w A0 l0.length l0) (hc0 : l0.length ≤ c0) (H : Rf_Ceiling.f k l0 a1 = some (r1, r2)) :
    Calls Try.prog 30 #[.slice A0 l0.length c0, .int .i64 a1] w fun e w' => e = .returned (.tuple #[.int .i64 r1, .bool r2]) ∧ Drawn0 w w' := by
  have HR0 := m0 hr0; have HC0 := m0 hc0; clear hr0 hc0; unfold Rf_Ceiling.f at H; have H' := m0 H; clear H; go_enter Try.func30, Try.ntmps30
  go_wp2
  repeat (go_quiet (fail); try go_wp2)
  go_loopg [6, 7, 8] k (fun kq v6 v7 v8 w' => ∃ (x6_1 : Int) (x7_1 : Bool) (x8_1 : Int), v6 = .int .i64 x6_1 ∧ v7 = .bool x7_1 ∧ v8 = .int .i64 x8_1 ∧ Aside0 (Rf_Ceiling.l0 kq l0 a1 x6_1 x7_1 x8_1 = some (r1, r2)) ∧ Aside0 (kq ≤ k) ∧ Drawn0 w w')
  case atStart => exact ⟨(0), (false), (0), rz, rz, rz, H', ⟨Nat.le_refl _⟩, by repeat (first | exact Drawn0.refl _ | apply Drawn0.step)⟩
  case round =>
    clear H'; obtain ⟨x6_1, x7_1, x8_1, rfl, rfl, rfl, HA, HK1, ⟨m1, rfl⟩⟩ := hrel
    cases gk with
    | zero => exact absurd HA.out (by simp [Rf_Ceiling.l0])
    | succ k1 =>
      have H := HA.out; clear HA; simp only [Rf_Ceiling.l0] at H
      by_cases c3 : x8_1 < (l0.length : Int)
      · rw [if_pos c3] at H; have c3b0 := decide_eq_true c3; clear c3; have H' := m0 H; clear H
        go_wp2
        repeat (go_quiet (fail); try go_wp2)
        go_loopg [9, 10] k1 (fun kq v9 v10 w' => ∃ (x9_2 : Int) (x10_2 : Int), v9 = .int .i64 x9_2 ∧ v10 = .int .i64 x10_2 ∧ Aside0 (Rf_Ceiling.l1 kq l0 a1 x6_1 x7_1 x8_1 x9_2 x10_2 = some (r1, r2)) ∧ Aside0 (kq ≤ k1) ∧ Drawn0 w w')
        case atStart => exact ⟨(0), (0), rz, rz, H', ⟨Nat.le_refl _⟩, by repeat (first | exact Drawn0.refl _ | apply Drawn0.step)⟩
        case round =>
          clear H'; obtain ⟨x9_2, x10_2, rfl, rfl, HA, HK2, ⟨m2, rfl⟩⟩ := hrel
          cases gk with
          | zero => exact absurd HA.out (by simp [Rf_Ceiling.l1])
          | succ k2 =>
            have H := HA.out; clear HA; simp only [Rf_Ceiling.l1] at H
            by_cases c4 : x10_2 < (l0.length : Int)
            · rw [if_pos c4] at H; have c4b0 := decide_eq_true c4; clear c4
              by_cases c5 : 0 ≤ x10_2
              · rw [if_pos c5] at H; have c5b0 := decide_eq_true c5; clear c5
                by_cases c6 : 0 ≤ x8_1
                · rw [if_pos c6] at H; have c6b0 := decide_eq_true c6; clear c6
                  by_cases c7 : x8_1 < (l0.length : Int)
                  · rw [if_pos c7] at H; have c7b0 := decide_eq_true c7; clear c7
                    by_cases c8 : ((rd_T112 l0 x10_2).f0) < ((rd_T112 l0 x8_1).f0)
                    · rw [if_pos c8] at H; have c8b0 := decide_eq_true c8; clear c8; have H' := m0 H; clear H; have p536 : 0 ≤ (x10_2 : Int) := od; have q536 : x10_2 < (l0.length : Int) := od; obtain ⟨ad536, e536, hx536_0, hx536_1, hx536_2⟩ := at_T112 HR0.out x10_2 p536 q536
                      cases e536
                      replace p536 := eq_true p536; replace q536 := eq_true q536; have p537 : 0 ≤ (x8_1 : Int) := od; have q537 : x8_1 < (l0.length : Int) := od; obtain ⟨ad537, e537, hx537_0, hx537_1, hx537_2⟩ := at_T112 HR0.out x8_1 p537 q537; obtain rfl : ad536 = ad537 := (by injection e537); replace p537 := eq_true p537; replace q537 := eq_true q537; have p538 : 0 ≤ (x10_2 : Int) := od; have q538 : x10_2 < (l0.length : Int) := od; obtain ⟨ad538, e538, hx538_0, hx538_1, hx538_2⟩ := at_T112 HR0.out x10_2 p538 q538; obtain rfl : ad536 = ad538 := (by injection e538); replace p538 := eq_true p538; replace q538 := eq_true q538
                      go_wp2
                      repeat (go_quiet (fail); try go_wp2)
                      go_roundg k2
                      case measure => have := HK1.out; have := HK2.out; omega
                      case rel => exact ⟨(wrap64 (x9_2 + ((rd_T112 l0 x10_2).f2))), (wrap64 (x10_2 + 1)), rz, rz, H', ⟨by have := HK1.out; have := HK2.out; omega⟩, by repeat (first | exact Drawn0.refl _ | apply Drawn0.step)⟩
                    · rw [if_neg c8] at H; have c8b0 := decide_eq_false c8; clear c8
                      by_cases c9 : ((rd_T112 l0 x10_2).f0) = ((rd_T112 l0 x8_1).f0)
                      · rw [if_pos c9] at H; have c9b0 := beq_iff_eq.mpr c9; have c9b1 := bne_eq_false_iff_eq.mpr c9; clear c9
                        by_cases c10 : x10_2 ≤ x8_1
                        · rw [if_pos c10] at H; have c10b0 := decide_eq_true c10; clear c10; have H' := m0 H; clear H; have p536 : 0 ≤ (x10_2 : Int) := od; have q536 : x10_2 < (l0.length : Int) := od; obtain ⟨ad536, e536, hx536_0, hx536_1, hx536_2⟩ := at_T112 HR0.out x10_2 p536 q536
                          cases e536
                          replace p536 := eq_true p536; replace q536 := eq_true q536; have p537 : 0 ≤ (x8_1 : Int) := od; have q537 : x8_1 < (l0.length : Int) := od; obtain ⟨ad537, e537, hx537_0, hx537_1, hx537_2⟩ := at_T112 HR0.out x8_1 p537 q537; obtain rfl : ad536 = ad537 := (by injection e537); replace p537 := eq_true p537; replace q537 := eq_true q537; have p539 : 0 ≤ (x10_2 : Int) := od; have q539 : x10_2 < (l0.length : Int) := od; obtain ⟨ad539, e539, hx539_0, hx539_1, hx539_2⟩ := at_T112 HR0.out x10_2 p539 q539; obtain rfl : ad536 = ad539 := (by injection e539); replace p539 := eq_true p539; replace q539 := eq_true q539; have p540 : 0 ≤ (x8_1 : Int) := od; have q540 : x8_1 < (l0.length : Int) := od; obtain ⟨ad540, e540, hx540_0, hx540_1, hx540_2⟩ := at_T112 HR0.out x8_1 p540 q540; obtain rfl : ad536 = ad540 := (by injection e540); replace p540 := eq_true p540; replace q540 := eq_true q540; have p541 : 0 ≤ (x10_2 : Int) := od; have q541 : x10_2 < (l0.length : Int) := od; obtain ⟨ad541, e541, hx541_0, hx541_1, hx541_2⟩ := at_T112 HR0.out x10_2 p541 q541; obtain rfl : ad536 = ad541 := (by injection e541); replace p541 := eq_true p541; replace q541 := eq_true q541
                          go_wp2
                          repeat (go_quiet (fail); try go_wp2)
                          go_roundg k2
                          case measure => have := HK1.out; have := HK2.out; omega
                          case rel => exact ⟨(wrap64 (x9_2 + ((rd_T112 l0 x10_2).f2))), (wrap64 (x10_2 + 1)), rz, rz, H', ⟨by have := HK1.out; have := HK2.out; omega⟩, by repeat (first | exact Drawn0.refl _ | apply Drawn0.step)⟩
                        · rw [if_neg c10] at H; have c10b0 := decide_eq_false c10; clear c10; have H' := m0 H; clear H; have p536 : 0 ≤ (x10_2 : Int) := od; have q536 : x10_2 < (l0.length : Int) := od; obtain ⟨ad536, e536, hx536_0, hx536_1, hx536_2⟩ := at_T112 HR0.out x10_2 p536 q536
                          cases e536
                          replace p536 := eq_true p536; replace q536 := eq_true q536; have p537 : 0 ≤ (x8_1 : Int) := od; have q537 : x8_1 < (l0.length : Int) := od; obtain ⟨ad537, e537, hx537_0, hx537_1, hx537_2⟩ := at_T112 HR0.out x8_1 p537 q537; obtain rfl : ad536 = ad537 := (by injection e537); replace p537 := eq_true p537; replace q537 := eq_true q537; have p539 : 0 ≤ (x10_2 : Int) := od; have q539 : x10_2 < (l0.length : Int) := od; obtain ⟨ad539, e539, hx539_0, hx539_1, hx539_2⟩ := at_T112 HR0.out x10_2 p539 q539; obtain rfl : ad536 = ad539 := (by injection e539); replace p539 := eq_true p539; replace q539 := eq_true q539; have p540 : 0 ≤ (x8_1 : Int) := od; have q540 : x8_1 < (l0.length : Int) := od; obtain ⟨ad540, e540, hx540_0, hx540_1, hx540_2⟩ := at_T112 HR0.out x8_1 p540 q540; obtain rfl : ad536 = ad540 := (by injection e540); replace p540 := eq_true p540; replace q540 := eq_true q540
                          go_wp2
                          repeat (go_quiet (fail); try go_wp2)
                          go_roundg k2
                          case measure => have := HK1.out; have := HK2.out; omega
                          case rel => exact ⟨(x9_2), (wrap64 (x10_2 + 1)), rz, rz, H', ⟨by have := HK1.out; have := HK2.out; omega⟩, by repeat (first | exact Drawn0.refl _ | apply Drawn0.step)⟩
                      · rw [if_neg c9] at H; have c9b0 := beq_eq_false_iff_ne.mpr c9; have c9b1 := bne_iff_ne.mpr c9; have H' := m0 H; clear H; have p536 : 0 ≤ (x10_2 : Int) := od; have q536 : x10_2 < (l0.length : Int) := od; obtain ⟨ad536, e536, hx536_0, hx536_1, hx536_2⟩ := at_T112 HR0.out x10_2 p536 q536
                        cases e536
                        replace p536 := eq_true p536; replace q536 := eq_true q536; have p537 : 0 ≤ (x8_1 : Int) := od; have q537 : x8_1 < (l0.length : Int) := od; obtain ⟨ad537, e537, hx537_0, hx537_1, hx537_2⟩ := at_T112 HR0.out x8_1 p537 q537; obtain rfl : ad536 = ad537 := (by injection e537); replace p537 := eq_true p537; replace q537 := eq_true q537; have p539 : 0 ≤ (x10_2 : Int) := od; have q539 : x10_2 < (l0.length : Int) := od; obtain ⟨ad539, e539, hx539_0, hx539_1, hx539_2⟩ := at_T112 HR0.out x10_2 p539 q539; obtain rfl : ad536 = ad539 := (by injection e539); replace p539 := eq_true p539; replace q539 := eq_true q539; have p540 : 0 ≤ (x8_1 : Int) := od; have q540 : x8_1 < (l0.length : Int) := od; obtain ⟨ad540, e540, hx540_0, hx540_1, hx540_2⟩ := at_T112 HR0.out x8_1 p540 q540; obtain rfl : ad536 = ad540 := (by injection e540); replace p540 := eq_true p540; replace q540 := eq_true q540
                        go_wp2
                        repeat (go_quiet (fail); try go_wp2)
                        go_roundg k2
                        case measure => have := HK1.out; have := HK2.out; omega
                        case rel => exact ⟨(x9_2), (wrap64 (x10_2 + 1)), rz, rz, H', ⟨by have := HK1.out; have := HK2.out; omega⟩, by repeat (first | exact Drawn0.refl _ | apply Drawn0.step)⟩
                  · rw [if_neg c7] at H; exact absurd H (by simp)
                · rw [if_neg c6] at H; exact absurd H (by simp)
              · rw [if_neg c5] at H; exact absurd H (by simp)
            · rw [if_neg c4] at H; have c4b0 := decide_eq_false c4; clear c4
              by_cases c11 : x9_2 ≥ a1
              · rw [if_pos c11] at H; have c11b0 := decide_eq_true c11; clear c11
                by_cases c12 : x7_1 = true
                · subst c12; rw [if_pos rfl] at H
                  by_cases c13 : 0 ≤ x8_1
                  · rw [if_pos c13] at H; have c13b0 := decide_eq_true c13; clear c13
                    by_cases c14 : x8_1 < (l0.length : Int)
                    · rw [if_pos c14] at H; have c14b0 := decide_eq_true c14; clear c14
                      by_cases c15 : ((rd_T112 l0 x8_1).f0) < x6_1
                      · rw [if_pos c15] at H; have c15b0 := decide_eq_true c15; clear c15; have H' := m0 H; clear H; have p542 : 0 ≤ (x8_1 : Int) := od; have q542 : x8_1 < (l0.length : Int) := od; obtain ⟨ad542, e542, hx542_0, hx542_1, hx542_2⟩ := at_T112 HR0.out x8_1 p542 q542
                        cases e542
                        replace p542 := eq_true p542; replace q542 := eq_true q542; have p543 : 0 ≤ (x8_1 : Int) := od; have q543 : x8_1 < (l0.length : Int) := od; obtain ⟨ad543, e543, hx543_0, hx543_1, hx543_2⟩ := at_T112 HR0.out x8_1 p543 q543; obtain rfl : ad542 = ad543 := (by injection e543); replace p543 := eq_true p543; replace q543 := eq_true q543
                        go_wp2
                        repeat (go_quiet (fail); try go_wp2)
                        go_roundg k2
                        case measure => have := HK1.out; have := HK2.out; omega
                        case rel => exact ⟨((rd_T112 l0 x8_1).f0), (true), (wrap64 (x8_1 + 1)), rz, rz, rz, H', ⟨by have := HK1.out; have := HK2.out; omega⟩, by repeat (first | exact Drawn0.refl _ | apply Drawn0.step)⟩
                      · rw [if_neg c15] at H; have c15b0 := decide_eq_false c15; clear c15; have H' := m0 H; clear H; have p542 : 0 ≤ (x8_1 : Int) := od; have q542 : x8_1 < (l0.length : Int) := od; obtain ⟨ad542, e542, hx542_0, hx542_1, hx542_2⟩ := at_T112 HR0.out x8_1 p542 q542
                        cases e542
                        replace p542 := eq_true p542; replace q542 := eq_true q542
                        go_wp2
                        repeat (go_quiet (fail); try go_wp2)
                        go_roundg k2
                        case measure => have := HK1.out; have := HK2.out; omega
                        case rel => exact ⟨(x6_1), (true), (wrap64 (x8_1 + 1)), rz, rz, rz, H', ⟨by have := HK1.out; have := HK2.out; omega⟩, by repeat (first | exact Drawn0.refl _ | apply Drawn0.step)⟩
                    · rw [if_neg c14] at H; exact absurd H (by simp)
                  · rw [if_neg c13] at H; exact absurd H (by simp)
                · replace c12 := Bool.eq_false_iff.mpr c12; subst c12; rw [if_neg (show ¬ (false = true) by decide)] at H
                  by_cases c16 : 0 ≤ x8_1
                  · rw [if_pos c16] at H; have c16b0 := decide_eq_true c16; clear c16
                    by_cases c17 : x8_1 < (l0.length : Int)
                    · rw [if_pos c17] at H; have c17b0 := decide_eq_true c17; clear c17; have H' := m0 H; clear H; have p544 : 0 ≤ (x8_1 : Int) := od; have q544 : x8_1 < (l0.length : Int) := od; obtain ⟨ad544, e544, hx544_0, hx544_1, hx544_2⟩ := at_T112 HR0.out x8_1 p544 q544
                      cases e544
                      replace p544 := eq_true p544; replace q544 := eq_true q544
                      go_wp2
                      repeat (go_quiet (fail); try go_wp2)
                      go_roundg k2
                      case measure => have := HK1.out; have := HK2.out; omega
                      case rel => exact ⟨((rd_T112 l0 x8_1).f0), (true), (wrap64 (x8_1 + 1)), rz, rz, rz, H', ⟨by have := HK1.out; have := HK2.out; omega⟩, by repeat (first | exact Drawn0.refl _ | apply Drawn0.step)⟩
                    · rw [if_neg c17] at H; exact absurd H (by simp)
                  · rw [if_neg c16] at H; exact absurd H (by simp)
              · rw [if_neg c11] at H; have c11b0 := decide_eq_false c11; clear c11; have H' := m0 H; clear H
                go_wp2
                repeat (go_quiet (fail); try go_wp2)
                go_roundg k2
                case measure => have := HK1.out; have := HK2.out; omega
                case rel => exact ⟨(x6_1), (x7_1), (wrap64 (x8_1 + 1)), rz, rz, rz, H', ⟨by have := HK1.out; have := HK2.out; omega⟩, by repeat (first | exact Drawn0.refl _ | apply Drawn0.step)⟩
      · rw [if_neg c3] at H; have c3b0 := decide_eq_false c3; clear c3; simp only [Option.some.injEq, Prod.mk.injEq] at H; obtain ⟨rfl, rfl⟩ := H
        go_wp2
        repeat (go_quiet (fail); try go_wp2)
        go_ret2
        exact ⟨rz, by repeat (first | exact Drawn0.refl _ | apply Drawn0.step)⟩
end
end Go.Proofs.Yteiafijbgjgiaaa.A
