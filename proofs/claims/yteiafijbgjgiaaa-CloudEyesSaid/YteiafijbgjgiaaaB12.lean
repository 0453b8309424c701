/- Walks of the program's functions (printed, made shorter), each with what it computes. -/
import Derived.Test.YteiafijbgjgiaaaB10
namespace Go.Proofs.Yteiafijbgjgiaaa.A
set_option maxHeartbeats 8000000
set_option maxRecDepth 100000
open Go.RowKit Go.Proofs.YteiafijbgjgiaaaW.PrintWords Go.Proofs.YteiafijbgjgiaaaW.PrintLast Go.Proofs.YteiafijbgjgiaaaW.PrintMore
attribute [local go_sem] max2_int min2_int max_two min_two max_three min_three max_four min_four
set_option linter.unusedVariables false
set_option linter.unusedSimpArgs false
section
def L_isSignal.f (a0 : Int) : Option (Bool) := (L_within.f a0 0 10000).bind fun t238 => (some t238)
theorem L_isSignal.calls (a0 : Int) (r : Bool) (w : World) (H : L_isSignal.f a0 = some r) :
  Calls Try.prog 90 #[.int .i64 a0] w fun e w' => e = .returned (.bool r) ∧ Drawn0 w w' := by
 unfold L_isSignal.f at H; replace H := oa H; obtain ⟨t238, A2, H⟩ := H; (try dsimp only at H); obtain rfl := Option.some.inj H; go_enter Try.func90, Try.ntmps90
 go_wp2_with (first | ((with_reducible refine gc 70 rfl ?_); refine gl (some 4) Try.func70 #[.int .i64 a0, .int .i64 0, .int .i64 10000] ?_; (with_reducible refine (L_within.calls a0 0 10000 t238 _ A2.out).mono ?_); rintro e w' ⟨rfl, ⟨nd, rfl⟩⟩; refine ⟨_, rfl, ?_⟩))
 go_ret
 exact ⟨rz, by repeat (first | exact Drawn0.refl _ | apply Drawn0.step)⟩
end
section
def L_CheckProfile_1.f (a0 : Int) : Option (Int) := (L_isSignal.f a0).bind fun t239 => ((L_unless.f t239 2).bind fun t240 => (some t240))
theorem L_CheckProfile_1.calls (a0 : Int) (r : Int) (w : World) (H : L_CheckProfile_1.f a0 = some r) :
  Calls Try.prog 89 #[.int .i64 a0] w fun e w' => e = .returned (.int .i64 r) ∧ Drawn0 w w' := by
 unfold L_CheckProfile_1.f at H; replace H := oa H; obtain ⟨t239, A2, H⟩ := H; (try dsimp only at H); replace H := oa H; obtain ⟨t240, A3, H⟩ := H; (try dsimp only at H); obtain rfl := Option.some.inj H; go_enter Try.func89, Try.ntmps89
 go_wp2_with (first | ((with_reducible refine gc 90 rfl ?_); refine gl (some 4) Try.func90 #[.int .i64 a0] ?_; (with_reducible refine (L_isSignal.calls a0 t239 _ A2.out).mono ?_); rintro e w' ⟨rfl, ⟨nd, rfl⟩⟩; refine ⟨_, rfl, ?_⟩) | ((with_reducible refine gc 69 rfl ?_); refine gl (some 5) Try.func69 #[.bool t239, .int .i64 2] ?_; (with_reducible refine (L_unless.calls t239 2 t240 _ A3.out).mono ?_); rintro e w' ⟨rfl, ⟨nd, rfl⟩⟩; refine ⟨_, rfl, ?_⟩))
 go_ret
 exact ⟨rz, by repeat (first | exact Drawn0.refl _ | apply Drawn0.step)⟩
end
section
def L_each_int_CheckProfile_1.l0 : Nat → List Int → Int → Int → Option (Int × Int)
 | 0, _, _, _ => none
 | k + 1, x9, x10, x11 => if x11 < x10 then (if 0 ≤ x11 then (if x11 < (x9.length : Int) then ((L_CheckProfile_1.f (rd x9 x11)).bind fun t242 => (if t242 = 0 then (L_each_int_CheckProfile_1.l0 k x9 x10 (wrap64 (x11 + 1))) else (some (x11, t242)))) else (none)) else (none)) else (some (0, 0))
def L_each_int_CheckProfile_1.f (k : Nat) (l0 : List Int)  : Option (Int × Int) := L_each_int_CheckProfile_1.l0 k l0 (l0.length : Int) 0
theorem L_each_int_CheckProfile_1.mono_l : ∀ k, (∀ y0 y1 y2, LeO (L_each_int_CheckProfile_1.l0 k y0 y1 y2) (L_each_int_CheckProfile_1.l0 (k + 1) y0 y1 y2))
 | 0 => fun _ _ _ r h => by simp [L_each_int_CheckProfile_1.l0] at h
 | k + 1 => by
  have ih0 := L_each_int_CheckProfile_1.mono_l k
  ·intro y0 y1 y2; unfold L_each_int_CheckProfile_1.l0
   repeat' with_reducible first
    | exact ih0 ..
    | exact LeO.refl ..
    | exact LeO.none ..
    | refine LeO.ite ?_ ?_
    | refine LeO.bind ?_ (fun _ => ?_)
theorem L_each_int_CheckProfile_1.mono : ∀ a0 k, LeO (L_each_int_CheckProfile_1.f k a0) (L_each_int_CheckProfile_1.f (k + 1) a0) := by
 intro a0 k; have ih0 := L_each_int_CheckProfile_1.mono_l k; unfold L_each_int_CheckProfile_1.f
 repeat' with_reducible first
  | exact ih0 ..
  | exact LeO.refl ..
  | exact LeO.none ..
  | refine LeO.ite ?_ ?_
  | refine LeO.bind ?_ (fun _ => ?_)
theorem L_each_int_CheckProfile_1.calls (k : Nat) (A0 : Option Addr) (c0 : Nat) (l0 : List Int)  (r1 : Int) (r2 : Int) (w : World) (hr0 : Kd.C (Kd.int .i64) w A0 l0.length l0) (hc0 : l0.length ≤ c0) (H : L_each_int_CheckProfile_1.f k l0 = some (r1, r2)) :
  Calls Try.prog 80 #[.slice A0 l0.length c0, .func (.func 89) #[] #[]] w fun e w' => e = .returned (.tuple #[.int .i64 r1, .int .i64 r2]) ∧ Drawn0 w w' := by
 have HR0 := m0 hr0; have HC0 := m0 hc0; clear hr0 hc0; unfold L_each_int_CheckProfile_1.f at H; have H' := m0 H; clear H; go_enter Try.func80, Try.ntmps80
 go_wp2
 go_loopg [11] k (fun kq v11 w' => ∃ (x11_1 : Int), v11 = .int .i64 x11_1 ∧ Aside0 (L_each_int_CheckProfile_1.l0 kq l0 (l0.length : Int) x11_1 = some (r1, r2)) ∧ Aside0 (kq ≤ k) ∧ Drawn0 w w')
 case atStart => exact ⟨(0), rz, H', ⟨Nat.le_refl _⟩, by repeat (first | exact Drawn0.refl _ | apply Drawn0.step)⟩
 case round =>
  clear H'; obtain ⟨x11_1, rfl, HA, HK1, ⟨m1, rfl⟩⟩ := hrel
  cases gk with
  | zero => exact absurd HA.out (by simp [L_each_int_CheckProfile_1.l0])
  | succ k1 =>
   have H := HA.out; clear HA; simp only [L_each_int_CheckProfile_1.l0] at H
   by_cases c3 : x11_1 < (l0.length : Int)
   ·rw [if_pos c3] at H; have c3b0 := decide_eq_true c3; clear c3
    by_cases c4 : 0 ≤ x11_1
    ·rw [if_pos c4] at H; have c4b0 := decide_eq_true c4; clear c4
     by_cases c5 : x11_1 < (l0.length : Int)
     ·rw [if_pos c5] at H; have c5b0 := decide_eq_true c5; clear c5; replace H := oa H; obtain ⟨t242, A6, H⟩ := H; (try dsimp only at H)
      by_cases c7 : t242 = 0
      ·rw [if_pos c7] at H; have c7b0 := beq_iff_eq.mpr c7; have c7b1 := bne_eq_false_iff_eq.mpr c7; clear c7; have H' := m0 H; clear H; have p241 : 0 ≤ (x11_1 : Int) := od; have q241 : x11_1 < (l0.length : Int) := od; obtain ⟨ad241, e241, hx241_0⟩ := Kd.at_int HR0.out x11_1 p241 q241
       cases e241
       replace p241 := eq_true p241; replace q241 := eq_true q241
       go_wp2_with (first | (go_at_call 89; (with_reducible refine (L_CheckProfile_1.calls (rd l0 x11_1) t242 _ A6.out).mono ?_); rintro e w' ⟨rfl, ⟨nd, rfl⟩⟩))
       go_roundg k1
       case measure => have := HK1.out; omega
       case rel => exact ⟨(wrap64 (x11_1 + 1)), rz, H', ⟨by have := HK1.out; omega⟩, by repeat (first | exact Drawn0.refl _ | apply Drawn0.step)⟩
      ·rw [if_neg c7] at H; have c7b0 := beq_eq_false_iff_ne.mpr c7; have c7b1 := bne_iff_ne.mpr c7; simp only [Option.some.injEq, Prod.mk.injEq] at H; obtain ⟨rfl, rfl⟩ := H; have p241 : 0 ≤ (x11_1 : Int) := od; have q241 : x11_1 < (l0.length : Int) := od; obtain ⟨ad241, e241, hx241_0⟩ := Kd.at_int HR0.out x11_1 p241 q241
       cases e241
       replace p241 := eq_true p241; replace q241 := eq_true q241
       go_wp2_with (first | (go_at_call 89; (with_reducible refine (L_CheckProfile_1.calls (rd l0 x11_1) t242 _ A6.out).mono ?_); rintro e w' ⟨rfl, ⟨nd, rfl⟩⟩))
       go_ret2
       exact ⟨rz, by repeat (first | exact Drawn0.refl _ | apply Drawn0.step)⟩
     ·rw [if_neg c5] at H; exact absurd H (by simp)
    ·rw [if_neg c4] at H; exact absurd H (by simp)
   ·rw [if_neg c3] at H; have c3b0 := decide_eq_false c3; clear c3; simp only [Option.some.injEq, Prod.mk.injEq] at H; obtain ⟨rfl, rfl⟩ := H
    go_wp2
    go_ret2
    exact ⟨rz, by repeat (first | exact Drawn0.refl _ | apply Drawn0.step)⟩
end
section
def L_CheckProfile.f (k : Nat) (l0 : List Int) : Option (Int × Int) := (L_unless.f (decide ((l0.length : Int) > 0)) 10).bind fun t243 => ((L_unless.f (decide ((l0.length : Int) ≤ 24)) 8).bind fun t244 => ((L_first.f k (([t243, t244] : List Int))).bind fun t248 => (if t248 = 0 then ((L_each_int_CheckProfile_1.f k l0).bind fun bt249 => (some (bt249.1, bt249.2))) else (some (0, t248)))))
theorem L_CheckProfile.mono : ∀ a0 k, LeO (L_CheckProfile.f k a0) (L_CheckProfile.f (k + 1) a0) := by
 intro a0 k; unfold L_CheckProfile.f
 repeat' with_reducible first
  | exact L_each_int_CheckProfile_1.mono ..
  | exact L_first.mono ..
  | exact LeO.refl ..
  | exact LeO.none ..
  | refine LeO.ite ?_ ?_
  | refine LeO.bind ?_ (fun _ => ?_)
theorem L_CheckProfile.calls (k : Nat) (A0 : Option Addr) (c0 : Nat) (l0 : List Int) (r1 : Int) (r2 : Int) (w : World) (hr0 : Kd.C (Kd.int .i64) w A0 l0.length l0) (hc0 : l0.length ≤ c0) (H : L_CheckProfile.f k l0 = some (r1, r2)) :
  Calls Try.prog 42 #[.slice A0 l0.length c0] w fun e w' => e = .returned (.tuple #[.int .i64 r1, .int .i64 r2]) ∧ Below w.heap.size w w' := by
 have HR0 := m0 hr0; have HC0 := m0 hc0; clear hr0 hc0; have HB := m0 (Below.refl w.heap.size w); unfold L_CheckProfile.f at H; replace H := oa H; obtain ⟨t243, A2, H⟩ := H; (try dsimp only at H); replace H := oa H; obtain ⟨t244, A3, H⟩ := H; (try dsimp only at H); obtain ⟨y245, hy245⟩ : ∃ y_ : List Int, y_ = (([t243, t244] : List Int)) := ⟨_, rfl⟩; replace H : ((L_first.f k y245).bind fun t248 => (if t248 = 0 then ((L_each_int_CheckProfile_1.f k l0).bind fun bt249 => (some (bt249.1, bt249.2))) else (some (0, t248)))) = some (r1, r2) := by first | (rw [hy245]; with_reducible exact H) | (have H2_ := (Option.bind_some _ _).symm.trans H; rw [hy245]; with_reducible exact H2_) | (have H2_ := (Option.bind_some _ _).symm.trans H; with_reducible exact H2_) | with_reducible exact H | (rw [hy245]; exact H) | exact H
 have Ny245 := m0 hy245; clear hy245; replace H := oa H; obtain ⟨t248, A4, H⟩ := H; (try dsimp only at H)
 by_cases c5 : t248 = 0
 ·rw [if_pos c5] at H; have c5b0 := beq_iff_eq.mpr c5; have c5b1 := bne_eq_false_iff_eq.mpr c5; clear c5; replace H := oa H; obtain ⟨⟨t249, t250⟩, A6, H⟩ := H; (try dsimp only at H); simp only [Option.some.injEq, Prod.mk.injEq] at H; obtain ⟨rfl, rfl⟩ := H; go_enter Try.func42, Try.ntmps42
  go_wp2_with (first | ((with_reducible refine gc 69 rfl ?_); refine goesL_ (some 8) rfl rfl Try.func69 (by kernel_rfl) rfl #[.bool (decide ((l0.length : Int) > 0)), .int .i64 10] rfl (by (try simp only [List.map_toArray, List.map_cons, List.map_nil]); first | done | rfl | (simp only [List.length_drop, List.length_take]; rfl) | (simp; first | done | exact ⟨rfl, rfl⟩)) ?_; (with_reducible refine (L_unless.calls (decide ((l0.length : Int) > 0)) 10 t243 _ A2.out).mono ?_); rintro e w' ⟨rfl, ⟨nd, rfl⟩⟩; refine ⟨_, rfl, ?_⟩) | ((with_reducible refine gc 69 rfl ?_); refine gl (some 12) Try.func69 #[.bool (decide ((l0.length : Int) ≤ 24)), .int .i64 8] ?_; (with_reducible refine (L_unless.calls (decide ((l0.length : Int) ≤ 24)) 8 t244 _ A3.out).mono ?_); rintro e w' ⟨rfl, ⟨nd, rfl⟩⟩; refine ⟨_, rfl, ?_⟩) | ((with_reducible refine ga 13 rfl ?_); refine Kd.R_lit (Kd.int .i64) _ 26 ?hg (N := 13) ?hd (xs := ([t243, t244] : List Int)) (inner := [.int .i64 t243, .int .i64 t244]) (ok := fun _ => True) (okp := fun _ => True) ?hr ?hp (fun _ hk => hk) trivial (Below.refl _ _) (Nat.le_refl _) (by simp) ?_; (case hd => rfl); (case hg => rfl); (case hr => first | (go_simp; done) | (go_simp; rfl)); (case hp => exact (Reps.one (ki t243) (Reps.one (ki t244) (Reps.none _ _)))); intro v246 w7 ho8 hb hg_ hnew_; clear hg_ hnew_; (first | rw [← Ny245.out] at ho8 | (simp only [Int.reduceToNat] at ho8; rw [← Ny245.out] at ho8)); have HO247 := m0 (Kd.R_lower ho8 (below_size bz)); replace HB := sb HB hb; clear hb ho8; obtain ⟨Ao9, co9, eo9⟩ := Kd.R_slice HO247.out; subst eo9) | ((with_reducible refine gc 68 rfl ?_); refine gl (some 14) Try.func68 #[.slice Ao9 y245.length co9] ?_; (with_reducible refine (L_first.calls k _ _ y245 t248 _ ?side1 ?side2 A4.out).mono ?_); (case side1 => exact bc (Kd.R_reads' HO247.out).2.2); (case side2 => exact (Kd.R_reads' HO247.out).2.1); rintro e w' ⟨rfl, ⟨nd, rfl⟩⟩; refine ⟨_, rfl, ?_⟩) | ((with_reducible refine gc 80 rfl ?_); refine gl (some 19) Try.func80 #[.slice A0 l0.length c0, .func (.func 89) #[] #[]] ?_; (with_reducible refine (L_each_int_CheckProfile_1.calls k _ _ l0  t249 t250 _ ?side1 ?side2 A6.out).mono ?_); (case side1 => repeat (first | exact (Kd.C_below HR0.out bz) | (with_reducible refine Kd.C_alloc ?_ _) | (with_reducible refine Kd.C_drewN ?_ _) | (with_reducible refine Kd.C_drew ?_))); (case side2 => exact HC0.out); rintro e w' ⟨rfl, ⟨nd, rfl⟩⟩; refine ⟨_, rfl, ?_⟩))
  go_ret2
  exact ez
 ·rw [if_neg c5] at H; have c5b0 := beq_eq_false_iff_ne.mpr c5; have c5b1 := bne_iff_ne.mpr c5; simp only [Option.some.injEq, Prod.mk.injEq] at H; obtain ⟨rfl, rfl⟩ := H; go_enter Try.func42, Try.ntmps42
  go_wp2_with (first | ((with_reducible refine gc 69 rfl ?_); refine goesL_ (some 8) rfl rfl Try.func69 (by kernel_rfl) rfl #[.bool (decide ((l0.length : Int) > 0)), .int .i64 10] rfl (by (try simp only [List.map_toArray, List.map_cons, List.map_nil]); first | done | rfl | (simp only [List.length_drop, List.length_take]; rfl) | (simp; first | done | exact ⟨rfl, rfl⟩)) ?_; (with_reducible refine (L_unless.calls (decide ((l0.length : Int) > 0)) 10 t243 _ A2.out).mono ?_); rintro e w' ⟨rfl, ⟨nd, rfl⟩⟩; refine ⟨_, rfl, ?_⟩) | ((with_reducible refine gc 69 rfl ?_); refine gl (some 12) Try.func69 #[.bool (decide ((l0.length : Int) ≤ 24)), .int .i64 8] ?_; (with_reducible refine (L_unless.calls (decide ((l0.length : Int) ≤ 24)) 8 t244 _ A3.out).mono ?_); rintro e w' ⟨rfl, ⟨nd, rfl⟩⟩; refine ⟨_, rfl, ?_⟩) | ((with_reducible refine ga 13 rfl ?_); refine Kd.R_lit (Kd.int .i64) _ 26 ?hg (N := 13) ?hd (xs := ([t243, t244] : List Int)) (inner := [.int .i64 t243, .int .i64 t244]) (ok := fun _ => True) (okp := fun _ => True) ?hr ?hp (fun _ hk => hk) trivial (Below.refl _ _) (Nat.le_refl _) (by simp) ?_; (case hd => rfl); (case hg => rfl); (case hr => first | (go_simp; done) | (go_simp; rfl)); (case hp => exact (Reps.one (ki t243) (Reps.one (ki t244) (Reps.none _ _)))); intro v246 w10 ho11 hb hg_ hnew_; clear hg_ hnew_; (first | rw [← Ny245.out] at ho11 | (simp only [Int.reduceToNat] at ho11; rw [← Ny245.out] at ho11)); have HO247 := m0 (Kd.R_lower ho11 (below_size bz)); replace HB := sb HB hb; clear hb ho11; obtain ⟨Ao12, co12, eo12⟩ := Kd.R_slice HO247.out; subst eo12) | ((with_reducible refine gc 68 rfl ?_); refine gl (some 14) Try.func68 #[.slice Ao12 y245.length co12] ?_; (with_reducible refine (L_first.calls k _ _ y245 t248 _ ?side1 ?side2 A4.out).mono ?_); (case side1 => exact bc (Kd.R_reads' HO247.out).2.2); (case side2 => exact (Kd.R_reads' HO247.out).2.1); rintro e w' ⟨rfl, ⟨nd, rfl⟩⟩; refine ⟨_, rfl, ?_⟩))
  go_ret2
  exact ez
end
section
def L_open.f (k : Nat) (l0 : List Int) : Option (List Int × Int) := (L_CheckProfile.f k l0).bind fun bt251 => (some (l0, bt251.2))
theorem L_open.mono : ∀ a0 k, LeO (L_open.f k a0) (L_open.f (k + 1) a0) := by
 intro a0 k; unfold L_open.f
 repeat' with_reducible first
  | exact L_CheckProfile.mono ..
  | exact LeO.refl ..
  | exact LeO.none ..
  | refine LeO.ite ?_ ?_
  | refine LeO.bind ?_ (fun _ => ?_)
theorem L_open.calls (k : Nat) (P0_ : Nat → Prop) (A0 : Option Addr) (c0 : Nat) (l0 : List Int) (r1 : List Int) (r2 : Int) (w : World) (hs0 : Kd.V (Kd.int .i64) 3 w w.heap.size (fun k_ => P0_ k_) (.slice A0 l0.length c0) l0) (H : L_open.f k l0 = some (r1, r2)) :
  Calls Try.prog 84 #[.slice A0 l0.length c0] w fun e w' => ∃ v0_ : Value, e = .returned (.tuple #[v0_, .int .i64 r2]) ∧ Kd.V (Kd.int .i64) 3 w' w.heap.size (fun k_ => (P0_ k_ ∨ w.heap.size ≤ k_)) v0_ r1 ∧ Below w.heap.size w w' := by
 have HO0 := m0 (show Kd.V (Kd.int .i64) 3 w w.heap.size (fun k_ => (P0_ k_ ∨ w.heap.size ≤ k_)) (.slice A0 l0.length c0) l0 from Kd.V_mono hs0 (fun k_ hk => .inl hk)); have HB := m0 (Below.refl w.heap.size w); unfold L_open.f at H; replace H := oa H; obtain ⟨⟨t251, t252⟩, A2, H⟩ := H; (try dsimp only at H); simp only [Option.some.injEq, Prod.mk.injEq] at H; obtain ⟨rfl, rfl⟩ := H; go_enter Try.func84, Try.ntmps84
 go_wp2_with (first | ((with_reducible refine gc 42 rfl ?_); refine gl (some 8) Try.func42 #[.slice A0 l0.length c0] ?_; (with_reducible refine (L_CheckProfile.calls k _ _ l0 t251 t252 _ ?side1 ?side2 A2.out).mono ?_); (case side1 => exact bc (Kd.V_reads' HO0.out).2.2); (case side2 => exact (Kd.V_reads' HO0.out).2.1); rintro e w3 ⟨rfl, hb⟩; refine ⟨_, rfl, ?_⟩; replace HO0 := vb HO0 hb; replace HB := sb HB hb; (try clear hb)))
 go_ret2
 exact ⟨_, by first | rfl | (simp [errW_none, errW_some] <;> rfl) | (simp [*, errW_none, errW_some] <;> rfl), by (with_reducible repeat (first | apply Kd.V_alloc | apply Kd.V_drewN | apply Kd.V_drew)); exact HO0.out, by repeat (first | (with_reducible first | exact HB.out | apply below_alloc | apply pw_below_drewN | apply below_drew1) | exact HB.out)⟩
end
section
def L_openDivision.f (k : Nat) (l0 : List Int) (a1 : Int) : Option (List Int × Int) := (L_open.f k l0).bind fun bt253 => ((L_within.f a1 0 1000000).bind fun t257 => ((L_unless.f t257 2).bind fun t258 => ((L_first.f k (([bt253.2, t258] : List Int))).bind fun t262 => (some (bt253.1, t262)))))
theorem L_openDivision.mono : ∀ a0 a1 k, LeO (L_openDivision.f k a0 a1) (L_openDivision.f (k + 1) a0 a1) := by
 intro a0 a1 k; unfold L_openDivision.f
 repeat' with_reducible first
  | exact L_first.mono ..
  | exact L_open.mono ..
  | exact LeO.refl ..
  | exact LeO.none ..
  | refine LeO.ite ?_ ?_
  | refine LeO.bind ?_ (fun _ => ?_)
theorem L_openDivision.calls (k : Nat) (P0_ : Nat → Prop) (A0 : Option Addr) (c0 : Nat) (l0 : List Int) (a1 : Int) (r1 : List Int) (r2 : Int) (w : World) (hs0 : Kd.V (Kd.int .i64) 3 w w.heap.size (fun k_ => P0_ k_) (.slice A0 l0.length c0) l0) (H : L_openDivision.f k l0 a1 = some (r1, r2)) :
  Calls Try.prog 86 #[.slice A0 l0.length c0, .int .i64 a1] w fun e w' => ∃ v0_ : Value, e = .returned (.tuple #[v0_, .int .i64 r2]) ∧ Kd.V (Kd.int .i64) 3 w' w.heap.size (fun k_ => (P0_ k_ ∨ w.heap.size ≤ k_)) v0_ r1 ∧ Below w.heap.size w w' := by
 have HO0 := m0 (show Kd.V (Kd.int .i64) 3 w w.heap.size (fun k_ => (P0_ k_ ∨ w.heap.size ≤ k_)) (.slice A0 l0.length c0) l0 from Kd.V_mono hs0 (fun k_ hk => .inl hk)); have HB := m0 (Below.refl w.heap.size w); unfold L_openDivision.f at H; replace H := oa H; obtain ⟨⟨t253, t256⟩, A3, H⟩ := H; (try dsimp only at H); replace H := oa H; obtain ⟨t257, A4, H⟩ := H; (try dsimp only at H); replace H := oa H; obtain ⟨t258, A5, H⟩ := H; (try dsimp only at H); obtain ⟨y259, hy259⟩ : ∃ y_ : List Int, y_ = (([t256, t258] : List Int)) := ⟨_, rfl⟩; replace H : ((L_first.f k y259).bind fun t262 => (some (t253, t262))) = some (r1, r2) := by first | (rw [hy259]; with_reducible exact H) | (have H2_ := (Option.bind_some _ _).symm.trans H; rw [hy259]; with_reducible exact H2_) | (have H2_ := (Option.bind_some _ _).symm.trans H; with_reducible exact H2_) | with_reducible exact H | (rw [hy259]; exact H) | exact H
 have Ny259 := m0 hy259; clear hy259; replace H := oa H; obtain ⟨t262, A6, H⟩ := H; (try dsimp only at H); simp only [Option.some.injEq, Prod.mk.injEq] at H; obtain ⟨rfl, rfl⟩ := H; go_enter Try.func86, Try.ntmps86
 go_wp2_with (first | ((with_reducible refine gc 84 rfl ?_); refine gl (some 10) Try.func84 #[.slice A0 l0.length c0] ?_; (with_reducible refine (L_open.calls k (fun k_ => (P0_ k_ ∨ w.heap.size ≤ k_)) _ _ l0 t253 t256 _ ?side1 A3.out).mono ?_); (case side1 => exact HO0.out); rintro e w7 ⟨v254, rfl, ho0, hb⟩; refine ⟨_, rfl, ?_⟩; replace HO0 := vb HO0 hb; have HO255 := hv w (fun k_ => (P0_ k_ ∨ w.heap.size ≤ k_)) ho0 (fun k_ hk_ => Or.elim hk_ (fun hs_ => hs_) (fs ·)); replace HB := sb HB hb; (try clear hb); (try clear ho0)) | ((with_reducible refine gc 70 rfl ?_); refine gl (some 16) Try.func70 #[.int .i64 a1, .int .i64 0, .int .i64 1000000] ?_; (with_reducible refine (L_within.calls a1 0 1000000 t257 _ A4.out).mono ?_); rintro e w' ⟨rfl, ⟨nd, rfl⟩⟩; refine ⟨_, rfl, ?_⟩) | ((with_reducible refine gc 69 rfl ?_); refine gl (some 17) Try.func69 #[.bool t257, .int .i64 2] ?_; (with_reducible refine (L_unless.calls t257 2 t258 _ A5.out).mono ?_); rintro e w' ⟨rfl, ⟨nd, rfl⟩⟩; refine ⟨_, rfl, ?_⟩) | ((with_reducible refine ga 18 rfl ?_); refine Kd.R_lit (Kd.int .i64) _ 26 ?hg (N := 18) ?hd (xs := ([t256, t258] : List Int)) (inner := [.int .i64 t256, .int .i64 t258]) (ok := fun _ => True) (okp := fun _ => True) ?hr ?hp (fun _ hk => hk) trivial (Below.refl _ _) (Nat.le_refl _) (by simp) ?_; (case hd => rfl); (case hg => rfl); (case hr => first | (go_simp; done) | (go_simp; rfl)); (case hp => exact (Reps.one (ki t256) (Reps.one (ki t258) (Reps.none _ _)))); intro v260 w8 ho9 hb hg_ hnew_; clear hg_ hnew_; (first | rw [← Ny259.out] at ho9 | (simp only [Int.reduceToNat] at ho9; rw [← Ny259.out] at ho9)); replace HO0 := m0 (Kd.V_elder' (by (with_reducible repeat (first | apply Kd.V_alloc | apply Kd.V_drewN | apply Kd.V_drew)); exact HO0.out) (Kd.R_base ho9) hb); replace HO255 := m0 (Kd.V_elder' (by (with_reducible repeat (first | apply Kd.V_alloc | apply Kd.V_drewN | apply Kd.V_drew)); exact HO255.out) (Kd.R_base ho9) hb); have HO261 := m0 (Kd.R_lower (Kd.R_newM (M := fun k_ => (w.heap.size ≤ k_)) ho9 (below_size bz) (fun k_ h_ => h_)) (below_size bz)); replace HB := sb HB hb; clear hb ho9; obtain ⟨Ao10, co10, eo10⟩ := Kd.R_slice HO261.out; subst eo10) | ((with_reducible refine gc 68 rfl ?_); refine gl (some 19) Try.func68 #[.slice Ao10 y259.length co10] ?_; (with_reducible refine (L_first.calls k _ _ y259 t262 _ ?side1 ?side2 A6.out).mono ?_); (case side1 => exact bc (Kd.R_reads' HO261.out).2.2); (case side2 => exact (Kd.R_reads' HO261.out).2.1); rintro e w' ⟨rfl, ⟨nd, rfl⟩⟩; refine ⟨_, rfl, ?_⟩))
 go_ret2
 exact ⟨_, by first | rfl | (simp [errW_none, errW_some] <;> rfl) | (simp [*, errW_none, errW_some] <;> rfl), by (with_reducible repeat (first | apply Kd.V_alloc | apply Kd.V_drewN | apply Kd.V_drew)); exact Kd.V_mono HO255.out (fun _ hk => hk.1), by repeat (first | (with_reducible first | exact HB.out | apply below_alloc | apply pw_below_drewN | apply below_drew1) | exact HB.out)⟩
end
section
theorem slices_Values_int_int.calls_own (A : Option Addr) (n c : Nat) (w : World) :
  Calls Try.prog 83 #[.slice A n c] w fun e w' => ∃ gb, gb = w.heap.size ∧ e = .returned (.func (.func 114) #[] #[.pointer (some ⟨gb, 0, none⟩)]) ∧ w'.heap[gb]? = some (.cells #[.slice A n c] 41 (0, 0)) ∧ Below w.heap.size w w' := by
 go_enter Try.func83, Try.ntmps83
 go_wp2
 go_ret
 exact ⟨_, rfl, rfl, blk_new _ _, below_alloc (Below.refl _ _) _⟩
attribute [local go_sem] Oper.semAt_some
theorem slices_Values_int_int.take_snoc (l : List Int) (x : Int) (h0 : 0 ≤ x) (h1 : x < (l.length : Int)) : l.take (x + 1).toNat = l.take x.toNat ++ [rd l x] := by
 have e : (x + 1).toNat = x.toNat + 1 := by omega
 have h : x.toNat < l.length := by omega
 rw [e, List.take_succ_eq_append_getElem h]
 congr 1
 simp [rd, List.getD_eq_getElem?_getD, List.getElem?_eq_getElem h]
theorem slices_Values_int_int.stops (n : Nat) (hn : 1 ≤ n) (A : Option Addr) (c : Nat) (l : List Int) (B : Nat) (w : World) (hbx : w.heap[B]? = some (.cells #[.slice A l.length c] 41 (0, 0))) (hr : Kd.C (Kd.int .i64) w A l.length l) :
  SeqStopsK Fence.wide n Try.prog 114 #[.pointer (some ⟨B, 0, none⟩)] (fun x_ : Int => (#[(.int .i64 (x_))] : Array Value)) (Below w.heap.size) (fun ys => ys = l) (fun _ => True) l.length w := by
 intro l_ J Jx W hW hJ hJx hY h0; have hcx : W.cell? ⟨B, 0, none⟩ = some (.slice A l.length c) := (blk_cell (blk_below hbx hW) 0).trans rfl; have HL := m0 (show (l.length : Int) ≤ 9223372036854775807 by have := hr.2.1; omega); have HY := m0 hY; have HR := m0 hr; have H0 := m0 h0; have HW := m0 hW; have HJA := m0 hJ; clear hr hbx hY h0 hJ hJx hW; refine callsIn_of_wp Try.func114 rfl trivial ?_ rfl; simp only [Try.ntmps114, List.size_toArray, List.length_cons, List.length_nil, Nat.reduceAdd, Nat.reduceSub, Array.replicate_succ, Array.replicate_zero, List.push_toArray, List.append_toArray, List.nil_append, List.cons_append]
 gi_wp2
 gi_loopw [7] (fun i wr => ∃ x : Int, i = .int .i64 x ∧ Aside0 (0 ≤ x ∧ x ≤ l.length) ∧ Aside0 (J (l.take x.toNat) wr) ∧ Aside0 (Below w.heap.size W wr)) (fun i _ => l.length - (intOf i).toNat)
 case atStart => exact ⟨0, rfl, ⟨by omega, by omega⟩, ⟨H0.out⟩, ⟨Below.refl _ _⟩⟩
 case round =>
  obtain ⟨x, rfl, HX, HJ, HB⟩ := hrel; clear hcx
  by_cases hlt : x < (l.length : Int)
  ·obtain ⟨ad, e, hx0⟩ := Kd.at_int HR.out x HX.out.1 hlt
   cases e
   replace hx0 := itb_ HW.out HB.out hx0; have HLT := m0 hlt; have c1 : decide (x < (l.length : Int)) = true := decide_eq_true hlt; have p1 := eq_true HX.out.1; have q1 := eq_true hlt; clear hlt; obtain ⟨fn, tmps, assign, body, hy, hR⟩ := HY.out (l.take x.toNat) (rd l x) wr HJ.out (by rw [List.length_take]; have := HLT.out; have := HX.out; omega); have HRR := m0 hR; clear hR
   gi_wp2
   refine HRR.out.mono ?_; rintro e W3 (⟨rfl, hJ3, hk3⟩ | ⟨rfl, hJx3⟩)
   ·have HJ3 := m0 hJ3; have HK3 := m0 (show Below w.heap.size W W3 from HB.out.trans hk3); clear hJ3 hk3 hy
    gi_wp2
    go_roundw
    case rel =>
     have h0 := HX.out.1; have h1 := HLT.out; have hL := HL.out; have e1 : wrap64 (x + 1) = x + 1 := by unfold wrap64; omega
     refine ⟨wrap64 (x + 1), rfl, ?_, ?_, HK3⟩
     ·rw [e1]; exact ⟨⟨by omega, by omega⟩⟩
     ·rw [e1, slices_Values_int_int.take_snoc l x h0 h1]; exact HJ3
    case measure =>
     have h0 := HX.out.1; have h1 := HLT.out; have hL := HL.out; have e1 : wrap64 (x + 1) = x + 1 := by unfold wrap64; omega
     simp only [intOf]; rw [e1]; omega
   ·have HJX := m0 hJx3; clear hJx3 hy
    gi_wp2
    refine bodyPost_ret (results_none rfl _ _ _) rfl ?_; exact ⟨⟨_, rfl⟩, .inr ⟨_, trivial, HJX.out⟩⟩
  ·have HN := m0 hlt; have c1 : decide (x < (l.length : Int)) = false := decide_eq_false hlt; clear hlt
   gi_wp2
   go_end0
   have hj := HJ.out; rw [List.take_of_length_le (by have := HN.out; omega)] at hj
   first
    | exact ⟨⟨_, rfl⟩, .inl ⟨_, rfl, hj⟩⟩
    | exact ⟨⟨_, rfl⟩, .inl hj⟩
end
section
theorem slices_Collect_int.calls_own (gf : Nat) (lb : Array Value) (eg : ∀ args w, (callFunc gf args).run Try.prog w = .ok (.enter gf args) w) (l : List Int) (n₀ : Nat) (w : World) (hn : n₀ ≤ w.heap.size) (hN : l.length * 8 ≤ 140737488355328)
  (hseq : SeqStopsK Fence.wide 8 Try.prog gf lb (fun x_ : Int => (#[(.int .i64 (x_))] : Array Value)) (Below n₀) (fun ys => ys = l) (fun _ => True) l.length w) :
  Calls Try.prog 113 #[.func (.func gf) #[] lb] w fun e w' => ∃ v, e = .returned v ∧ Kd.R (Kd.int .i64) 3 w' w.heap.size (fun _ => True) v l ∧ Below w.heap.size w w' := by
 have HC := m0 (slices_AppendSeq_int_int.calls_own gf lb eg l n₀ w hn hN hseq); clear hseq hn hN eg; go_enter Try.func113, Try.ntmps113
 go_wp2_with (first | (go_at_call 126; refine HC.out.mono ?_; rintro e w1 ⟨v, rfl, ho, hb⟩; have HO := m0 ho; have HB := m0 hb; clear ho hb))
 go_ret
 exact ⟨v, rfl, HO.out, HB.out⟩
end
section
/-- Sorted copies of what an iterator hands on. -/
theorem slices_Sorted_int.own (gf : Nat) (lb : Array Value) (eg : ∀ args w, (callFunc gf args).run Try.prog w = .ok (.enter gf args) w) (l r : List Int) (w : World) (hN : l.length * 8 ≤ 140737488355328) (hs : slices_Sort_int_int.f l = some r)
  (hseq : SeqStopsK Fence.wide 8 Try.prog gf lb (fun x_ : Int => (#[(.int .i64 (x_))] : Array Value)) (Below w.heap.size) (fun ys => ys = l) (fun _ => True) l.length w) :
  Calls Try.prog 82 #[.func (.func gf) #[] lb] w fun e w' => ∃ v0_ : Value, e = .returned v0_ ∧ Kd.R (Kd.int .i64) 3 w' w.heap.size (fun _ => True) v0_ r ∧ Below w.heap.size w w' := by
 have HC := m0 (slices_Collect_int.calls_own gf lb eg l w.heap.size w (Nat.le_refl _) hN hseq); have HS := m0 hs; clear hseq hs hN eg; go_enter Try.func82, Try.ntmps82
 go_wp2_with (first | (go_at_call 113; refine HC.out.mono ?_; rintro e w1 ⟨v, rfl, ho, hb⟩; have HO := m0 ho; have HB := m0 hb; clear ho hb) | (go_at_call 106; refine (slices_Sort_int_int.calls (fun _ => True) v l r w _ HB.out HO.out HS.out).mono ?_; rintro e w2 ⟨rfl, ho, hb, hk⟩; have HO2 := m0 ho; have HB2 := m0 hb; clear ho hb hk))
 go_ret
 exact ⟨v, rfl, Kd.R_mono HO2.out (fun _ _ => trivial), HB2.out⟩
def L_sorted_prof.f (l : List Int) : Option (List Int) := if l.length < 17592186044416 then slices_Sort_int_int.f l else none
theorem L_sorted_prof.calls (B : Nat) (A : Option Addr) (c : Nat) (l : List Int) (r : List Int) (w : World) (hbx : w.heap[B]? = some (.cells #[.slice A l.length c] 126 (0, 0))) (hr : Kd.C (Kd.int .i64) w A l.length l) (hc : l.length ≤ c) (h : L_sorted_prof.f l = some r) :
  Calls Try.prog 82 #[.func (.func 127) #[] #[.pointer (some ⟨B, 0, none⟩)]] w fun e w' => ∃ v0_ : Value, e = .returned v0_ ∧ Kd.R (Kd.int .i64) 3 w' w.heap.size (fun _ => True) v0_ r ∧ Below w.heap.size w w' := by
 unfold L_sorted_prof.f at h
 by_cases hl : l.length < 17592186044416
 case neg => rw [if_neg hl] at h; exact absurd h (by simp)
 rw [if_pos hl] at h; exact slices_Sorted_int.own _ _ (enters_of Try.func127 (by kernel_rfl) rfl) l r w (by omega) h (L_profile_int.stops 8 (by decide) A c l B w hbx hr)
def L_sorted_ints.f (l : List Int) : Option (List Int) := if l.length < 17592186044416 then slices_Sort_int_int.f l else none
theorem L_sorted_ints.calls (B : Nat) (A : Option Addr) (c : Nat) (l : List Int) (r : List Int) (w : World) (hbx : w.heap[B]? = some (.cells #[.slice A l.length c] 41 (0, 0))) (hr : Kd.C (Kd.int .i64) w A l.length l) (hc : l.length ≤ c) (h : L_sorted_ints.f l = some r) :
  Calls Try.prog 82 #[.func (.func 114) #[] #[.pointer (some ⟨B, 0, none⟩)]] w fun e w' => ∃ v0_ : Value, e = .returned v0_ ∧ Kd.R (Kd.int .i64) 3 w' w.heap.size (fun _ => True) v0_ r ∧ Below w.heap.size w w' := by
 unfold L_sorted_ints.f at h
 by_cases hl : l.length < 17592186044416
 case neg => rw [if_neg hl] at h; exact absurd h (by simp)
 rw [if_pos hl] at h; exact slices_Sorted_int.own _ _ (enters_of Try.func114 (by kernel_rfl) rfl) l r w (by omega) h (slices_Values_int_int.stops 8 (by decide) A c l B w hbx hr)
end
section
def L_profile_cost.l0 : Nat → List Int → Int → Int → Int → Option (Int)
 | 0, _, _, _, _ => none
 | k + 1, x3, x4, x11, x12 => if x12 < x11 then (if 0 ≤ x12 then (if x12 < (x3.length : Int) then (if (wrap64 (2 * x12)) < (wrap64 ((x3.length : Int) - 1)) then (L_profile_cost.l0 k x3 (wrap64 (x4 - (rd x3 x12))) x11 (wrap64 (x12 + 1))) else (if (wrap64 (2 * x12)) > (wrap64 ((x3.length : Int) - 1)) then (L_profile_cost.l0 k x3 (wrap64 (x4 + (rd x3 x12))) x11 (wrap64 (x12 + 1))) else (L_profile_cost.l0 k x3 x4 x11 (wrap64 (x12 + 1))))) else (none)) else (none)) else (some x4)
def L_profile_cost.f (k : Nat) (l0 : List Int) : Option (Int) := (L_sorted_prof.f l0).bind fun t264 => (L_profile_cost.l0 k t264 0 (t264.length : Int) 0)
theorem L_profile_cost.mono_l : ∀ k, (∀ y0 y1 y2 y3, LeO (L_profile_cost.l0 k y0 y1 y2 y3) (L_profile_cost.l0 (k + 1) y0 y1 y2 y3))
 | 0 => fun _ _ _ _ r h => by simp [L_profile_cost.l0] at h
 | k + 1 => by
  have ih0 := L_profile_cost.mono_l k
  ·intro y0 y1 y2 y3; unfold L_profile_cost.l0
   repeat' with_reducible first
    | exact ih0 ..
    | exact LeO.refl ..
    | exact LeO.none ..
    | refine LeO.ite ?_ ?_
    | refine LeO.bind ?_ (fun _ => ?_)
theorem L_profile_cost.mono : ∀ a0 k, LeO (L_profile_cost.f k a0) (L_profile_cost.f (k + 1) a0) := by
 intro a0 k; have ih0 := L_profile_cost.mono_l k; unfold L_profile_cost.f
 repeat' with_reducible first
  | exact ih0 ..
  | exact LeO.refl ..
  | exact LeO.none ..
  | refine LeO.ite ?_ ?_
  | refine LeO.bind ?_ (fun _ => ?_)
theorem L_profile_cost.calls (k : Nat) (A0 : Option Addr) (c0 : Nat) (l0 : List Int) (r : Int) (w : World) (hr0 : Kd.C (Kd.int .i64) w A0 l0.length l0) (hc0 : l0.length ≤ c0) (H : L_profile_cost.f k l0 = some r) :
  Calls Try.prog 85 #[.slice A0 l0.length c0] w fun e w' => e = .returned (.int .i64 r) ∧ Below w.heap.size w w' := by
 have HR0 := m0 hr0; have HC0 := m0 hc0; clear hr0 hc0; have HB := m0 (Below.refl w.heap.size w); unfold L_profile_cost.f at H; replace H := oa H; obtain ⟨t264, A2, H⟩ := H; (try dsimp only at H); have H' := m0 H; clear H; go_enter Try.func85, Try.ntmps85
 go_wp2_with (first | ((with_reducible refine gc 115 rfl ?_); refine goesL_ (some 8) rfl rfl Try.func115 (by kernel_rfl) rfl #[.slice A0 l0.length c0] rfl (by (try simp only [List.map_toArray, List.map_cons, List.map_nil]); first | done | rfl) ?_; refine (L_profile_int.calls_own _ _ _ _).mono ?_; rintro e w3 ⟨gb263, hg, rfl, hbox, hb⟩; refine ⟨_, rfl, ?_⟩; have BK263 := m0 hbox; have GE263 := gw w hg; replace HB := sb HB hb; clear hb hbox hg) | (go_at_call 82; (with_reducible refine (L_sorted_prof.calls gb263 A0 c0 l0 t264 _ ?side1 ?side2 ?side3 A2.out).mono ?_); (case side1 => exact (bk BK263.out)); (case side2 => exact cb HR0 HB); (case side3 => exact HC0.out); rintro e w4 ⟨v265, rfl, ho0, hb⟩; have HO266 := m0 (Kd.R_lower ho0 (below_size bz)); replace BK263 := bb BK263 hb; replace HB := sb HB hb; (try clear hb); (try clear ho0); obtain ⟨Ao5, co5, eo5⟩ := Kd.R_slice HO266.out; subst eo5))
 go_loopg [4, 12] k (fun kq v4 v12 w' => ∃ (x4_1 : Int) (x12_1 : Int), v4 = .int .i64 x4_1 ∧ v12 = .int .i64 x12_1 ∧ Aside0 (L_profile_cost.l0 kq t264 x4_1 (t264.length : Int) x12_1 = some r) ∧ Aside0 (kq ≤ k) ∧ Aside0 (Kd.R (Kd.int .i64) 3 w' w.heap.size (fun _ => True) (.slice Ao5 t264.length co5) t264) ∧ Aside0 (w'.heap[gb263]? = some (.cells #[(.slice A0 l0.length c0)] 126 (0, 0))) ∧ Aside0 (Below w.heap.size w w'))
 case atStart => exact ⟨(0), (0), rz, rz, H', ⟨Nat.le_refl _⟩, ⟨br HO266.out⟩, ⟨bk BK263.out⟩, ⟨bz⟩⟩
 case round =>
  clear H'; obtain ⟨x4_1, x12_1, rfl, rfl, HA, HK1, HO_3, BK263, HB⟩ := hrel
  cases gk with
  | zero => exact absurd HA.out (by simp [L_profile_cost.l0])
  | succ k1 =>
   have H := HA.out; clear HA; simp only [L_profile_cost.l0] at H
   by_cases c6 : x12_1 < (t264.length : Int)
   ·rw [if_pos c6] at H; have c6b0 := decide_eq_true c6; clear c6
    by_cases c7 : 0 ≤ x12_1
    ·rw [if_pos c7] at H; have c7b0 := decide_eq_true c7; clear c7
     by_cases c8 : x12_1 < (t264.length : Int)
     ·rw [if_pos c8] at H; have c8b0 := decide_eq_true c8; clear c8
      by_cases c9 : (wrap64 (2 * x12_1)) < (wrap64 ((t264.length : Int) - 1))
      ·rw [if_pos c9] at H; have c9b0 := decide_eq_true c9; clear c9; have H' := m0 H; clear H; have p267 : 0 ≤ (x12_1 : Int) := od; have q267 : x12_1 < (t264.length : Int) := od; obtain ⟨ad267, e267, hx267_0⟩ := Kd.at_int (Kd.R_reads' HO_3.out).2.2 x12_1 p267 q267
       cases e267
       replace p267 := eq_true p267; replace q267 := eq_true q267
       go_wp2
       go_roundg k1
       case measure => have := HK1.out; omega
       case rel => exact ⟨(wrap64 (x4_1 - (rd t264 x12_1))), (wrap64 (x12_1 + 1)), rz, rz, H', ⟨by have := HK1.out; omega⟩, ⟨br HO_3.out⟩, ⟨bk BK263.out⟩, ⟨bz⟩⟩
      ·rw [if_neg c9] at H; have c9b0 := decide_eq_false c9; clear c9
       by_cases c10 : (wrap64 (2 * x12_1)) > (wrap64 ((t264.length : Int) - 1))
       ·rw [if_pos c10] at H; have c10b0 := decide_eq_true c10; clear c10; have H' := m0 H; clear H; have p267 : 0 ≤ (x12_1 : Int) := od; have q267 : x12_1 < (t264.length : Int) := od; obtain ⟨ad267, e267, hx267_0⟩ := Kd.at_int (Kd.R_reads' HO_3.out).2.2 x12_1 p267 q267
        cases e267
        replace p267 := eq_true p267; replace q267 := eq_true q267
        go_wp2
        go_roundg k1
        case measure => have := HK1.out; omega
        case rel => exact ⟨(wrap64 (x4_1 + (rd t264 x12_1))), (wrap64 (x12_1 + 1)), rz, rz, H', ⟨by have := HK1.out; omega⟩, ⟨br HO_3.out⟩, ⟨bk BK263.out⟩, ⟨bz⟩⟩
       ·rw [if_neg c10] at H; have c10b0 := decide_eq_false c10; clear c10; have H' := m0 H; clear H; have p267 : 0 ≤ (x12_1 : Int) := od; have q267 : x12_1 < (t264.length : Int) := od; obtain ⟨ad267, e267, hx267_0⟩ := Kd.at_int (Kd.R_reads' HO_3.out).2.2 x12_1 p267 q267
        cases e267
        replace p267 := eq_true p267; replace q267 := eq_true q267
        go_wp2
        go_roundg k1
        case measure => have := HK1.out; omega
        case rel => exact ⟨(x4_1), (wrap64 (x12_1 + 1)), rz, rz, H', ⟨by have := HK1.out; omega⟩, ⟨br HO_3.out⟩, ⟨bk BK263.out⟩, ⟨bz⟩⟩
     ·rw [if_neg c8] at H; exact absurd H (by simp)
    ·rw [if_neg c7] at H; exact absurd H (by simp)
   ·rw [if_neg c6] at H; have c6b0 := decide_eq_false c6; clear c6; obtain rfl := Option.some.inj H
    go_wp2
    go_ret
    exact ez
end
section
def cmp_Or_int.l0 : Nat → Int → List Int → Int → Int → Option (Int)
 | 0, _, _, _, _ => none
 | k + 1, x3, x6, x7, x8 => if x8 < x7 then (if 0 ≤ x8 then (if x8 < (x6.length : Int) then (if (rd x6 x8) = x3 then (cmp_Or_int.l0 k x3 x6 x7 (wrap64 (x8 + 1))) else (some (rd x6 x8))) else (none)) else (none)) else (some x3)
def cmp_Or_int.f (k : Nat) (l0 : List Int) : Option (Int) := cmp_Or_int.l0 k 0 l0 (l0.length : Int) 0
theorem cmp_Or_int.mono_l : ∀ k, (∀ y0 y1 y2 y3, LeO (cmp_Or_int.l0 k y0 y1 y2 y3) (cmp_Or_int.l0 (k + 1) y0 y1 y2 y3))
 | 0 => fun _ _ _ _ r h => by simp [cmp_Or_int.l0] at h
 | k + 1 => by
  have ih0 := cmp_Or_int.mono_l k
  ·intro y0 y1 y2 y3; unfold cmp_Or_int.l0
   repeat' with_reducible first
    | exact ih0 ..
    | exact LeO.refl ..
    | exact LeO.none ..
    | refine LeO.ite ?_ ?_
    | refine LeO.bind ?_ (fun _ => ?_)
theorem cmp_Or_int.mono : ∀ a0 k, LeO (cmp_Or_int.f k a0) (cmp_Or_int.f (k + 1) a0) := by
 intro a0 k; have ih0 := cmp_Or_int.mono_l k; unfold cmp_Or_int.f
 repeat' with_reducible first
  | exact ih0 ..
  | exact LeO.refl ..
  | exact LeO.none ..
  | refine LeO.ite ?_ ?_
  | refine LeO.bind ?_ (fun _ => ?_)
theorem cmp_Or_int.calls (k : Nat) (A0 : Option Addr) (c0 : Nat) (l0 : List Int) (r : Int) (w : World) (hr0 : Kd.C (Kd.int .i64) w A0 l0.length l0) (hc0 : l0.length ≤ c0) (H : cmp_Or_int.f k l0 = some r) :
  Calls Try.prog 128 #[.slice A0 l0.length c0] w fun e w' => e = .returned (.int .i64 r) ∧ Drawn0 w w' := by
 have HR0 := m0 hr0; have HC0 := m0 hc0; clear hr0 hc0; unfold cmp_Or_int.f at H; have H' := m0 H; clear H; go_enter Try.func128, Try.ntmps128
 go_wp2
 go_loopg [8] k (fun kq v8 w' => ∃ (x8_1 : Int), v8 = .int .i64 x8_1 ∧ Aside0 (cmp_Or_int.l0 kq 0 l0 (l0.length : Int) x8_1 = some r) ∧ Aside0 (kq ≤ k) ∧ Drawn0 w w')
 case atStart => exact ⟨(0), rz, H', ⟨Nat.le_refl _⟩, by repeat (first | exact Drawn0.refl _ | apply Drawn0.step)⟩
 case round =>
  clear H'; obtain ⟨x8_1, rfl, HA, HK1, ⟨m1, rfl⟩⟩ := hrel
  cases gk with
  | zero => exact absurd HA.out (by simp [cmp_Or_int.l0])
  | succ k1 =>
   have H := HA.out; clear HA; simp only [cmp_Or_int.l0] at H
   by_cases c2 : x8_1 < (l0.length : Int)
   ·rw [if_pos c2] at H; have c2b0 := decide_eq_true c2; clear c2
    by_cases c3 : 0 ≤ x8_1
    ·rw [if_pos c3] at H; have c3b0 := decide_eq_true c3; clear c3
     by_cases c4 : x8_1 < (l0.length : Int)
     ·rw [if_pos c4] at H; have c4b0 := decide_eq_true c4; clear c4
      by_cases c5 : (rd l0 x8_1) = 0
      ·rw [if_pos c5] at H; have c5b0 := beq_iff_eq.mpr c5; have c5b1 := bne_eq_false_iff_eq.mpr c5; clear c5; have H' := m0 H; clear H; have p268 : 0 ≤ (x8_1 : Int) := od; have q268 : x8_1 < (l0.length : Int) := od; obtain ⟨ad268, e268, hx268_0⟩ := Kd.at_int HR0.out x8_1 p268 q268
       cases e268
       replace p268 := eq_true p268; replace q268 := eq_true q268
       go_wp2
       go_roundg k1
       case measure => have := HK1.out; omega
       case rel => exact ⟨(wrap64 (x8_1 + 1)), rz, H', ⟨by have := HK1.out; omega⟩, by repeat (first | exact Drawn0.refl _ | apply Drawn0.step)⟩
      ·rw [if_neg c5] at H; have c5b0 := beq_eq_false_iff_ne.mpr c5; have c5b1 := bne_iff_ne.mpr c5; obtain rfl := Option.some.inj H; have p268 : 0 ≤ (x8_1 : Int) := od; have q268 : x8_1 < (l0.length : Int) := od; obtain ⟨ad268, e268, hx268_0⟩ := Kd.at_int HR0.out x8_1 p268 q268
       cases e268
       replace p268 := eq_true p268; replace q268 := eq_true q268
       go_wp2
       go_ret
       exact ⟨rz, by repeat (first | exact Drawn0.refl _ | apply Drawn0.step)⟩
     ·rw [if_neg c4] at H; exact absurd H (by simp)
    ·rw [if_neg c3] at H; exact absurd H (by simp)
   ·rw [if_neg c2] at H; have c2b0 := decide_eq_false c2; clear c2; obtain rfl := Option.some.inj H
    go_wp2
    go_ret
    exact ⟨rz, by repeat (first | exact Drawn0.refl _ | apply Drawn0.step)⟩
end
section
def slices_Compare_int_int.l0 : Nat → List Int → List Int → List Int → Int → Int → Option (Int)
 | 0, _, _, _, _, _ => none
 | k + 1, x0, x1, x9, x10, x11 => if x11 < x10 then (if 0 ≤ x11 then (if x11 < (x9.length : Int) then (if x11 ≥ (x1.length : Int) then (some 1) else (if x11 < (x1.length : Int) then ((cmp_Compare_int.f (rd x9 x11) (rd x1 x11)).bind fun t271 => (if t271 = 0 then (slices_Compare_int_int.l0 k x0 x1 x9 x10 (wrap64 (x11 + 1))) else (some t271))) else (none))) else (none)) else (none)) else (if (x0.length : Int) < (x1.length : Int) then (some (-1)) else (some 0))
def slices_Compare_int_int.f (k : Nat) (l0 : List Int) (l1 : List Int) : Option (Int) := slices_Compare_int_int.l0 k l0 l1 l0 (l0.length : Int) 0
theorem slices_Compare_int_int.mono_l : ∀ k, (∀ y0 y1 y2 y3 y4, LeO (slices_Compare_int_int.l0 k y0 y1 y2 y3 y4) (slices_Compare_int_int.l0 (k + 1) y0 y1 y2 y3 y4))
 | 0 => fun _ _ _ _ _ r h => by simp [slices_Compare_int_int.l0] at h
 | k + 1 => by
  have ih0 := slices_Compare_int_int.mono_l k
  ·intro y0 y1 y2 y3 y4; unfold slices_Compare_int_int.l0
   repeat' with_reducible first
    | exact ih0 ..
    | exact LeO.refl ..
    | exact LeO.none ..
    | refine LeO.ite ?_ ?_
    | refine LeO.bind ?_ (fun _ => ?_)
theorem slices_Compare_int_int.mono : ∀ a0 a1 k, LeO (slices_Compare_int_int.f k a0 a1) (slices_Compare_int_int.f (k + 1) a0 a1) := by
 intro a0 a1 k; have ih0 := slices_Compare_int_int.mono_l k; unfold slices_Compare_int_int.f
 repeat' with_reducible first
  | exact ih0 ..
  | exact LeO.refl ..
  | exact LeO.none ..
  | refine LeO.ite ?_ ?_
  | refine LeO.bind ?_ (fun _ => ?_)
theorem slices_Compare_int_int.calls (k : Nat) (A0 : Option Addr) (c0 : Nat) (l0 : List Int) (A1 : Option Addr) (c1 : Nat) (l1 : List Int) (r : Int) (w : World) (hr0 : Kd.C (Kd.int .i64) w A0 l0.length l0) (hc0 : l0.length ≤ c0) (hr1 : Kd.C (Kd.int .i64) w A1 l1.length l1) (hc1 : l1.length ≤ c1) (H : slices_Compare_int_int.f k l0 l1 = some r) :
  Calls Try.prog 129 #[.slice A0 l0.length c0, .slice A1 l1.length c1] w fun e w' => e = .returned (.int .i64 r) ∧ Drawn0 w w' := by
 have HR0 := m0 hr0; have HC0 := m0 hc0; clear hr0 hc0; have HR1 := m0 hr1; have HC1 := m0 hc1; clear hr1 hc1; unfold slices_Compare_int_int.f at H; have H' := m0 H; clear H; go_enter Try.func129, Try.ntmps129
 go_wp2
 go_loopg [11] k (fun kq v11 w' => ∃ (x11_1 : Int), v11 = .int .i64 x11_1 ∧ Aside0 (slices_Compare_int_int.l0 kq l0 l1 l0 (l0.length : Int) x11_1 = some r) ∧ Aside0 (kq ≤ k) ∧ Drawn0 w w')
 case atStart => exact ⟨(0), rz, H', ⟨Nat.le_refl _⟩, by repeat (first | exact Drawn0.refl _ | apply Drawn0.step)⟩
 case round =>
  clear H'; obtain ⟨x11_1, rfl, HA, HK1, ⟨m1, rfl⟩⟩ := hrel
  cases gk with
  | zero => exact absurd HA.out (by simp [slices_Compare_int_int.l0])
  | succ k1 =>
   have H := HA.out; clear HA; simp only [slices_Compare_int_int.l0] at H
   by_cases c3 : x11_1 < (l0.length : Int)
   ·rw [if_pos c3] at H; have c3b0 := decide_eq_true c3; clear c3
    by_cases c4 : 0 ≤ x11_1
    ·rw [if_pos c4] at H; have c4b0 := decide_eq_true c4; clear c4
     by_cases c5 : x11_1 < (l0.length : Int)
     ·rw [if_pos c5] at H; have c5b0 := decide_eq_true c5; clear c5
      by_cases c6 : x11_1 ≥ (l1.length : Int)
      ·rw [if_pos c6] at H; have c6b0 := decide_eq_true c6; clear c6; obtain rfl := Option.some.inj H; have p269 : 0 ≤ (x11_1 : Int) := od; have q269 : x11_1 < (l0.length : Int) := od; obtain ⟨ad269, e269, hx269_0⟩ := Kd.at_int HR0.out x11_1 p269 q269
       cases e269
       replace p269 := eq_true p269; replace q269 := eq_true q269
       go_wp2
       go_ret
       exact ⟨rz, by repeat (first | exact Drawn0.refl _ | apply Drawn0.step)⟩
      ·rw [if_neg c6] at H; have c6b0 := decide_eq_false c6; clear c6
       by_cases c7 : x11_1 < (l1.length : Int)
       ·rw [if_pos c7] at H; have c7b0 := decide_eq_true c7; clear c7; replace H := oa H; obtain ⟨t271, A8, H⟩ := H; (try dsimp only at H)
        by_cases c9 : t271 = 0
        ·rw [if_pos c9] at H; have c9b0 := beq_iff_eq.mpr c9; have c9b1 := bne_eq_false_iff_eq.mpr c9; clear c9; have H' := m0 H; clear H; have p269 : 0 ≤ (x11_1 : Int) := od; have q269 : x11_1 < (l0.length : Int) := od; obtain ⟨ad269, e269, hx269_0⟩ := Kd.at_int HR0.out x11_1 p269 q269
         cases e269
         replace p269 := eq_true p269; replace q269 := eq_true q269; have p270 : 0 ≤ (x11_1 : Int) := od; have q270 : x11_1 < (l1.length : Int) := od; obtain ⟨ad270, e270, hx270_0⟩ := Kd.at_int HR1.out x11_1 p270 q270
         cases e270
         replace p270 := eq_true p270; replace q270 := eq_true q270
         go_wp2_with (first | ((with_reducible refine gc 79 rfl ?_); refine gl (some 26) Try.func79 #[.int .i64 (rd l0 x11_1), .int .i64 (rd l1 x11_1)] ?_; (with_reducible refine (cmp_Compare_int.calls (rd l0 x11_1) (rd l1 x11_1) t271 _ A8.out).mono ?_); rintro e w' ⟨rfl, ⟨nd, rfl⟩⟩; refine ⟨_, rfl, ?_⟩))
         go_roundg k1
         case measure => have := HK1.out; omega
         case rel => exact ⟨(wrap64 (x11_1 + 1)), rz, H', ⟨by have := HK1.out; omega⟩, by repeat (first | exact Drawn0.refl _ | apply Drawn0.step)⟩
        ·rw [if_neg c9] at H; have c9b0 := beq_eq_false_iff_ne.mpr c9; have c9b1 := bne_iff_ne.mpr c9; obtain rfl := Option.some.inj H; have p269 : 0 ≤ (x11_1 : Int) := od; have q269 : x11_1 < (l0.length : Int) := od; obtain ⟨ad269, e269, hx269_0⟩ := Kd.at_int HR0.out x11_1 p269 q269
         cases e269
         replace p269 := eq_true p269; replace q269 := eq_true q269; have p270 : 0 ≤ (x11_1 : Int) := od; have q270 : x11_1 < (l1.length : Int) := od; obtain ⟨ad270, e270, hx270_0⟩ := Kd.at_int HR1.out x11_1 p270 q270
         cases e270
         replace p270 := eq_true p270; replace q270 := eq_true q270
         go_wp2_with (first | ((with_reducible refine gc 79 rfl ?_); refine gl (some 26) Try.func79 #[.int .i64 (rd l0 x11_1), .int .i64 (rd l1 x11_1)] ?_; (with_reducible refine (cmp_Compare_int.calls (rd l0 x11_1) (rd l1 x11_1) t271 _ A8.out).mono ?_); rintro e w' ⟨rfl, ⟨nd, rfl⟩⟩; refine ⟨_, rfl, ?_⟩))
         go_ret
         exact ⟨rz, by repeat (first | exact Drawn0.refl _ | apply Drawn0.step)⟩
       ·rw [if_neg c7] at H; exact absurd H (by simp)
     ·rw [if_neg c5] at H; exact absurd H (by simp)
    ·rw [if_neg c4] at H; exact absurd H (by simp)
   ·rw [if_neg c3] at H; have c3b0 := decide_eq_false c3; clear c3
    by_cases c10 : (l0.length : Int) < (l1.length : Int)
    ·rw [if_pos c10] at H; have c10b0 := decide_eq_true c10; have c10b1 : decide (l0.length < l1.length) = true := decide_eq_true (Int.ofNat_lt.mp c10); clear c10; obtain rfl := Option.some.inj H
     go_wp2
     go_ret
     exact ⟨rz, by repeat (first | exact Drawn0.refl _ | apply Drawn0.step)⟩
    ·rw [if_neg c10] at H; have c10b0 := decide_eq_false c10; have c10b1 : decide (l0.length < l1.length) = false := decide_eq_false (fun h => c10 (Int.ofNat_lt.mpr h)); clear c10; obtain rfl := Option.some.inj H
     go_wp2
     go_ret
     exact ⟨rz, by repeat (first | exact Drawn0.refl _ | apply Drawn0.step)⟩
end
section
def L_division_compare.f (k : Nat) (a0_0 : Int) (l0_1 : List Int) (a1_0 : Int) (l1_1 : List Int) : Option (Int) := (cmp_Compare_int.f a0_0 a1_0).bind fun t274 => ((cmp_Compare_int.f (l0_1.length : Int) (l1_1.length : Int)).bind fun t275 => ((slices_Compare_int_int.f k l0_1 l1_1).bind fun t276 => ((cmp_Or_int.f k (([t274, t275, t276] : List Int))).bind fun t280 => (some t280))))
theorem L_division_compare.mono : ∀ a0 a1 a2 a3 k, LeO (L_division_compare.f k a0 a1 a2 a3) (L_division_compare.f (k + 1) a0 a1 a2 a3) := by
 intro a0 a1 a2 a3 k; unfold L_division_compare.f
 repeat' with_reducible first
  | exact cmp_Or_int.mono ..
  | exact slices_Compare_int_int.mono ..
  | exact LeO.refl ..
  | exact LeO.none ..
  | refine LeO.ite ?_ ?_
  | refine LeO.bind ?_ (fun _ => ?_)
def L_division_compare.T1 : Bool × List (List Nat × List Nat) := (true, [([], []), ([0], [0]), ([], []), ([2], [2]), ([1, 3], [1, 3]), ([], []), ([5], [5]), ([6], [6]), ([], []), ([8], [8]), ([9], [9]), ([7, 10, 4], [7, 10]), ([], []), ([12], [12]), ([], []), ([14], [14]), ([13, 15, 11], [13, 15]), ([4, 11, 16], [4, 11, 16]), ([17, 16], [17]), ([18, 18, 0, 1, 2, 3, 4, 5, 6, 7, 8, 9, 10, 11, 12, 13, 14, 15, 16, 17, 18], [18])])
def L_division_compare.B1 : List Nat := [0, 1, 0, 4, 15, 0, 32, 96, 0, 256, 768, 2047, 0, 4096, 0, 16384, 65535, 131071, 262143, 524287]
theorem L_division_compare.tab1 : rtab .any (opsOf Try.f116 1) = L_division_compare.T1 := by kernel_rfl
theorem L_division_compare.bits1 : waitsOk L_division_compare.T1.2 L_division_compare.B1 = true := by kernel_rfl
theorem L_division_compare.calls (k : Nat) (a0_0 : Int) (A0_1 : Option Addr) (c0_1 : Nat) (l0_1 : List Int) (a1_0 : Int) (A1_1 : Option Addr) (c1_1 : Nat) (l1_1 : List Int) (r : Int) (w : World) (hr0_1 : Kd.C (Kd.int .i64) w A0_1 l0_1.length l0_1) (hc0_1 : l0_1.length ≤ c0_1) (hr1_1 : Kd.C (Kd.int .i64) w A1_1 l1_1.length l1_1) (hc1_1 : l1_1.length ≤ c1_1) (H : L_division_compare.f k a0_0 l0_1 a1_0 l1_1 = some r) :
  Calls Try.prog 116 #[.agg #[.int .i64 a0_0, .slice A0_1 l0_1.length c0_1], .agg #[.int .i64 a1_0, .slice A1_1 l1_1.length c1_1]] w fun e w' => e = .returned (.int .i64 r) ∧ Below w.heap.size w w' := by
 have hu132 := Try.underlying132; have HR0_1 := m0 hr0_1; have HC0_1 := m0 hc0_1; clear hr0_1 hc0_1; have HR1_1 := m0 hr1_1; have HC1_1 := m0 hc1_1; clear hr1_1 hc1_1; have HB := m0 (Below.refl w.heap.size w); unfold L_division_compare.f at H; replace H := oa H; obtain ⟨t274, A3, H⟩ := H; (try dsimp only at H); replace H := oa H; obtain ⟨t275, A4, H⟩ := H; (try dsimp only at H); replace H := oa H; obtain ⟨t276, A5, H⟩ := H; (try dsimp only at H); obtain ⟨y277, hy277⟩ : ∃ y_ : List Int, y_ = (([t274, t275, t276] : List Int)) := ⟨_, rfl⟩; replace H : ((cmp_Or_int.f k y277).bind fun t280 => (some t280)) = some r := by first | (rw [hy277]; with_reducible exact H) | (have H2_ := (Option.bind_some _ _).symm.trans H; rw [hy277]; with_reducible exact H2_) | (have H2_ := (Option.bind_some _ _).symm.trans H; with_reducible exact H2_) | with_reducible exact H | (rw [hy277]; exact H) | exact H
 have Ny277 := m0 hy277; clear hy277; replace H := oa H; obtain ⟨t280, A6, H⟩ := H; (try dsimp only at H); obtain rfl := Option.some.inj H; go_enter Try.func116, Try.ntmps116
 try go_wp2_with (first | ((with_reducible refine ga 2 rfl ?_); refine be 2 132 #[.int .i64 a0_0, .slice A0_1 l0_1.length c0_1] ?_; intro gb272 hg w7 hbox hb; have BK272 := m0 hbox; have GE272 := gw w hg; replace HB := sb HB hb; clear hb hbox hg) | ((with_reducible refine ga 3 rfl ?_); refine be 3 132 #[.int .i64 a1_0, .slice A1_1 l1_1.length c1_1] ?_; intro gb273 hg w8 hbox hb; have BK273 := m0 hbox; have GE273 := gw w hg; replace HB := sb HB hb; have NB272_273 := nl BK272 hg; have NB273_272 := ng (nl BK272 hg); replace BK272 := bb BK272 hb; clear hb hbox hg))
 replace BK272 := bd BK272; replace BK273 := bd BK273; replace HB := sd HB; refine start_ (n := 20) (S := fun w' => w'.cell? ⟨gb272, 0, none⟩ = some (.int .i64 a0_0) ∧ w'.cell? ⟨gb272, 1, none⟩ = some (.slice A0_1 l0_1.length c0_1) ∧ w'.cell? ⟨gb273, 0, none⟩ = some (.int .i64 a1_0) ∧ w'.cell? ⟨gb273, 1, none⟩ = some (.slice A1_1 l1_1.length c1_1)) (ds := []) _ (by kernel_rfl) rfl rfl cz (fun hH => ?_); refine with_tabW L_division_compare.tab1 L_division_compare.bits1 (fun HT_ HW_ => ?_); generalize w8.drew = w9 at BK272 BK273 HB hH ⊢; refine pZ 0 (some 5) (bs 20 1) HT_ ?_; refine pZ 2 (some 7) (bs 20 5) HT_ ?_; refine pZ 5 (some 10) (bs 20 37) HT_ ?_; refine pZ 8 (some 13) (bs 20 293) HT_ ?_; refine pZ 12 (some 17) (bs 20 4389) HT_ ?_; refine pZ 14 (some 19) (bs 20 20773) HT_ ?_; refine takeZ 1 (some 6) (bs 20 20775) (tw HT_ HW_) hH ?_; refine takeZ 3 (some 8) (bs 20 20783) (tw HT_ HW_) hH ?_; refine takeZ 6 (some 11) (bs 20 20847) (tw HT_ HW_) hH ?_; refine pZ 7 (some 12) (bs 20 20975) HT_ ?_; refine takeZ 9 (some 14) (bs 20 21487) (tw HT_ HW_) hH ?_; refine pZ 10 (some 15) (bs 20 22511) HT_ ?_; refine takeZ 13 (some 18) (bs 20 30703) (tw HT_ HW_) hH ?_; refine takeZ 15 (some 20) (bs 20 63471) (tw HT_ HW_) hH ?_; refine oneZ 4 (some 9) (bs 20 63487) (o1 HT_) fun K hK => ?_; refine gz Try.func79 #[.int .i64 a0_0, .int .i64 a1_0] ?_
 with_reducible refine (cmp_Compare_int.calls a0_0 a1_0 t274 _ A3.out).mono ?_
 rintro e w' ⟨rfl, ⟨nd, rfl⟩⟩; refine ⟨_, rfl, ?_⟩; refine hK.out _ _ cz (fun hH => ?_); clear hK K; refine nz 9 ?_; refine oneZ 11 (some 16) (bs 20 65535) (o1 HT_) fun K hK => ?_; refine gz Try.func79 #[.int .i64 (l0_1.length : Int), .int .i64 (l1_1.length : Int)] ?_
 with_reducible refine (cmp_Compare_int.calls (l0_1.length : Int) (l1_1.length : Int) t275 _ A4.out).mono ?_
 rintro e w' ⟨rfl, ⟨nd, rfl⟩⟩; refine ⟨_, rfl, ?_⟩; refine hK.out _ _ cz (fun hH => ?_); clear hK K; refine nz 16 ?_; refine oneZ 16 (some 21) (bs 20 131071) (o1 HT_) fun K hK => ?_; refine gz Try.func129 #[.slice A0_1 l0_1.length c0_1, .slice A1_1 l1_1.length c1_1] ?_
 with_reducible refine (slices_Compare_int_int.calls k _ _ l0_1 _ _ l1_1 t276 _ ?side1 ?side2 ?side3 ?side4 A5.out).mono ?_
 (case side1 => repeat (first | exact (Kd.C_below HR0_1.out bz) | (with_reducible refine Kd.C_alloc ?_ _) | (with_reducible refine Kd.C_drewN ?_ _) | (with_reducible refine Kd.C_drew ?_)))
 (case side2 => exact HC0_1.out)
 (case side3 => repeat (first | exact (Kd.C_below HR1_1.out bz) | (with_reducible refine Kd.C_alloc ?_ _) | (with_reducible refine Kd.C_drewN ?_ _) | (with_reducible refine Kd.C_drew ?_)))
 (case side4 => exact HC1_1.out)
 rintro e w' ⟨rfl, ⟨nd, rfl⟩⟩; refine ⟨_, rfl, ?_⟩; refine hK.out _ _ cz (fun hH => ?_); clear hK K; refine nz 21 ?_; refine oneZ 17 (some 22) (bs 20 262143) (o1 HT_) fun K hK => ?_; refine Kd.R_lit_step (Kd.int .i64) _ 3 ?hg (N := 22) ?hd (xs := ([t274, t275, t276] : List Int)) (inner := [.int .i64 t274, .int .i64 t275, .int .i64 t276]) (ok := fun _ => True) (okp := fun _ => True) ?hr ?hp (fun _ hk => hk) trivial (Below.refl _ _) (Nat.le_refl _) (by simp) ?_; (case hd => rfl); (case hg => rfl); (case hr => first | (go_simp; done) | (go_simp; rfl)); (case hp => exact (Reps.one (ki t274) (Reps.one (ki t275) (Reps.one (ki t276) (Reps.none _ _)))))
 intro v278 w10 ho11 hb hg_ hnew_; clear hg_ hnew_
 (first | rw [← Ny277.out] at ho11 | (simp only [Int.reduceToNat] at ho11; rw [← Ny277.out] at ho11))
 have HO279 := m0 (Kd.R_lower ho11 (below_size bz)); replace BK272 := bb BK272 hb; replace BK273 := bb BK273 hb; replace HB := sb HB hb; clear hb ho11; obtain ⟨Ao12, co12, eo12⟩ := Kd.R_slice HO279.out; subst eo12; refine hK.out _ _ cz (fun hH => ?_); clear hK K; refine nz 22 ?_; refine oneZ 18 (some 23) (bs 20 524287) (o1 HT_) fun K hK => ?_; refine gz Try.func128 #[.slice Ao12 y277.length co12] ?_
 with_reducible refine (cmp_Or_int.calls k _ _ y277 t280 _ ?side1 ?side2 A6.out).mono ?_
 (case side1 => exact bc (Kd.R_reads' HO279.out).2.2)
 (case side2 => exact (Kd.R_reads' HO279.out).2.1)
 rintro e w' ⟨rfl, ⟨nd, rfl⟩⟩; refine ⟨_, rfl, ?_⟩; refine hK.out _ _ cz (fun hH => ?_); clear hK K; refine nz 23 ?_; refine pZ 19 (some 4) (bs 20 1048575) HT_ ?_; refine done_ (done_of HT_.out (by kernel_rfl)) ?_
 try go_wp2
 go_ret
 exact ez
end
end Go.Proofs.Yteiafijbgjgiaaa.A
