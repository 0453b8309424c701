/- Walks of the program's functions (printed, made shorter), each with what it computes. -/
import Derived.Test.YteiafijbgjgiaaaE02
namespace Go.Proofs.Yteiafijbgjgiaaa.A
set_option maxHeartbeats 8000000
set_option maxRecDepth 100000
open Go.RowKit Go.Proofs.YteiafijbgjgiaaaW.PrintWords Go.Proofs.YteiafijbgjgiaaaW.PrintLast Go.Proofs.YteiafijbgjgiaaaW.PrintMore
attribute [local go_sem] max2_int min2_int max_two min_two max_three min_three max_four min_four
set_option linter.unusedVariables false
set_option linter.unusedSimpArgs false
section
def Rf_Exposure.l0 : Nat → List (S108) → Int → Int → List Int → Int → Option (Int)
 | 0, _, _, _, _, _ => none
 | k + 1, x0, x1, x5, x6, x7 => if x7 < (x6.length : Int) then (if 0 ≤ x7 then ((Rf_Energy.f k x0 x1 (rd x6 x7)).bind fun t457 => (Rf_Exposure.l0 k x0 x1 (mx x5 t457) x6 (wrap64 (x7 + 1)))) else (none)) else (some x5)
def Rf_Exposure.f (k : Nat) (l0 : List (S108)) (a1 : Int) : Option (Int) := (Rf_Turns.f k l0 a1).bind fun t453 => (Rf_Exposure.l0 k l0 a1 0 t453 0)
theorem Rf_Exposure.mono_l : ∀ k, (∀ y0 y1 y2 y3 y4, LeO (Rf_Exposure.l0 k y0 y1 y2 y3 y4) (Rf_Exposure.l0 (k + 1) y0 y1 y2 y3 y4))
 | 0 => fun _ _ _ _ _ r h => by simp [Rf_Exposure.l0] at h
 | k + 1 => by
  have ih0 := Rf_Exposure.mono_l k
  ·intro y0 y1 y2 y3 y4; unfold Rf_Exposure.l0
   repeat' with_reducible first
    | exact ih0 ..
    | exact Rf_Energy.mono ..
    | exact Rf_Turns.mono ..
    | exact LeO.refl ..
    | exact LeO.none ..
    | refine LeO.ite ?_ ?_
    | refine LeO.bind ?_ (fun _ => ?_)
theorem Rf_Exposure.mono : ∀ a0 a1 k, LeO (Rf_Exposure.f k a0 a1) (Rf_Exposure.f (k + 1) a0 a1) := by
 intro a0 a1 k; have ih0 := Rf_Exposure.mono_l k; unfold Rf_Exposure.f
 repeat' with_reducible first
  | exact ih0 ..
  | exact Rf_Energy.mono ..
  | exact Rf_Turns.mono ..
  | exact LeO.refl ..
  | exact LeO.none ..
  | refine LeO.ite ?_ ?_
  | refine LeO.bind ?_ (fun _ => ?_)
theorem Rf_Exposure.calls (k : Nat) (A0 : Option Addr) (c0 : Nat) (l0 : List (S108)) (a1 : Int) (r : Int) (w : World) (hr0 : Kd.C k108 w A0 l0.length l0) (hc0 : l0.length ≤ c0) (H : Rf_Exposure.f k l0 a1 = some r) :
  Calls Try.prog 18 #[.slice A0 l0.length c0, .int .i64 a1] w fun e w' => e = .returned (.int .i64 r) ∧ Below w.heap.size w w' := by
 have HR0 := m0 hr0; have HC0 := m0 hc0; clear hr0 hc0; have HB := m0 (Below.refl w.heap.size w); unfold Rf_Exposure.f at H; replace H := oa H; obtain ⟨t453, A3, H⟩ := H; (try dsimp only at H); have H' := m0 H; clear H; go_enter Try.func18, Try.ntmps18
 go_wp2_with (first | ((with_reducible refine gc 71 rfl ?_); refine gl (some 10) Try.func71 #[.slice A0 l0.length c0, .int .i64 a1] ?_; (with_reducible refine (Rf_Turns.calls k _ _ l0 a1 t453 _ ?side1 ?side2 A3.out).mono ?_); (case side1 => repeat (first | exact HR0.out | (with_reducible refine Kd.C_alloc ?_ _) | (with_reducible refine Kd.C_drewN ?_ _) | (with_reducible refine Kd.C_drew ?_))); (case side2 => exact HC0.out); rintro e w4 ⟨v454, rfl, ho0, hb⟩; refine ⟨_, rfl, ?_⟩; have HO455 := m0 (Kd.R_lower ho0 (below_size bz)); replace HB := sb HB hb; (try clear hb); (try clear ho0)))
 go_loopg [5, 7] k (fun kq v5 v7 w' => ∃ (x5_1 : Int) (x7_1 : Int), v5 = .int .i64 x5_1 ∧ v7 = .int .i64 x7_1 ∧ Aside0 (Rf_Exposure.l0 kq l0 a1 x5_1 t453 x7_1 = some r) ∧ Aside0 (kq ≤ k) ∧ Aside0 (Kd.R (Kd.int .i64) 3 w' w.heap.size (fun _ => True) v454 t453) ∧ Aside0 (Below w.heap.size w w'))
 case atStart => exact ⟨(0), (0), rz, rz, H', ⟨Nat.le_refl _⟩, ⟨br HO455.out⟩, ⟨bz⟩⟩
 case round =>
  clear H'; obtain ⟨x5_1, x7_1, rfl, rfl, HA, HK1, HO_6, HB⟩ := hrel
  cases gk with
  | zero => exact absurd HA.out (by simp [Rf_Exposure.l0])
  | succ k1 =>
   have H := HA.out; clear HA; simp only [Rf_Exposure.l0] at H
   by_cases c5 : x7_1 < (t453.length : Int)
   ·rw [if_pos c5] at H; have c5b0 := decide_eq_true c5; clear c5
    by_cases c6 : 0 ≤ x7_1
    ·rw [if_pos c6] at H; have c6b0 := decide_eq_true c6; clear c6; replace H := oa H; obtain ⟨t457, A7, H⟩ := H; (try dsimp only at H); obtain ⟨ji8, hji8⟩ : ∃ j_ : Int, (mx x5_1 t457) = j_ := ⟨_, rfl⟩; replace H : (Rf_Exposure.l0 k1 l0 a1 ji8 t453 (wrap64 (x7_1 + 1))) = some r := by first | (rw [hji8] at H; exact H) | (simp only [hji8] at H ⊢; exact H)
     (try rw [hji8] at A7); have hji8_ : (if x5_1 < t457 then t457 else x5_1) = ji8 := hji8; have H' := m0 H; clear H; obtain ⟨Ao9, co9, eo9⟩ := Kd.R_slice HO_6.out; subst eo9; have p456 : 0 ≤ (x7_1 : Int) := od; have q456 : x7_1 < (t453.length : Int) := od; obtain ⟨ad456, e456, hx456_0⟩ := Kd.at_int (Kd.R_reads' HO_6.out).2.2 x7_1 p456 q456
     cases e456
     replace p456 := eq_true p456; replace q456 := eq_true q456
     go_wp2_with (first | ((with_reducible refine gc 21 rfl ?_); refine gl (some 24) Try.func21 #[.slice A0 l0.length c0, .int .i64 a1, .int .i64 (rd t453 x7_1)] ?_; (with_reducible refine (Rf_Energy.calls k1 _ _ l0 a1 (rd t453 x7_1) t457 _ ?side1 ?side2 A7.out).mono ?_); (case side1 => exact cb HR0 HB); (case side2 => exact HC0.out); rintro e w10 ⟨rfl, hb⟩; refine ⟨_, rfl, ?_⟩; replace HO_6 := rb HO_6 hb; replace HB := sb HB hb; (try clear hb)))
     go_roundg k1
     case measure => have := HK1.out; omega
     case rel => exact ⟨(ji8), (wrap64 (x7_1 + 1)), (by first | rfl | (simp; done) | (simp only [← hji8] <;> (first | rfl | simp)) | (simp [*]; done)), rz, H', ⟨by have := HK1.out; omega⟩, ⟨br HO_6.out⟩, ⟨bz⟩⟩
    ·rw [if_neg c6] at H; exact absurd H (by simp)
   ·rw [if_neg c5] at H; have c5b0 := decide_eq_false c5; clear c5; obtain rfl := Option.some.inj H; obtain ⟨Ao11, co11, eo11⟩ := Kd.R_slice HO_6.out; subst eo11
    go_wp2
    go_ret
    exact ez
end
section
def Bs_Floor.f (a0 : Int) (a1 : Int) : Option (Int) := if a1 = 0 then (none) else (if (Int.tmod a0 a1) < 0 then (some (wrap64 ((wrap64 (Int.tdiv a0 a1)) - 1))) else (some (wrap64 (Int.tdiv a0 a1))))
theorem Bs_Floor.calls (a0 : Int) (a1 : Int) (r : Int) (w : World) (H : Bs_Floor.f a0 a1 = some r) :
  Calls Try.prog 72 #[.int .i64 a0, .int .i64 a1] w fun e w' => e = .returned (.int .i64 r) ∧ Drawn0 w w' := by
 unfold Bs_Floor.f at H
 by_cases c3 : a1 = 0
 ·rw [if_pos c3] at H; exact absurd H (by simp)
 ·rw [if_neg c3] at H; have c3b0 := beq_eq_false_iff_ne.mpr c3; have c3b1 := bne_iff_ne.mpr c3
  by_cases c4 : (Int.tmod a0 a1) < 0
  ·rw [if_pos c4] at H; have c4b0 := decide_eq_true c4; clear c4; obtain rfl := Option.some.inj H; go_enter Try.func72, Try.ntmps72
   go_wp2
   go_ret
   exact ⟨rz, by repeat (first | exact Drawn0.refl _ | apply Drawn0.step)⟩
  ·rw [if_neg c4] at H; have c4b0 := decide_eq_false c4; clear c4; obtain rfl := Option.some.inj H; go_enter Try.func72, Try.ntmps72
   go_wp2
   go_ret
   exact ⟨rz, by repeat (first | exact Drawn0.refl _ | apply Drawn0.step)⟩
end
section
def Rf_Unsafe.l0 : Nat → List (S108) → List Int → Int → Int → Int → Option (Int × Bool)
 | 0, _, _, _, _, _ => none
 | k + 1, x0, x6, x7, x459000, x459001 => if x7 < (x6.length : Int) then (if 0 ≤ (wrap64 (x7 - 1)) then (if (wrap64 (x7 - 1)) < (x6.length : Int) then ((Rf_Energy.f k x0 x459000 (rd x6 (wrap64 (x7 - 1)))).bind fun t463 => (if 0 ≤ x7 then ((Rf_Energy.f k x0 x459000 (rd x6 x7)).bind fun t465 => (if t465 ≤ x459001 then (Rf_Unsafe.l0 k x0 x6 (wrap64 (x7 + 1)) x459000 x459001) else (if (wrap64 ((rd x6 x7) - (rd x6 (wrap64 (x7 - 1))))) = 0 then (none) else ((Bs_Floor.f (wrap64 (x459001 - t463)) (wrap64 (Int.tdiv (wrap64 (t465 - t463)) (wrap64 ((rd x6 x7) - (rd x6 (wrap64 (x7 - 1)))))))).bind fun t469 => (some (wrap64 ((wrap64 ((rd x6 (wrap64 (x7 - 1))) + t469)) + 1), true)))))) else (none))) else (none)) else (none)) else (some (0, false))
def Rf_Unsafe.f (k : Nat) (l0 : List (S108)) (a1_0 : Int) (a1_1 : Int) : Option (Int × Bool) := (Rf_Turns.f k l0 a1_0).bind fun t459 => (Rf_Unsafe.l0 k l0 t459 1 a1_0 a1_1)
theorem Rf_Unsafe.mono_l : ∀ k, (∀ y0 y1 y2 y3 y4, LeO (Rf_Unsafe.l0 k y0 y1 y2 y3 y4) (Rf_Unsafe.l0 (k + 1) y0 y1 y2 y3 y4))
 | 0 => fun _ _ _ _ _ r h => by simp [Rf_Unsafe.l0] at h
 | k + 1 => by
  have ih0 := Rf_Unsafe.mono_l k
  ·intro y0 y1 y2 y3 y4; unfold Rf_Unsafe.l0
   repeat' with_reducible first
    | exact ih0 ..
    | exact Rf_Energy.mono ..
    | exact Rf_Turns.mono ..
    | exact LeO.refl ..
    | exact LeO.none ..
    | refine LeO.ite ?_ ?_
    | refine LeO.bind ?_ (fun _ => ?_)
theorem Rf_Unsafe.mono : ∀ a0 a1 a2 k, LeO (Rf_Unsafe.f k a0 a1 a2) (Rf_Unsafe.f (k + 1) a0 a1 a2) := by
 intro a0 a1 a2 k; have ih0 := Rf_Unsafe.mono_l k; unfold Rf_Unsafe.f
 repeat' with_reducible first
  | exact ih0 ..
  | exact Rf_Energy.mono ..
  | exact Rf_Turns.mono ..
  | exact LeO.refl ..
  | exact LeO.none ..
  | refine LeO.ite ?_ ?_
  | refine LeO.bind ?_ (fun _ => ?_)
def Rf_Unsafe.T5 : Bool × List (List Nat × List Nat) := (true, [([], []), ([], []), ([1], [1]), ([], []), ([], []), ([4], [4]), ([3, 5], [3, 5]), ([6], [6]), ([0, 2, 7], [0, 2, 7]), ([], []), ([], []), ([10], [10]), ([], []), ([], []), ([12, 13], [12, 13]), ([14], [14]), ([9, 11, 15, 8], [9, 11, 15]), ([8, 16, 0, 1, 2, 3, 4, 5, 6, 7, 8], [8]), ([16, 17, 0, 1, 2, 3, 4, 5, 6, 7, 8, 9, 10, 11, 12, 13, 14, 15, 16, 17], [16])])
def Rf_Unsafe.B5 : List Nat := [0, 0, 2, 0, 0, 16, 56, 120, 255, 0, 0, 1024, 0, 0, 12288, 28672, 65535, 131071, 262143]
theorem Rf_Unsafe.tab5 : rtab .any (opsOf Try.f20 5) = Rf_Unsafe.T5 := by kernel_rfl
theorem Rf_Unsafe.bits5 : waitsOk Rf_Unsafe.T5.2 Rf_Unsafe.B5 = true := by kernel_rfl
def Rf_Unsafe.T7 : Bool × List (List Nat × List Nat) := (true, [([], []), ([], []), ([0, 1], [0, 1]), ([], []), ([], []), ([3, 4], [3, 4]), ([5], [5]), ([], []), ([], []), ([8], [8]), ([7, 9], [7, 9]), ([10], [10]), ([6, 11], [6, 11]), ([2, 12], [2, 12]), ([13, 0, 1, 2, 3, 4, 5, 6, 7, 8, 9, 10, 11, 12, 13], [13])])
def Rf_Unsafe.B7 : List Nat := [0, 0, 3, 0, 0, 24, 56, 0, 0, 256, 896, 1920, 4088, 8191, 16383]
theorem Rf_Unsafe.tab7 : rtab .any (opsOf Try.f20 7) = Rf_Unsafe.T7 := by kernel_rfl
theorem Rf_Unsafe.bits7 : waitsOk Rf_Unsafe.T7.2 Rf_Unsafe.B7 = true := by kernel_rfl
def Rf_Unsafe.T8 : Bool × List (List Nat × List Nat) := (true, [([], []), ([], []), ([1], [1]), ([0, 2], [0, 2]), ([3], [3]), ([], []), ([5], [5]), ([], []), ([6, 7], [6, 7]), ([], []), ([8, 9], [8, 9]), ([4, 10], [4, 10]), ([11], [11]), ([12, 10, 0, 1, 2, 3, 4, 5, 6, 7, 8, 9, 10, 11, 12], [12]), ([13, 0, 1, 2, 3, 4, 5, 6, 7, 8, 9, 10, 11, 12, 13], [])])
def Rf_Unsafe.B8 : List Nat := [0, 0, 2, 7, 15, 0, 32, 0, 224, 0, 992, 2047, 4095, 8191, 16383]
theorem Rf_Unsafe.tab8 : rtab .any (opsOf Try.f20 8) = Rf_Unsafe.T8 := by kernel_rfl
theorem Rf_Unsafe.bits8 : waitsOk Rf_Unsafe.T8.2 Rf_Unsafe.B8 = true := by kernel_rfl
theorem Rf_Unsafe.calls (k : Nat) (A0 : Option Addr) (c0 : Nat) (l0 : List (S108)) (a1_0 : Int) (a1_1 : Int) (r1 : Int) (r2 : Bool) (w : World) (hr0 : Kd.C k108 w A0 l0.length l0) (hc0 : l0.length ≤ c0) (H : Rf_Unsafe.f k l0 a1_0 a1_1 = some (r1, r2)) :
  Calls Try.prog 20 #[.slice A0 l0.length c0, .agg #[.int .i64 a1_0, .int .i64 a1_1]] w fun e w' => e = .returned (.tuple #[.int .i64 r1, .bool r2]) ∧ Below w.heap.size w w' := by
 have hu24 := Try.underlying24; have HR0 := m0 hr0; have HC0 := m0 hc0; clear hr0 hc0; have HB := m0 (Below.refl w.heap.size w); unfold Rf_Unsafe.f at H; replace H := oa H; obtain ⟨t459, A3, H⟩ := H; (try dsimp only at H); have H' := m0 H; clear H; go_enter Try.func20, Try.ntmps20
 go_wp2_with (first | ((with_reducible refine ga 3 rfl ?_); refine be 3 24 #[.int .i64 a1_0, .int .i64 a1_1] ?_; intro gb458 hg w4 hbox hb; have BK458 := m0 hbox; have GE458 := gw w hg; replace HB := sb HB hb; clear hb hbox hg; obtain ⟨hcz5_0, hcz5_1, hfz5_0, hfz5_1⟩ := b2 BK458) | ((with_reducible refine gc 71 rfl ?_); refine gl (some 14) Try.func71 #[.slice A0 l0.length c0, .int .i64 a1_0] ?_; (with_reducible refine (Rf_Turns.calls k _ _ l0 a1_0 t459 _ ?side1 ?side2 A3.out).mono ?_); (case side1 => exact cb HR0 HB); (case side2 => exact HC0.out); rintro e w6 ⟨v460, rfl, ho0, hb⟩; refine ⟨_, rfl, ?_⟩; have HO461 := m0 (Kd.R_lower ho0 (below_size bz)); replace BK458 := bb BK458 hb; replace HB := sb HB hb; (try clear hb); (try clear ho0)))
 go_loopg [7] k (fun kq v7 w' => ∃ (x7_1 : Int), v7 = .int .i64 x7_1 ∧ Aside0 (Rf_Unsafe.l0 kq l0 t459 x7_1 a1_0 a1_1 = some (r1, r2)) ∧ Aside0 (kq ≤ k) ∧ Aside0 (Kd.R (Kd.int .i64) 3 w' w.heap.size (fun _ => True) v460 t459) ∧ Aside0 (w'.heap[gb458]? = some (.cells #[.int .i64 a1_0, .int .i64 a1_1] 24 (0, 0))) ∧ Aside0 (Below w.heap.size w w'))
 case atStart => exact ⟨(1), rz, H', ⟨Nat.le_refl _⟩, ⟨br HO461.out⟩, ⟨bk BK458.out⟩, ⟨bz⟩⟩
 case round =>
  clear H'
  try clear hcz5_0
  try clear hcz5_1
  try clear hfz5_0
  try clear hfz5_1
  obtain ⟨x7_1, rfl, HA, HK1, HO_6, BK458, HB⟩ := hrel
  cases gk with
  | zero => exact absurd HA.out (by simp [Rf_Unsafe.l0])
  | succ k1 =>
   have H := HA.out; clear HA; simp only [Rf_Unsafe.l0] at H
   by_cases c7 : x7_1 < (t459.length : Int)
   ·rw [if_pos c7] at H; have c7b0 := decide_eq_true c7; clear c7; obtain ⟨ji8, hji8⟩ : ∃ j_ : Int, (wrap64 (x7_1 - 1)) = j_ := ⟨_, rfl⟩; replace H : (if 0 ≤ (ji8) then (if (ji8) < (t459.length : Int) then ((Rf_Energy.f k1 l0 a1_0 (rd t459 (ji8))).bind fun t463 => (if 0 ≤ x7_1 then ((Rf_Energy.f k1 l0 a1_0 (rd t459 x7_1)).bind fun t465 => (if t465 ≤ a1_1 then (Rf_Unsafe.l0 k1 l0 t459 (wrap64 (x7_1 + 1)) a1_0 a1_1) else (if (wrap64 ((rd t459 x7_1) - (rd t459 (ji8)))) = 0 then (none) else ((Bs_Floor.f (wrap64 (a1_1 - t463)) (wrap64 (Int.tdiv (wrap64 (t465 - t463)) (wrap64 ((rd t459 x7_1) - (rd t459 (ji8))))))).bind fun t469 => (some (wrap64 ((wrap64 ((rd t459 (ji8)) + t469)) + 1), true)))))) else (none))) else (none)) else (none)) = some (r1, r2) := by first | (rw [hji8] at H; exact H) | (simp only [hji8] at H ⊢; exact H)
    have hji8w : (IntKind.i64.wrap (x7_1 - 1)) = ji8 := (i64_w _).trans hji8
    by_cases c9 : 0 ≤ (ji8)
    ·rw [if_pos c9] at H; have c9b0 := decide_eq_true c9; clear c9
     by_cases c10 : (ji8) < (t459.length : Int)
     ·rw [if_pos c10] at H; have c10b0 := decide_eq_true c10; clear c10; replace H := oa H; obtain ⟨t463, A11, H⟩ := H; (try dsimp only at H)
      by_cases c12 : 0 ≤ x7_1
      ·rw [if_pos c12] at H; have c12b0 := decide_eq_true c12; clear c12; replace H := oa H; obtain ⟨t465, A13, H⟩ := H; (try dsimp only at H)
       by_cases c14 : t465 ≤ a1_1
       ·rw [if_pos c14] at H; have c14b0 := decide_eq_true c14; clear c14; have H' := m0 H; clear H; obtain ⟨Ao15, co15, eo15⟩ := Kd.R_slice HO_6.out; subst eo15
        try go_wp2
        replace HO_6 := m0 (Kd.R_drew HO_6.out); replace BK458 := bd BK458; replace HB := sd HB; have p462 : 0 ≤ ((ji8) : Int) := od; have q462 : (ji8) < (t459.length : Int) := od; obtain ⟨ad462, e462, hx462_0⟩ := Kd.at_int (Kd.R_reads' HO_6.out).2.2 (ji8) p462 q462
        cases e462
        replace p462 := eq_true p462; replace q462 := eq_true q462; have p464 : 0 ≤ (x7_1 : Int) := od; have q464 : x7_1 < (t459.length : Int) := od; obtain ⟨ad464, e464, hx464_0⟩ := Kd.at_int (Kd.R_reads' HO_6.out).2.2 x7_1 p464 q464; obtain rfl : ad462 = ad464 := (by injection e464); replace p464 := eq_true p464; replace q464 := eq_true q464; refine start_ (n := 19) (S := fun w' => w'.cell? ⟨gb458, 0, none⟩ = some (.int .i64 a1_0) ∧ w'.cell? ⟨gb458, 1, none⟩ = some (.int .i64 a1_1) ∧ w'.cell? (ad462.add ((ji8)).toNat) = some (.int .i64 (rd t459 (ji8))) ∧ w'.cell? (ad462.add (x7_1).toNat) = some (.int .i64 (rd t459 x7_1))) (ds := []) _ (by kernel_rfl) rfl rfl ⟨(blk_cell BK458.out 0).trans rfl, (blk_cell BK458.out 1).trans rfl, hx462_0, hx464_0⟩ (fun hH => ?_); refine with_tabW Rf_Unsafe.tab5 Rf_Unsafe.bits5 (fun HT_ HW_ => ?_); generalize wr.drew = w16 at HO_6 BK458 HB hx462_0 hx464_0 hH ⊢; refine pZ 0 (some 21) (bs 19 1) HT_ ?_; refine pZ 1 (some 22) (bs 19 3) HT_ ?_; refine pZ 3 (some 24) (bs 19 11) HT_ ?_; refine pZ 4 (some 25) (bs 19 27) HT_ ?_; refine pZ 5 (some 26) (bs 19 59) HT_ ?_; refine pZ 6 (some 27) (bs 19 123) HT_ ?_; refine pZ 9 (some 30) (bs 19 635) HT_ ?_; refine pZ 10 (some 31) (bs 19 1659) HT_ ?_; refine pZ 12 (some 33) (bs 19 5755) HT_ ?_; refine pZ 13 (some 34) (bs 19 13947) HT_ ?_; refine pZ 14 (some 35) (bs 19 30331) HT_ ?_; refine takeZ 2 (some 23) (bs 19 30335) (tw HT_ HW_) hH ?_; refine takeZ 7 (some 28) (bs 19 30463) (tw HT_ HW_) hH ?_; refine takeZ 11 (some 32) (bs 19 32511) (tw HT_ HW_) hH ?_; refine takeZ 15 (some 36) (bs 19 65279) (tw HT_ HW_) hH ?_; refine oneZ 8 (some 29) (bs 19 65535) (o1 HT_) fun K hK => ?_; refine goes_ Try.func21 (by kernel_rfl) rfl #[.slice A0 l0.length c0, .int .i64 a1_0, .int .i64 (rd t459 (ji8))] (by rfl) rfl rfl (by (try simp only [List.map_toArray, List.map_cons, List.map_nil]); first | done | (simp only [hji8]; rfl) | rfl | (simp only [List.length_drop, List.length_take]; rfl)) ?_
        with_reducible refine (Rf_Energy.calls k1 _ _ l0 a1_0 (rd t459 (ji8)) t463 _ ?side1 ?side2 A11.out).mono ?_
        (case side1 => exact cb HR0 HB)
        (case side2 => exact HC0.out)
        rintro e w17 ⟨rfl, hb⟩; have HS2_ := (hb.cell (World.block_lt_of_cell? _ _ (hH.2.2.1))).trans (hH.2.2.1); have HS3_ := (hb.cell (World.block_lt_of_cell? _ _ (hH.2.2.2))).trans (hH.2.2.2); refine ⟨_, rfl, ?_⟩; replace HO_6 := rb HO_6 hb; replace BK458 := bb BK458 hb; replace HB := sb HB hb; (try clear hb); refine hK.out _ _ ⟨(blk_cell BK458.out 0).trans rfl, (blk_cell BK458.out 1).trans rfl, HS2_, HS3_⟩ (fun hH => ?_); clear hK K; refine nz 29 ?_; refine oneZ 16 (some 37) (bs 19 131071) (o1 HT_) fun K hK => ?_; refine gz Try.func21 #[.slice A0 l0.length c0, .int .i64 a1_0, .int .i64 (rd t459 x7_1)] ?_
        with_reducible refine (Rf_Energy.calls k1 _ _ l0 a1_0 (rd t459 x7_1) t465 _ ?side1 ?side2 A13.out).mono ?_
        (case side1 => exact cb HR0 HB)
        (case side2 => exact HC0.out)
        rintro e w18 ⟨rfl, hb⟩; have HS2_ := (hb.cell (World.block_lt_of_cell? _ _ (hH.2.2.1))).trans (hH.2.2.1); have HS3_ := (hb.cell (World.block_lt_of_cell? _ _ (hH.2.2.2))).trans (hH.2.2.2); refine ⟨_, rfl, ?_⟩; replace HO_6 := rb HO_6 hb; replace BK458 := bb BK458 hb; replace HB := sb HB hb; (try clear hb); refine hK.out _ _ ⟨(blk_cell BK458.out 0).trans rfl, (blk_cell BK458.out 1).trans rfl, HS2_, HS3_⟩ (fun hH => ?_); clear hK K; refine nz 37 ?_; refine pZ 17 (some 8) (bs 19 262143) HT_ ?_; refine pZ 18 (some 9) (bs 19 524287) HT_ ?_; refine done_ (done_of HT_.out (by kernel_rfl)) ?_; obtain ⟨_, _, _, _⟩ := b2 BK458
        try go_wp2
        go_roundg k1
        case measure => have := HK1.out; omega
        case rel => exact ⟨(wrap64 (x7_1 + 1)), rz, H', ⟨by have := HK1.out; omega⟩, ⟨br HO_6.out⟩, ⟨bk BK458.out⟩, ⟨bz⟩⟩
       ·rw [if_neg c14] at H; have c14b0 := decide_eq_false c14; clear c14
        by_cases c20 : (wrap64 ((rd t459 x7_1) - (rd t459 (ji8)))) = 0
        ·rw [if_pos c20] at H; exact absurd H (by simp)
        ·rw [if_neg c20] at H; have c20b0 := beq_eq_false_iff_ne.mpr c20; have c20b1 := bne_iff_ne.mpr c20; replace H := oa H; obtain ⟨t469, A21, H⟩ := H; (try dsimp only at H); simp only [Option.some.injEq, Prod.mk.injEq] at H; obtain ⟨rfl, rfl⟩ := H; obtain ⟨Ao22, co22, eo22⟩ := Kd.R_slice HO_6.out; subst eo22
         try go_wp2
         replace HO_6 := m0 (Kd.R_drew HO_6.out); replace BK458 := bd BK458; replace HB := sd HB; have p462 : 0 ≤ ((ji8) : Int) := od; have q462 : (ji8) < (t459.length : Int) := od; obtain ⟨ad462, e462, hx462_0⟩ := Kd.at_int (Kd.R_reads' HO_6.out).2.2 (ji8) p462 q462
         cases e462
         replace p462 := eq_true p462; replace q462 := eq_true q462; have p464 : 0 ≤ (x7_1 : Int) := od; have q464 : x7_1 < (t459.length : Int) := od; obtain ⟨ad464, e464, hx464_0⟩ := Kd.at_int (Kd.R_reads' HO_6.out).2.2 x7_1 p464 q464; obtain rfl : ad462 = ad464 := (by injection e464); replace p464 := eq_true p464; replace q464 := eq_true q464; refine start_ (n := 19) (S := fun w' => w'.cell? ⟨gb458, 0, none⟩ = some (.int .i64 a1_0) ∧ w'.cell? ⟨gb458, 1, none⟩ = some (.int .i64 a1_1) ∧ w'.cell? (ad462.add ((ji8)).toNat) = some (.int .i64 (rd t459 (ji8))) ∧ w'.cell? (ad462.add (x7_1).toNat) = some (.int .i64 (rd t459 x7_1))) (ds := []) _ (by kernel_rfl) rfl rfl ⟨(blk_cell BK458.out 0).trans rfl, (blk_cell BK458.out 1).trans rfl, hx462_0, hx464_0⟩ (fun hH => ?_); refine with_tabW Rf_Unsafe.tab5 Rf_Unsafe.bits5 (fun HT_ HW_ => ?_); generalize wr.drew = w23 at HO_6 BK458 HB hx462_0 hx464_0 hH ⊢; refine pZ 0 (some 21) (bs 19 1) HT_ ?_; refine pZ 1 (some 22) (bs 19 3) HT_ ?_; refine pZ 3 (some 24) (bs 19 11) HT_ ?_; refine pZ 4 (some 25) (bs 19 27) HT_ ?_; refine pZ 5 (some 26) (bs 19 59) HT_ ?_; refine pZ 6 (some 27) (bs 19 123) HT_ ?_; refine pZ 9 (some 30) (bs 19 635) HT_ ?_; refine pZ 10 (some 31) (bs 19 1659) HT_ ?_; refine pZ 12 (some 33) (bs 19 5755) HT_ ?_; refine pZ 13 (some 34) (bs 19 13947) HT_ ?_; refine pZ 14 (some 35) (bs 19 30331) HT_ ?_; refine takeZ 2 (some 23) (bs 19 30335) (tw HT_ HW_) hH ?_; refine takeZ 7 (some 28) (bs 19 30463) (tw HT_ HW_) hH ?_; refine takeZ 11 (some 32) (bs 19 32511) (tw HT_ HW_) hH ?_; refine takeZ 15 (some 36) (bs 19 65279) (tw HT_ HW_) hH ?_; refine oneZ 8 (some 29) (bs 19 65535) (o1 HT_) fun K hK => ?_; refine goes_ Try.func21 (by kernel_rfl) rfl #[.slice A0 l0.length c0, .int .i64 a1_0, .int .i64 (rd t459 (ji8))] (by rfl) rfl rfl (by (try simp only [List.map_toArray, List.map_cons, List.map_nil]); first | done | (simp only [hji8]; rfl) | rfl | (simp only [List.length_drop, List.length_take]; rfl)) ?_
         with_reducible refine (Rf_Energy.calls k1 _ _ l0 a1_0 (rd t459 (ji8)) t463 _ ?side1 ?side2 A11.out).mono ?_
         (case side1 => exact cb HR0 HB)
         (case side2 => exact HC0.out)
         rintro e w24 ⟨rfl, hb⟩; have HS2_ := (hb.cell (World.block_lt_of_cell? _ _ (hH.2.2.1))).trans (hH.2.2.1); have HS3_ := (hb.cell (World.block_lt_of_cell? _ _ (hH.2.2.2))).trans (hH.2.2.2); refine ⟨_, rfl, ?_⟩; replace HO_6 := rb HO_6 hb; replace BK458 := bb BK458 hb; replace HB := sb HB hb; (try clear hb); refine hK.out _ _ ⟨(blk_cell BK458.out 0).trans rfl, (blk_cell BK458.out 1).trans rfl, HS2_, HS3_⟩ (fun hH => ?_); clear hK K; refine nz 29 ?_; refine oneZ 16 (some 37) (bs 19 131071) (o1 HT_) fun K hK => ?_; refine gz Try.func21 #[.slice A0 l0.length c0, .int .i64 a1_0, .int .i64 (rd t459 x7_1)] ?_
         with_reducible refine (Rf_Energy.calls k1 _ _ l0 a1_0 (rd t459 x7_1) t465 _ ?side1 ?side2 A13.out).mono ?_
         (case side1 => exact cb HR0 HB)
         (case side2 => exact HC0.out)
         rintro e w25 ⟨rfl, hb⟩; have HS2_ := (hb.cell (World.block_lt_of_cell? _ _ (hH.2.2.1))).trans (hH.2.2.1); have HS3_ := (hb.cell (World.block_lt_of_cell? _ _ (hH.2.2.2))).trans (hH.2.2.2); refine ⟨_, rfl, ?_⟩; replace HO_6 := rb HO_6 hb; replace BK458 := bb BK458 hb; replace HB := sb HB hb; (try clear hb); refine hK.out _ _ ⟨(blk_cell BK458.out 0).trans rfl, (blk_cell BK458.out 1).trans rfl, HS2_, HS3_⟩ (fun hH => ?_); clear hK K; refine nz 37 ?_; refine pZ 17 (some 8) (bs 19 262143) HT_ ?_; refine pZ 18 (some 9) (bs 19 524287) HT_ ?_; refine done_ (done_of HT_.out (by kernel_rfl)) ?_; obtain ⟨_, _, _, _⟩ := b2 BK458
         try go_wp2
         replace HO_6 := m0 (Kd.R_drew HO_6.out); replace BK458 := bd BK458; replace HB := sd HB; have p466 : 0 ≤ (x7_1 : Int) := od; have q466 : x7_1 < (t459.length : Int) := od; obtain ⟨ad466, e466, hx466_0⟩ := Kd.at_int (Kd.R_reads' HO_6.out).2.2 x7_1 p466 q466; obtain rfl : ad462 = ad466 := (by injection e466); replace p466 := eq_true p466; replace q466 := eq_true q466; have p467 : 0 ≤ ((ji8) : Int) := od; have q467 : (ji8) < (t459.length : Int) := od; obtain ⟨ad467, e467, hx467_0⟩ := Kd.at_int (Kd.R_reads' HO_6.out).2.2 (ji8) p467 q467; obtain rfl : ad462 = ad467 := (by injection e467); replace p467 := eq_true p467; replace q467 := eq_true q467; refine start_ (n := 15) (S := fun w' => w'.cell? (ad462.add (x7_1).toNat) = some (.int .i64 (rd t459 x7_1)) ∧ w'.cell? (ad462.add ((ji8)).toNat) = some (.int .i64 (rd t459 (ji8)))) (ds := []) _ (by kernel_rfl) rfl rfl ⟨hx466_0, hx467_0⟩ (fun hH => ?_); refine with_tabW Rf_Unsafe.tab7 Rf_Unsafe.bits7 (fun HT_ HW_ => ?_); generalize w25.drew = w27 at HO_6 BK458 HB hx466_0 hx467_0 hH ⊢; refine pZ 0 (some 42) (bs 15 1) HT_ ?_; refine pZ 1 (some 43) (bs 15 3) HT_ ?_; refine pZ 2 (some 44) (bs 15 7) HT_ ?_; refine pZ 3 (some 45) (bs 15 15) HT_ ?_; refine pZ 4 (some 46) (bs 15 31) HT_ ?_; refine pZ 5 (some 47) (bs 15 63) HT_ ?_; refine pZ 7 (some 49) (bs 15 191) HT_ ?_; refine pZ 8 (some 50) (bs 15 447) HT_ ?_; refine pZ 9 (some 51) (bs 15 959) HT_ ?_; refine pZ 10 (some 52) (bs 15 1983) HT_ ?_; refine takeZ 6 (some 48) (bs 15 2047) (tw HT_ HW_) hH ?_; refine takeZ 11 (some 53) (bs 15 4095) (tw HT_ HW_) hH ?_; refine pZ 12 (some 54) (bs 15 8191) HT_ ?_; refine pZ 13 (some 55) (bs 15 16383) HT_ ?_; refine pZ 14 (some 10) (bs 15 32767) HT_ ?_; refine done_ (done_of HT_.out (by kernel_rfl)) ?_
         try go_wp2
         replace HO_6 := m0 (Kd.R_drew HO_6.out); replace BK458 := bd BK458; replace HB := sd HB; have p468 : 0 ≤ ((ji8) : Int) := od; have q468 : (ji8) < (t459.length : Int) := od; obtain ⟨ad468, e468, hx468_0⟩ := Kd.at_int (Kd.R_reads' HO_6.out).2.2 (ji8) p468 q468; obtain rfl : ad462 = ad468 := (by injection e468); replace p468 := eq_true p468; replace q468 := eq_true q468; refine start_ (n := 15) (S := fun w' => w'.cell? ⟨gb458, 0, none⟩ = some (.int .i64 a1_0) ∧ w'.cell? ⟨gb458, 1, none⟩ = some (.int .i64 a1_1) ∧ w'.cell? (ad462.add ((ji8)).toNat) = some (.int .i64 (rd t459 (ji8)))) (ds := []) _ (by kernel_rfl) rfl rfl ⟨(blk_cell BK458.out 0).trans rfl, (blk_cell BK458.out 1).trans rfl, hx468_0⟩ (fun hH => ?_); refine with_tabW Rf_Unsafe.tab8 Rf_Unsafe.bits8 (fun HT_ HW_ => ?_); generalize w27.drew = w28 at HO_6 BK458 HB hx468_0 hH ⊢; refine pZ 0 (some 56) (bs 15 1) HT_ ?_; refine pZ 1 (some 57) (bs 15 3) HT_ ?_; refine pZ 2 (some 58) (bs 15 7) HT_ ?_; refine pZ 3 (some 59) (bs 15 15) HT_ ?_; refine pZ 5 (some 61) (bs 15 47) HT_ ?_; refine pZ 7 (some 63) (bs 15 175) HT_ ?_; refine pZ 9 (some 65) (bs 15 687) HT_ ?_; refine takeZ 4 (some 60) (bs 15 703) (tw HT_ HW_) hH ?_; refine takeZ 6 (some 62) (bs 15 767) (tw HT_ HW_) hH ?_; refine pZ 8 (some 64) (bs 15 1023) HT_ ?_; refine oneZ 10 (some 66) (bs 15 2047) (o1 HT_) fun K hK => ?_; refine goes_ Try.func72 (by kernel_rfl) rfl #[.int .i64 (wrap64 (a1_1 - t463)), .int .i64 (wrap64 (Int.tdiv (wrap64 (t465 - t463)) (wrap64 ((rd t459 x7_1) - (rd t459 (ji8))))))] (by rfl) rfl rfl (by (try simp only [List.map_toArray, List.map_cons, List.map_nil]); first | done | (simp only [hji8]; rfl) | rfl | (simp only [List.length_drop, List.length_take]; rfl)) ?_
         with_reducible refine (Bs_Floor.calls (wrap64 (a1_1 - t463)) (wrap64 (Int.tdiv (wrap64 (t465 - t463)) (wrap64 ((rd t459 x7_1) - (rd t459 (ji8)))))) t469 _ A21.out).mono ?_
         rintro e w' ⟨rfl, ⟨nd, rfl⟩⟩; refine ⟨_, rfl, ?_⟩; refine hK.out _ _ ⟨(blk_cell BK458.out 0).trans rfl, (blk_cell BK458.out 1).trans rfl, hH.2.2⟩ (fun hH => ?_); clear hK K; refine nz 66 ?_; refine pZ 11 (some 67) (bs 15 4095) HT_ ?_; refine pZ 12 (some 68) (bs 15 8191) HT_ ?_; refine pZ 13 (some 4) (bs 15 16383) HT_ ?_; refine pZ 14 (some 5) (bs 15 32767) HT_ ?_; refine done_ (done_of HT_.out (by kernel_rfl)) ?_
         try go_wp2
         go_ret2
         exact ⟨by first | rfl | (simp [errW_none, errW_some] <;> rfl) | (simp only [← hji8]; first | rfl | (simp [errW_none, errW_some] <;> rfl)) | (simp [*, errW_none, errW_some] <;> rfl), by repeat (first | (with_reducible first | exact HB.out | apply below_alloc | apply pw_below_drewN | apply below_drew1 | refine below_set ?_ GE458.out) | exact HB.out)⟩
      ·rw [if_neg c12] at H; exact absurd H (by simp)
     ·rw [if_neg c10] at H; exact absurd H (by simp)
    ·rw [if_neg c9] at H; exact absurd H (by simp)
   ·rw [if_neg c7] at H; have c7b0 := decide_eq_false c7; clear c7; simp only [Option.some.injEq, Prod.mk.injEq] at H; obtain ⟨rfl, rfl⟩ := H; obtain ⟨Ao29, co29, eo29⟩ := Kd.R_slice HO_6.out; subst eo29
    go_wp2
    go_ret2
    exact ez
end
end Go.Proofs.Yteiafijbgjgiaaa.A
