/- Walks of the program's functions (printed, made shorter), each with what it computes. -/
import Derived.Test.YtibhfahbabgbaaaTX14
namespace Go.Proofs.Ytibhfahbabgbaaa.A
set_option maxHeartbeats 8000000
set_option maxRecDepth 100000
open Go.RowKit Go.Proofs.YtibhfahbabgbaaaW.PrintWords Go.Proofs.YtibhfahbabgbaaaW.PrintLast Go.Proofs.YtibhfahbabgbaaaW.PrintMore
attribute [local go_sem] max2_int min2_int max_two min_two max_three min_three max_four min_four
set_option linter.unusedVariables false
set_option linter.unusedSimpArgs false
section
def Bs_trimmed.l0 : Nat → List Int → Int → Option (List Int)
 | 0, _, _ => none
 | k + 1, x0, x3 => if x3 > 0 then (if 0 ≤ (wrap64 (x3 - 1)) then (if (wrap64 (x3 - 1)) < (x0.length : Int) then (if (rd x0 (wrap64 (x3 - 1))) = 0 then (Bs_trimmed.l0 k x0 (wrap64 (x3 - 1))) else (if 0 ≤ x3 then (if x3 ≤ (x0.length : Int) then (some (x0.take (x3 : Int).toNat)) else (none)) else (none))) else (none)) else (none)) else (if 0 ≤ x3 then (if x3 ≤ (x0.length : Int) then (some (x0.take (x3 : Int).toNat)) else (none)) else (none))
def Bs_trimmed.f (k : Nat) (l0 : List Int) : Option (List Int) := Bs_trimmed.l0 k l0 (l0.length : Int)
theorem Bs_trimmed.mono_l : ∀ k, (∀ y0 y1, LeO (Bs_trimmed.l0 k y0 y1) (Bs_trimmed.l0 (k + 1) y0 y1))
 | 0 => fun _ _ r h => by simp [Bs_trimmed.l0] at h
 | k + 1 => by
  have ih0 := Bs_trimmed.mono_l k
  ·intro y0 y1; unfold Bs_trimmed.l0
   repeat' with_reducible first
    | exact ih0 ..
    | exact LeO.refl ..
    | exact LeO.none ..
    | refine LeO.ite ?_ ?_
    | refine LeO.bind ?_ (fun _ => ?_)
theorem Bs_trimmed.mono : ∀ a0 k, LeO (Bs_trimmed.f k a0) (Bs_trimmed.f (k + 1) a0) := by
 intro a0 k; have ih0 := Bs_trimmed.mono_l k; unfold Bs_trimmed.f
 repeat' with_reducible first
  | exact ih0 ..
  | exact LeO.refl ..
  | exact LeO.none ..
  | refine LeO.ite ?_ ?_
  | refine LeO.bind ?_ (fun _ => ?_)
theorem Bs_trimmed.calls (k : Nat) (P0_ : Nat → Prop) (A0 : Option Addr) (c0 : Nat) (l0 : List Int) (r : List Int) (w : World) (hs0 : Kd.V (Kd.int .i64) 3 w w.heap.size (fun k_ => P0_ k_) (.slice A0 l0.length c0) l0) (H : Bs_trimmed.f k l0 = some r) :
  Calls Try.prog 172 #[.slice A0 l0.length c0] w fun e w' => ∃ v0_ : Value, e = .returned (v0_) ∧ Kd.V (Kd.int .i64) 3 w' w.heap.size (fun k_ => (P0_ k_ ∨ w.heap.size ≤ k_)) v0_ r ∧ Below w.heap.size w w' := by
 have HO0 := m0 (show Kd.V (Kd.int .i64) 3 w w.heap.size (fun k_ => (P0_ k_ ∨ w.heap.size ≤ k_)) (.slice A0 l0.length c0) l0 from Kd.V_mono hs0 (fun k_ hk => .inl hk)); have HB := m0 (Below.refl w.heap.size w); unfold Bs_trimmed.f at H; have H' := m0 H; clear H; go_enter Try.func172, Try.ntmps172
 go_wp2
 go_loopg [3] k (fun kq v3 w' => ∃ (x3_1 : Int), v3 = .int .i64 x3_1 ∧ Aside0 (Bs_trimmed.l0 kq l0 x3_1 = some r) ∧ Aside0 (kq ≤ k) ∧ Aside0 (Kd.V (Kd.int .i64) 3 w' w.heap.size (fun k_ => (P0_ k_ ∨ w.heap.size ≤ k_)) (.slice A0 l0.length c0) l0) ∧ Aside0 (Below w.heap.size w w'))
 case atStart => exact ⟨((l0.length : Int)), rz, H', ⟨Nat.le_refl _⟩, ⟨by (with_reducible repeat (first | apply Kd.V_alloc | apply Kd.V_drewN | apply Kd.V_drew)); exact HO0.out⟩, ⟨bz⟩⟩
 case round =>
  clear H'; obtain ⟨x3_1, rfl, HA, HK1, HO_0, HB⟩ := hrel
  cases gk with
  | zero => exact absurd HA.out (by simp [Bs_trimmed.l0])
  | succ k1 =>
   have H := HA.out; clear HA; simp only [Bs_trimmed.l0] at H
   by_cases c2 : x3_1 > 0
   ·rw [if_pos c2] at H; have c2b0 := decide_eq_true c2; clear c2; obtain ⟨ji3, hji3⟩ : ∃ j_ : Int, (wrap64 (x3_1 - 1)) = j_ := ⟨_, rfl⟩; replace H : (if 0 ≤ (ji3) then (if (ji3) < (l0.length : Int) then (if (rd l0 (ji3)) = 0 then (Bs_trimmed.l0 k1 l0 ji3) else (if 0 ≤ x3_1 then (if x3_1 ≤ (l0.length : Int) then (some (l0.take (x3_1 : Int).toNat)) else (none)) else (none))) else (none)) else (none)) = some r := by first | (rw [hji3] at H; exact H) | (simp only [hji3] at H ⊢; exact H)
    have hji3w : (IntKind.i64.wrap (x3_1 - 1)) = ji3 := (i64_w _).trans hji3
    by_cases c4 : 0 ≤ (ji3)
    ·rw [if_pos c4] at H; have c4b0 := decide_eq_true c4; clear c4
     by_cases c5 : (ji3) < (l0.length : Int)
     ·rw [if_pos c5] at H; have c5b0 := decide_eq_true c5; clear c5
      by_cases c6 : (rd l0 (ji3)) = 0
      ·rw [if_pos c6] at H; have c6b0 := beq_iff_eq.mpr c6; have c6b1 := bne_eq_false_iff_eq.mpr c6; clear c6; have H' := m0 H; clear H; have p399 : 0 ≤ ((ji3) : Int) := od; have q399 : (ji3) < (l0.length : Int) := od; obtain ⟨ad399, e399, hx399_0⟩ := Kd.at_int (Kd.V_reads' HO_0.out).2.2 (ji3) p399 q399
       cases e399
       replace p399 := eq_true p399; replace q399 := eq_true q399
       go_wp2
       go_roundg k1
       case measure => have := HK1.out; omega
       case rel => exact ⟨(ji3), (by first | rfl | (simp; done) | (simp only [← hji3] <;> (first | rfl | simp)) | (simp [*]; done)), H', ⟨by have := HK1.out; omega⟩, ⟨by (with_reducible repeat (first | apply Kd.V_alloc | apply Kd.V_drewN | apply Kd.V_drew)); exact HO_0.out⟩, ⟨bz⟩⟩
      ·rw [if_neg c6] at H; have c6b0 := beq_eq_false_iff_ne.mpr c6; have c6b1 := bne_iff_ne.mpr c6
       by_cases c7 : 0 ≤ x3_1
       ·rw [if_pos c7] at H; have c7b0 := eq_true c7; have c7b1 := decide_eq_true c7; clear c7
        by_cases c8 : x3_1 ≤ (l0.length : Int)
        ·rw [if_pos c8] at H; have c8b0 := eq_true c8; have c8b1 := decide_eq_true c8; clear c8; obtain ⟨y400, hy400⟩ : ∃ y_ : List Int, y_ = (l0.take (x3_1 : Int).toNat) := ⟨_, rfl⟩; replace H : (some y400) = some r := by first | (rw [hy400]; with_reducible exact H) | (have H2_ := (Option.bind_some _ _).symm.trans H; rw [hy400]; with_reducible exact H2_) | (have H2_ := (Option.bind_some _ _).symm.trans H; with_reducible exact H2_) | with_reducible exact H | (rw [hy400]; exact H) | exact H
         have Ny400 := m0 hy400; clear hy400; obtain rfl := Option.some.inj H; have p399 : 0 ≤ ((ji3) : Int) := od; have q399 : (ji3) < (l0.length : Int) := od; obtain ⟨ad399, e399, hx399_0⟩ := Kd.at_int (Kd.V_reads' HO_0.out).2.2 (ji3) p399 q399
         cases e399
         replace p399 := eq_true p399; replace q399 := eq_true q399; have q9 : (x3_1 : Int) ≤ ((l0.length : Int) : Int) := od; obtain ⟨i09, hi09, _, hsz9, _⟩ := info_parts info3; have hroom9 : l0.length ≤ c0 := (Kd.V_reads' HO_0.out).2.1; have hC9 : Kd.F (Kd.int .i64) _ _ (some ad399) l0.length l0 := (Kd.V_at (base := w.heap.size) HO_0.out).2.2; have hcut9 := cut_to (P := Try.prog) 28 3 .i64 Try.underlying28 hi09 (some ad399) l0.length c0 x3_1 (od) q9 hroom9; have hr9 := Kd.F_take (m := (x3_1 : Int).toNat) hC9 (by omega); have hy9 : y400.length = (x3_1 : Int).toNat := (by rw [Ny400.out, List.length_take]; omega); rw [← Ny400.out] at hr9; rw [← hy9] at hcut9; have HO404 := m0 (show Kd.V (Kd.int .i64) 3 _ w.heap.size _ (.slice (some ad399) y400.length c0) y400 from Kd.V_mk (by omega) hr9); have HC404 := m0 (show y400.length ≤ c0 from by omega); clear hr9 hC9 hroom9 hi09 hsz9; have KY9 := m0 hy9; clear hy9; replace q9 := eq_true q9
         go_wp2
         go_ret
         exact ⟨_, by first | rfl | (simp [errW_none, errW_some] <;> rfl) | (simp only [← hji3]; first | rfl | (simp [errW_none, errW_some] <;> rfl)) | (simp [*, errW_none, errW_some] <;> rfl), by (with_reducible repeat (first | apply Kd.V_alloc | apply Kd.V_drewN | apply Kd.V_drew)); exact HO404.out, by repeat (first | (with_reducible first | exact HB.out | apply below_alloc | apply pw_below_drewN | apply below_drew1) | exact HB.out)⟩
        ·rw [if_neg c8] at H; exact absurd H (by simp)
       ·rw [if_neg c7] at H; exact absurd H (by simp)
     ·rw [if_neg c5] at H; exact absurd H (by simp)
    ·rw [if_neg c4] at H; exact absurd H (by simp)
   ·rw [if_neg c2] at H; have c2b0 := decide_eq_false c2; clear c2
    by_cases c10 : 0 ≤ x3_1
    ·rw [if_pos c10] at H; have c10b0 := eq_true c10; have c10b1 := decide_eq_true c10; clear c10
     by_cases c11 : x3_1 ≤ (l0.length : Int)
     ·rw [if_pos c11] at H; have c11b0 := eq_true c11; have c11b1 := decide_eq_true c11; clear c11; obtain ⟨y405, hy405⟩ : ∃ y_ : List Int, y_ = (l0.take (x3_1 : Int).toNat) := ⟨_, rfl⟩; replace H : (some y405) = some r := by first | (rw [hy405]; with_reducible exact H) | (have H2_ := (Option.bind_some _ _).symm.trans H; rw [hy405]; with_reducible exact H2_) | (have H2_ := (Option.bind_some _ _).symm.trans H; with_reducible exact H2_) | with_reducible exact H | (rw [hy405]; exact H) | exact H
      have Ny405 := m0 hy405; clear hy405; obtain rfl := Option.some.inj H; have q12 : (x3_1 : Int) ≤ ((l0.length : Int) : Int) := od; obtain ⟨i012, hi012, _, hsz12, _⟩ := info_parts info3; have hroom12 : l0.length ≤ c0 := (Kd.V_reads' HO_0.out).2.1; have hC12 : Kd.F (Kd.int .i64) _ _ A0 l0.length l0 := (Kd.V_at (base := w.heap.size) HO_0.out).2.2; have hcut12 := cut_to (P := Try.prog) 28 3 .i64 Try.underlying28 hi012 A0 l0.length c0 x3_1 (od) q12 hroom12; have hr12 := Kd.F_take (m := (x3_1 : Int).toNat) hC12 (by omega); have hy12 : y405.length = (x3_1 : Int).toNat := (by rw [Ny405.out, List.length_take]; omega); rw [← Ny405.out] at hr12; rw [← hy12] at hcut12; have HO409 := m0 (show Kd.V (Kd.int .i64) 3 _ w.heap.size _ (.slice A0 y405.length c0) y405 from Kd.V_mk (by omega) hr12); have HC409 := m0 (show y405.length ≤ c0 from by omega); clear hr12 hC12 hroom12 hi012 hsz12; have KY12 := m0 hy12; clear hy12; replace q12 := eq_true q12
      go_wp2
      go_ret
      exact ⟨_, by first | rfl | (simp [errW_none, errW_some] <;> rfl) | (simp [*, errW_none, errW_some] <;> rfl), by (with_reducible repeat (first | apply Kd.V_alloc | apply Kd.V_drewN | apply Kd.V_drew)); exact HO409.out, by repeat (first | (with_reducible first | exact HB.out | apply below_alloc | apply pw_below_drewN | apply below_drew1) | exact HB.out)⟩
     ·rw [if_neg c11] at H; exact absurd H (by simp)
    ·rw [if_neg c10] at H; exact absurd H (by simp)
end
section
def Bs_wideOf.f (k : Nat) (a0 : Int) (l1 : List Int) : Option (Int × List Int) := (Bs_trimmed.f k l1).bind fun t411 => (if (t411.length : Int) = 0 then (some (0, t411)) else (some (a0, t411)))
theorem Bs_wideOf.mono : ∀ a0 a1 k, LeO (Bs_wideOf.f k a0 a1) (Bs_wideOf.f (k + 1) a0 a1) := by
 intro a0 a1 k; unfold Bs_wideOf.f
 repeat' with_reducible first
  | exact Bs_trimmed.mono ..
  | exact LeO.refl ..
  | exact LeO.none ..
  | refine LeO.ite ?_ ?_
  | refine LeO.bind ?_ (fun _ => ?_)
theorem Bs_wideOf.calls (k : Nat) (a0 : Int) (P1_ : Nat → Prop) (A1 : Option Addr) (c1 : Nat) (l1 : List Int) (r1 : Int) (r2 : List Int) (w : World) (hs1 : Kd.V (Kd.int .i64) 3 w w.heap.size (fun k_ => P1_ k_) (.slice A1 l1.length c1) l1) (H : Bs_wideOf.f k a0 l1 = some (r1, r2)) :
  Calls Try.prog 149 #[.int .i64 a0, .slice A1 l1.length c1] w fun e w' => ∃ v1_ : Value, e = .returned (.agg #[.int .i64 r1, v1_]) ∧ Kd.V (Kd.int .i64) 3 w' w.heap.size (fun k_ => (P1_ k_ ∨ w.heap.size ≤ k_)) v1_ r2 ∧ Below w.heap.size w w' := by
 have hu156 := Try.underlying156; have HO1 := m0 (show Kd.V (Kd.int .i64) 3 w w.heap.size (fun k_ => (P1_ k_ ∨ w.heap.size ≤ k_)) (.slice A1 l1.length c1) l1 from Kd.V_mono hs1 (fun k_ hk => .inl hk)); have HB := m0 (Below.refl w.heap.size w); unfold Bs_wideOf.f at H; replace H := oa H; obtain ⟨t411, A3, H⟩ := H; (try dsimp only at H)
 by_cases c4 : (t411.length : Int) = 0
 ·rw [if_pos c4] at H; have c4b0 := beq_iff_eq.mpr c4; have c4b1 := bne_eq_false_iff_eq.mpr c4; clear c4; simp only [Option.some.injEq, Prod.mk.injEq] at H; obtain ⟨rfl, rfl⟩ := H; go_enter Try.func149, Try.ntmps149
  go_wp2_with (first | ((with_reducible refine ga 4 rfl ?_); refine be 4 156 #[.int .i64 0, .slice none 0 0] ?_; intro gb410 hg w5 hbox hb; replace HO1 := ve HO1 hg hb; have BK410 := m0 hbox; have GE410 := gw w hg; replace HB := sb HB hb; clear hb hbox hg) | ((with_reducible refine gc 172 rfl ?_); refine gl (some 6) Try.func172 #[.slice A1 l1.length c1] ?_; (with_reducible refine (Bs_trimmed.calls k (fun k_ => ((P1_ k_ ∨ w.heap.size ≤ k_) ∧ k_ ≠ gb410)) _ _ l1 t411 _ ?side1 A3.out).mono ?_); (case side1 => exact HO1.out); rintro e w6 ⟨v412, rfl, ho0, hb⟩; refine ⟨_, rfl, ?_⟩; replace HO1 := vb HO1 hb; have HO413 := hv w (fun k_ => (P1_ k_ ∨ w.heap.size ≤ k_) ∧ k_ ≠ gb410) ho0 (fun k_ hk_ => ⟨Or.elim hk_ (·.1) (fs ·), Or.elim hk_ (·.2) (fb BK410 ·)⟩); replace BK410 := bb BK410 hb; replace HB := sb HB hb; (try clear hb); (try clear ho0); obtain ⟨Ao7, co7, eo7⟩ := Kd.V_slice HO413.out; subst eo7; obtain ⟨_, _, _, _⟩ := b2 BK410))
  refine bodyPost_ret (results_cell_row rfl _ _ gb410 156 #[.int .i64 0, .slice Ao7 t411.length co7] (0, 0) _ rfl (bq BK410.out) Try.underlying156 rfl (by kernel_rfl)) rfl ?_; exact ⟨_, by first | rfl | (simp [errW_none, errW_some] <;> rfl) | (simp [*, errW_none, errW_some] <;> rfl), by (with_reducible repeat (first | apply Kd.V_alloc | apply Kd.V_drewN | apply Kd.V_drew)); exact Kd.V_mono (vf (vf (vn gb410 HO413.out (·.2)) (·.2)) (·.2)) (fun _ hk => hk.1.1), by repeat (first | (with_reducible first | exact HB.out | apply below_alloc | apply pw_below_drewN | apply below_drew1 | refine below_set ?_ GE410.out) | exact HB.out)⟩
 ·rw [if_neg c4] at H; have c4b0 := beq_eq_false_iff_ne.mpr c4; have c4b1 := bne_iff_ne.mpr c4; have c4b2 : ¬ (t411 = []) := fun h_ => c4 (by rw [h_]; rfl); simp only [Option.some.injEq, Prod.mk.injEq] at H; obtain ⟨rfl, rfl⟩ := H; go_enter Try.func149, Try.ntmps149
  go_wp2_with (first | ((with_reducible refine ga 4 rfl ?_); refine be 4 156 #[.int .i64 0, .slice none 0 0] ?_; intro gb410 hg w9 hbox hb; replace HO1 := ve HO1 hg hb; have BK410 := m0 hbox; have GE410 := gw w hg; replace HB := sb HB hb; clear hb hbox hg) | ((with_reducible refine gc 172 rfl ?_); refine gl (some 6) Try.func172 #[.slice A1 l1.length c1] ?_; (with_reducible refine (Bs_trimmed.calls k (fun k_ => ((P1_ k_ ∨ w.heap.size ≤ k_) ∧ k_ ≠ gb410)) _ _ l1 t411 _ ?side1 A3.out).mono ?_); (case side1 => exact HO1.out); rintro e w10 ⟨v412, rfl, ho0, hb⟩; refine ⟨_, rfl, ?_⟩; replace HO1 := vb HO1 hb; have HO413 := hv w (fun k_ => (P1_ k_ ∨ w.heap.size ≤ k_) ∧ k_ ≠ gb410) ho0 (fun k_ hk_ => ⟨Or.elim hk_ (·.1) (fs ·), Or.elim hk_ (·.2) (fb BK410 ·)⟩); replace BK410 := bb BK410 hb; replace HB := sb HB hb; (try clear hb); (try clear ho0); obtain ⟨Ao11, co11, eo11⟩ := Kd.V_slice HO413.out; subst eo11; obtain ⟨_, _, _, _⟩ := b2 BK410))
  refine bodyPost_ret (results_cell_row rfl _ _ gb410 156 #[.int .i64 a0, .slice Ao11 t411.length co11] (0, 0) _ rfl (bq BK410.out) Try.underlying156 rfl (by kernel_rfl)) rfl ?_; exact ⟨_, by first | rfl | (simp [errW_none, errW_some] <;> rfl) | (simp [*, errW_none, errW_some] <;> rfl), by (with_reducible repeat (first | apply Kd.V_alloc | apply Kd.V_drewN | apply Kd.V_drew)); exact Kd.V_mono (vf (vf (vn gb410 HO413.out (·.2)) (·.2)) (·.2)) (fun _ hk => hk.1.1), by repeat (first | (with_reducible first | exact HB.out | apply below_alloc | apply pw_below_drewN | apply below_drew1 | refine below_set ?_ GE410.out) | exact HB.out)⟩
end
section
mutual
def Bs_WideOf.j0 : Nat → Int → Int → Option (Int × List Int)
  | 0, _, _ => none
  | k + 1, x0, x3 => Bs_WideOf.l0 k x0 x3 ([] : List Int)
def Bs_WideOf.l0 : Nat → Int → Int → List Int → Option (Int × List Int)
  | 0, _, _, _ => none
  | k + 1, x0, x3, x4 => if x0 = 0 then ((Bs_wideOf.f k x3 x4).bind fun bt415 => (some (bt415.1, bt415.2))) else ((Bs_Size.f (Int.tmod x0 1000000000)).bind fun t419 => (if x4.length < 17592186044416 then (Bs_WideOf.l0 k (wrap64 (Int.tdiv x0 1000000000)) x3 (x4 ++ [t419])) else (none)))
end
def Bs_WideOf.f (k : Nat) (a0 : Int) : Option (Int × List Int) := if a0 < 0 then (Bs_WideOf.j0 k a0 (-1)) else (Bs_WideOf.j0 k a0 1)
theorem Bs_WideOf.mono_l : ∀ k, (∀ y0 y1, LeO (Bs_WideOf.j0 k y0 y1) (Bs_WideOf.j0 (k + 1) y0 y1)) ∧ (∀ y0 y1 y2, LeO (Bs_WideOf.l0 k y0 y1 y2) (Bs_WideOf.l0 (k + 1) y0 y1 y2))
  | 0 => ⟨fun _ _ r h => by simp [Bs_WideOf.j0] at h, fun _ _ _ r h => by simp [Bs_WideOf.l0] at h⟩
  | k + 1 => by
    obtain ⟨ih0, ih1⟩ := Bs_WideOf.mono_l k; refine ⟨?_, ?_⟩
    · intro y0 y1; unfold Bs_WideOf.j0
      repeat' with_reducible first
        | exact ih0 ..
        | exact ih1 ..
        | exact Bs_wideOf.mono ..
        | exact LeO.refl ..
        | exact LeO.none ..
        | refine LeO.ite ?_ ?_
        | refine LeO.bind ?_ (fun _ => ?_)
    · intro y0 y1 y2; unfold Bs_WideOf.l0
      repeat' with_reducible first
        | exact ih0 ..
        | exact ih1 ..
        | exact Bs_wideOf.mono ..
        | exact LeO.refl ..
        | exact LeO.none ..
        | refine LeO.ite ?_ ?_
        | refine LeO.bind ?_ (fun _ => ?_)
theorem Bs_WideOf.mono : ∀ a0 k, LeO (Bs_WideOf.f k a0) (Bs_WideOf.f (k + 1) a0) := by
  intro a0 k; obtain ⟨ih0, ih1⟩ := Bs_WideOf.mono_l k; unfold Bs_WideOf.f
  repeat' with_reducible first
    | exact ih0 ..
    | exact ih1 ..
    | exact Bs_wideOf.mono ..
    | exact LeO.refl ..
    | exact LeO.none ..
    | refine LeO.ite ?_ ?_
    | refine LeO.bind ?_ (fun _ => ?_)
theorem Bs_WideOf.calls (k : Nat) (a0 : Int) (r1 : Int) (r2 : List Int) (w : World) (H : Bs_WideOf.f k a0 = some (r1, r2)) :
    Calls Try.prog 135 #[.int .i64 a0] w fun e w' => ∃ v1_ : Value, e = .returned (.agg #[.int .i64 r1, v1_]) ∧ Kd.V (Kd.int .i64) 3 w' w.heap.size (fun k_ => (w.heap.size ≤ k_)) v1_ r2 ∧ Below w.heap.size w w' := by
  have hu156 := Try.underlying156; have HB := m0 (Below.refl w.heap.size w); unfold Bs_WideOf.f at H; have HC2 := m0 H; clear H; go_enter Try.func135, Try.ntmps135
  go_upto_if 6 with (first | ((with_reducible refine ga 2 rfl ?_); refine be 2 156 #[.int .i64 0, .slice none 0 0] ?_; intro gb414 hg w3 hbox hb; have BK414 := m0 hbox; have GE414 := gw w hg; replace HB := sb HB hb; clear hb hbox hg))
  (try simp only [Act.put, List.setIfInBounds_toArray, List.set_cons_zero, List.set_cons_succ])
  go_cut [3] (fun v3 wc => ∃ (kq : Nat) (x3_1 : Int), v3 = .int .i64 x3_1 ∧ Aside0 (Bs_WideOf.j0 kq a0 x3_1 = some (r1, r2)) ∧ Aside0 (kq ≤ k) ∧ Aside0 (wc.heap[gb414]? = some (.cells #[.int .i64 0, (.slice none 0 0)] 156 (0, 0))) ∧ Aside0 (Below w.heap.size w wc))
  case first =>
    have H := HC2.out; clear HC2
    by_cases c4 : a0 < 0
    · rw [if_pos c4] at H; have c4b0 := decide_eq_true c4; clear c4
      (first | rw [c4b0] | (simp only [i64_w, i32_w]; rw [c4b0]) | skip)
      have H' := m0 H; clear H
      go_wp2
      go_meet
      case rel => exact ⟨_, ((-1)), rz, H', ⟨by first | omega | exact Nat.le_refl _⟩, ⟨bk BK414.out⟩, ⟨bz⟩⟩
    · rw [if_neg c4] at H; have c4b0 := decide_eq_false c4; clear c4
      (first | rw [c4b0] | (simp only [i64_w, i32_w]; rw [c4b0]) | skip)
      have H' := m0 H; clear H
      go_wp2
      go_meet
      case rel => exact ⟨_, (1), rz, H', ⟨by first | omega | exact Nat.le_refl _⟩, ⟨bk BK414.out⟩, ⟨bz⟩⟩
  case rest =>
    clear HC2; obtain ⟨kq, x3_1, rfl, HA, HJ1, BK414, HB⟩ := hcut
    cases kq with
    | zero => exact absurd HA.out (by simp [Bs_WideOf.j0])
    | succ kj1 =>
      have H := HA.out; clear HA; simp only [Bs_WideOf.j0] at H; have H' := m0 H; clear H
      go_wp2
      go_loopg [0, 4] kj1 (fun kq v0 v4 w' => ∃ (x0_2 : Int) (x4_2 : List Int), v0 = .int .i64 x0_2 ∧ Aside0 (Bs_WideOf.l0 kq x0_2 x3_1 x4_2 = some (r1, r2)) ∧ Aside0 (kq ≤ kj1) ∧ Aside0 (Kd.R (Kd.int .i64) 3 w' w.heap.size (fun k_ => (w.heap.size ≤ k_)) v4 x4_2) ∧ Aside0 (w'.heap[gb414]? = some (.cells #[.int .i64 0, (.slice none 0 0)] 156 (0, 0))) ∧ Aside0 (Below w.heap.size w w'))
      case atStart => exact ⟨(a0), (([] : List Int)), rz, H', ⟨Nat.le_refl _⟩, ⟨by first | exact Kd.R_nil _ _ _ _ _ | exact Kd.N_nil _ _ _ _ _ | exact Kd.V_nil _ _ _ _ _ | exact Kd.Q_nil _ _ _ _ _ | exact Kd.S_nil _ _ _ _ _⟩, ⟨bk BK414.out⟩, ⟨bz⟩⟩
      case round =>
        clear H'; obtain ⟨x0_2, x4_2, rfl, HA, HK2, HO_4, BK414, HB⟩ := hrel
        cases gk with
        | zero => exact absurd HA.out (by simp [Bs_WideOf.l0])
        | succ k2 =>
          have H := HA.out; clear HA; simp only [Bs_WideOf.l0] at H
          by_cases c5 : x0_2 = 0
          · rw [if_pos c5] at H; have c5b0 := beq_iff_eq.mpr c5; have c5b1 := bne_eq_false_iff_eq.mpr c5; clear c5; replace H := oa H; obtain ⟨⟨t415, t416⟩, A6, H⟩ := H; (try dsimp only at H); simp only [Option.some.injEq, Prod.mk.injEq] at H; obtain ⟨rfl, rfl⟩ := H; obtain ⟨Ao7, co7, eo7⟩ := Kd.R_slice HO_4.out; subst eo7
            go_wp2_with (first | ((with_reducible refine gc 149 rfl ?_); refine gl (some 19) Try.func149 #[.int .i64 x3_1, .slice Ao7 x4_2.length co7] ?_; (with_reducible refine (Bs_wideOf.calls k2 x3_1 (fun k_ => some k_ = (.slice Ao7 x4_2.length co7 : Value).ownBlock) _ _ x4_2 t415 t416 _ ?side1 A6.out).mono ?_); (case side1 => exact Kd.R_V (Kd.R_tight rfl (Kd.R_types (HO_4.out) BK414.out (by decide)))); rintro e w8 ⟨v417, rfl, ho0, hb⟩; refine ⟨_, rfl, ?_⟩; have HO418 := hv w (fun k_ => (w.heap.size ≤ k_) ∧ k_ ≠ gb414) ho0 (fun k_ hk_ => ⟨Or.elim hk_ (fun hs_ => ((Kd.R_types (HO_4.out) BK414.out (by decide)).1 k_ hs_.symm).1) (fun hn_ => (Nat.le_trans (below_size bz) hn_)), Or.elim hk_ (fun hs_ => ((Kd.R_types (HO_4.out) BK414.out (by decide)).1 k_ hs_.symm).2) (fb BK414 ·)⟩); replace HO_4 := rb HO_4 hb; replace BK414 := bb BK414 hb; replace HB := sb HB hb; (try clear hb); (try clear ho0); obtain ⟨_, _, _, _⟩ := b2 BK414; obtain ⟨Ao10, co10, eo10⟩ := Kd.V_slice HO418.out; subst eo10))
            refine bodyPost_ret (results_cell_row rfl _ _ gb414 156 #[.int .i64 t415, .slice Ao10 t416.length co10] (0, 0) _ rfl (bq BK414.out) Try.underlying156 rfl (by kernel_rfl)) rfl ?_; exact ⟨_, by first | rfl | (simp [errW_none, errW_some] <;> rfl) | (simp [*, errW_none, errW_some] <;> rfl), by (with_reducible repeat (first | apply Kd.V_alloc | apply Kd.V_drewN | apply Kd.V_drew)); exact Kd.V_mono (vf (vf (vn gb414 HO418.out (·.2)) (·.2)) (·.2)) (fun _ hk => hk.1.1), by repeat (first | (with_reducible first | exact HB.out | apply below_alloc | apply pw_below_drewN | apply below_drew1 | refine below_set ?_ GE414.out) | exact HB.out)⟩
          · rw [if_neg c5] at H; have c5b0 := beq_eq_false_iff_ne.mpr c5; have c5b1 := bne_iff_ne.mpr c5; replace H := oa H; obtain ⟨t419, A11, H⟩ := H; (try dsimp only at H)
            by_cases c12 : x4_2.length < 17592186044416
            · rw [if_pos c12] at H; have LMc12 := m0 c12; clear c12; obtain ⟨y420, hy420⟩ : ∃ y_ : List Int, y_ = (x4_2 ++ [t419]) := ⟨_, rfl⟩; replace H : (Bs_WideOf.l0 k2 (wrap64 (Int.tdiv x0_2 1000000000)) x3_1 y420) = some (r1, r2) := by first | (rw [hy420]; with_reducible exact H) | (have H2_ := (Option.bind_some _ _).symm.trans H; rw [hy420]; with_reducible exact H2_) | (have H2_ := (Option.bind_some _ _).symm.trans H; with_reducible exact H2_) | with_reducible exact H | (rw [hy420]; exact H) | exact H
              have Ny420 := m0 hy420; clear hy420; have H' := m0 H; clear H
              go_wp2_with (first | ((with_reducible refine gc 110 rfl ?_); refine gl (some 12) Try.func110 #[.int .i64 (Int.tmod x0_2 1000000000)] ?_; (with_reducible refine (Bs_Size.calls (Int.tmod x0_2 1000000000) t419 _ A11.out).mono ?_); rintro e w13 ⟨rfl, hb⟩; refine ⟨_, rfl, ?_⟩; replace HO_4 := rb HO_4 hb; replace BK414 := bb BK414 hb; replace HB := sb HB hb; (try clear hb)) | ((with_reducible refine gate_builtin (b := .append) (xs := #[.tmp 9, .tmp 13]) rfl ?_); at_builtin; refine Kd.R_append (Kd.int .i64) (w0 := w) w.heap.size rfl (.tmp 9) (.tmp 13) 28 3 (.int .i64 0) 8 rfl Try.underlying28 info3 rfl (by decide) (by omega) u4 x4_2 t419 [.int .i64 t419] (fun k_ => (w.heap.size ≤ k_)) (fun _ => False) rfl rfl ?aP (fun _ hk => hk.elim) ?aF ?aO ?aB ?aS ?aL ?_; (case aP => exact rfl); (case aB => exact bz); (case aF => exact (fun k_ hk => (Nat.le_trans (below_size bz) hk))); (case aO => exact (br HO_4.out)); (case aS => exact (below_size bz)); (case aL => have := LMc12.out; omega); intro v421 w14 ho hb hg hat; rw [← Ny420.out] at ho; have n0_ := m0 (blk_grown (g := gb414) (o := .cells #[.int .i64 0, .slice none 0 0] 156 (0, 0)) (bk BK414.out) hg (Kd.R_ne HO_4.out BK414.out (by decide))); have n1_ := m0 (hb); have n2_ := m0 (ho); clear BK414; clear HB; clear HO_4; have BK414 := n0_; have HB := n1_; have HO422 := n2_; clear n0_ n1_ n2_; clear ho hb hg hat))
              go_roundg k2
              case measure => have := HJ1.out; have := HK2.out; omega
              case rel => exact ⟨(wrap64 (Int.tdiv x0_2 1000000000)), (y420), rz, H', ⟨by have := HJ1.out; have := HK2.out; omega⟩, ⟨br HO422.out⟩, ⟨bk BK414.out⟩, ⟨bz⟩⟩
            · rw [if_neg c12] at H; exact absurd H (by simp)
end
section
def Bs_RatioInt.f (k : Nat) (a0 : Int) : Option (Int × List Int × Int × List Int) := (Bs_WideOf.f k a0).bind fun bt424 => ((Bs_WideOf.f k 1).bind fun bt428 => (some (bt424.1, bt424.2, bt428.1, bt428.2)))
theorem Bs_RatioInt.mono : ∀ a0 k, LeO (Bs_RatioInt.f k a0) (Bs_RatioInt.f (k + 1) a0) := by
 intro a0 k; unfold Bs_RatioInt.f
 repeat' with_reducible first
  | exact Bs_WideOf.mono ..
  | exact LeO.refl ..
  | exact LeO.none ..
  | refine LeO.ite ?_ ?_
  | refine LeO.bind ?_ (fun _ => ?_)
theorem Bs_RatioInt.calls (k : Nat) (a0 : Int) (r1 : Int) (r2 : List Int) (r3 : Int) (r4 : List Int) (w : World) (H : Bs_RatioInt.f k a0 = some (r1, r2, r3, r4)) :
  Calls Try.prog 100 #[.int .i64 a0] w fun e w' => ∃ v1_ v3_ : Value, e = .returned (.agg #[.int .i64 r1, v1_, .int .i64 r3, v3_]) ∧ Kd.V (Kd.int .i64) 3 w' w.heap.size (fun k_ => (w.heap.size ≤ k_)) v1_ r2 ∧ Kd.V (Kd.int .i64) 3 w' w.heap.size (fun k_ => (w.heap.size ≤ k_)) v3_ r4 ∧ Below w.heap.size w w' := by
 have hu158 := Try.underlying158; have HB := m0 (Below.refl w.heap.size w); unfold Bs_RatioInt.f at H; replace H := oa H; obtain ⟨⟨t424, t425⟩, A2, H⟩ := H; (try dsimp only at H); replace H := oa H; obtain ⟨⟨t428, t429⟩, A3, H⟩ := H; (try dsimp only at H); simp only [Option.some.injEq, Prod.mk.injEq] at H; obtain ⟨rfl, rfl, rfl, rfl⟩ := H; go_enter Try.func100, Try.ntmps100
 go_wp2_with (first | ((with_reducible refine ga 2 rfl ?_); refine be 2 158 #[.int .i64 0, .slice none 0 0, .int .i64 0, .slice none 0 0] ?_; intro gb423 hg w4 hbox hb; have BK423 := m0 hbox; have GE423 := gw w hg; replace HB := sb HB hb; clear hb hbox hg) | ((with_reducible refine gc 135 rfl ?_); refine gl (some 4) Try.func135 #[.int .i64 a0] ?_; (with_reducible refine (Bs_WideOf.calls k a0 t424 t425 _ A2.out).mono ?_); rintro e w5 ⟨v426, rfl, ho0, hb⟩; refine ⟨_, rfl, ?_⟩; have HO427 := hv w (fun k_ => (w.heap.size ≤ k_) ∧ k_ ≠ gb423) ho0 (fun k_ hk_ => ⟨(Nat.le_trans (below_size bz) hk_), (fb BK423 hk_)⟩); replace BK423 := bb BK423 hb; replace HB := sb HB hb; (try clear hb); (try clear ho0)) | ((with_reducible refine gc 135 rfl ?_); refine gl (some 5) Try.func135 #[.int .i64 1] ?_; (with_reducible refine (Bs_WideOf.calls k 1 t428 t429 _ A3.out).mono ?_); rintro e w6 ⟨v430, rfl, ho0, hb⟩; refine ⟨_, rfl, ?_⟩; replace HO427 := vb HO427 hb; have HO431 := hv w (fun k_ => (w.heap.size ≤ k_) ∧ k_ ≠ gb423) ho0 (fun k_ hk_ => ⟨(Nat.le_trans (below_size bz) hk_), (fb BK423 hk_)⟩); replace BK423 := bb BK423 hb; replace HB := sb HB hb; (try clear hb); (try clear ho0); obtain ⟨Ao7, co7, eo7⟩ := Kd.V_slice HO431.out; subst eo7; obtain ⟨Ao8, co8, eo8⟩ := Kd.V_slice HO427.out; subst eo8; obtain ⟨_, _, _, _, _, _, _, _⟩ := b4 BK423))
 refine bodyPost_ret (results_cell_row rfl _ _ gb423 158 #[.int .i64 t424, .slice Ao8 t425.length co8, .int .i64 t428, .slice Ao7 t429.length co7] (0, 0) _ rfl (bq BK423.out) Try.underlying158 rfl (by kernel_rfl)) rfl ?_; exact ⟨_, _, by first | rfl | (simp [errW_none, errW_some] <;> rfl) | (simp [*, errW_none, errW_some] <;> rfl), by (with_reducible repeat (first | apply Kd.V_alloc | apply Kd.V_drewN | apply Kd.V_drew)); exact Kd.V_mono (vf (vf (vf (vf (vn gb423 HO427.out (·.2)) (·.2)) (·.2)) (·.2)) (·.2)) (fun _ hk => hk.1.1), by (with_reducible repeat (first | apply Kd.V_alloc | apply Kd.V_drewN | apply Kd.V_drew)); exact Kd.V_mono (vf (vf (vf (vf (vn gb423 HO431.out (·.2)) (·.2)) (·.2)) (·.2)) (·.2)) (fun _ hk => hk.1.1), by repeat (first | (with_reducible first | exact HB.out | apply below_alloc | apply pw_below_drewN | apply below_drew1 | refine below_set ?_ GE423.out) | exact HB.out)⟩
end
section
def Bs_WideSign.f (a0_0 : Int) (l0_1 : List Int) : Option (Int) := some a0_0
theorem Bs_WideSign.calls (a0_0 : Int) (A0_1 : Option Addr) (c0_1 : Nat) (l0_1 : List Int) (r : Int) (w : World) (hr0_1 : Kd.C (Kd.int .i64) w A0_1 l0_1.length l0_1) (hc0_1 : l0_1.length ≤ c0_1) (H : Bs_WideSign.f a0_0 l0_1 = some r) :
  Calls Try.prog 150 #[.agg #[.int .i64 a0_0, .slice A0_1 l0_1.length c0_1]] w fun e w' => e = .returned (.int .i64 r) ∧ Below w.heap.size w w' := by
 have hu156 := Try.underlying156; have HR0_1 := m0 hr0_1; have HC0_1 := m0 hc0_1; clear hr0_1 hc0_1; have HB := m0 (Below.refl w.heap.size w); unfold Bs_WideSign.f at H; obtain rfl := Option.some.inj H; go_enter Try.func150, Try.ntmps150
 go_wp2_with (first | ((with_reducible refine ga 1 rfl ?_); refine be 1 156 #[.int .i64 a0_0, .slice A0_1 l0_1.length c0_1] ?_; intro gb432 hg w2 hbox hb; have BK432 := m0 hbox; have GE432 := gw w hg; replace HB := sb HB hb; clear hb hbox hg; obtain ⟨_, _, _, _⟩ := b2 BK432))
 go_ret
 exact ez
end
section
mutual
def Bs_WideMul.l0 : Nat → List Int → Int → Int → List Int → Int → List Int → Option (Int × List Int)
  | 0, _, _, _, _, _, _ => none
  | k + 1, x5, x6, x436000, x436001, x437000, x437001 => if x6 < (x436001.length : Int) then (Bs_WideMul.l1 k x5 x6 0 0 x436000 x436001 x437000 x437001) else ((Bs_wideOf.f k (wrap64 (x436000 * x437000)) x5).bind fun bt441 => (some (bt441.1, bt441.2)))
def Bs_WideMul.l1 : Nat → List Int → Int → Int → Int → Int → List Int → Int → List Int → Option (Int × List Int)
  | 0, _, _, _, _, _, _, _, _ => none
  | k + 1, x5, x6, x7, x8, x436000, x436001, x437000, x437001 => if x8 < (x437001.length : Int) then (if 0 ≤ (wrap64 (x6 + x8)) then (if (wrap64 (x6 + x8)) < (x5.length : Int) then (if 0 ≤ x6 then (if x6 < (x436001.length : Int) then (if 0 ≤ x8 then (Bs_WideMul.l1 k (x5.set ((wrap64 (x6 + x8)) : Int).toNat (Int.tmod (wrap64 ((wrap64 ((rd x5 (wrap64 (x6 + x8))) + (wrap64 ((rd x436001 x6) * (rd x437001 x8))))) + x7)) 1000000000)) x6 (wrap64 (Int.tdiv (wrap64 ((wrap64 ((rd x5 (wrap64 (x6 + x8))) + (wrap64 ((rd x436001 x6) * (rd x437001 x8))))) + x7)) 1000000000)) (wrap64 (x8 + 1)) x436000 x436001 x437000 x437001) else (none)) else (none)) else (none)) else (none)) else (none)) else (if 0 ≤ (wrap64 (x6 + (x437001.length : Int))) then (if (wrap64 (x6 + (x437001.length : Int))) < (x5.length : Int) then (Bs_WideMul.l0 k (x5.set ((wrap64 (x6 + (x437001.length : Int))) : Int).toNat (wrap64 ((rd x5 (wrap64 (x6 + (x437001.length : Int)))) + x7))) (wrap64 (x6 + 1)) x436000 x436001 x437000 x437001) else (none)) else (none))
end
def Bs_WideMul.f (k : Nat) (a0_0 : Int) (l0_1 : List Int) (a1_0 : Int) (l1_1 : List Int) : Option (Int × List Int) := if 0 ≤ (wrap64 ((wrap64 ((l0_1.length : Int) + (l1_1.length : Int))) + 1)) then (if (wrap64 ((wrap64 ((l0_1.length : Int) + (l1_1.length : Int))) + 1) : Int).toNat ≤ 35184372088832 then (Bs_WideMul.l0 k (List.replicate (wrap64 ((wrap64 ((l0_1.length : Int) + (l1_1.length : Int))) + 1) : Int).toNat 0) 0 a0_0 l0_1 a1_0 l1_1) else (none)) else (none)
theorem Bs_WideMul.mono_l : ∀ k, (∀ y0 y1 y2 y3 y4 y5, LeO (Bs_WideMul.l0 k y0 y1 y2 y3 y4 y5) (Bs_WideMul.l0 (k + 1) y0 y1 y2 y3 y4 y5)) ∧ (∀ y0 y1 y2 y3 y4 y5 y6 y7, LeO (Bs_WideMul.l1 k y0 y1 y2 y3 y4 y5 y6 y7) (Bs_WideMul.l1 (k + 1) y0 y1 y2 y3 y4 y5 y6 y7))
  | 0 => ⟨fun _ _ _ _ _ _ r h => by simp [Bs_WideMul.l0] at h, fun _ _ _ _ _ _ _ _ r h => by simp [Bs_WideMul.l1] at h⟩
  | k + 1 => by
    obtain ⟨ih0, ih1⟩ := Bs_WideMul.mono_l k; refine ⟨?_, ?_⟩
    · intro y0 y1 y2 y3 y4 y5; unfold Bs_WideMul.l0
      repeat' with_reducible first
        | exact ih0 ..
        | exact ih1 ..
        | exact Bs_wideOf.mono ..
        | exact LeO.refl ..
        | exact LeO.none ..
        | refine LeO.ite ?_ ?_
        | refine LeO.bind ?_ (fun _ => ?_)
    · intro y0 y1 y2 y3 y4 y5 y6 y7; unfold Bs_WideMul.l1
      repeat' with_reducible first
        | exact ih0 ..
        | exact ih1 ..
        | exact Bs_wideOf.mono ..
        | exact LeO.refl ..
        | exact LeO.none ..
        | refine LeO.ite ?_ ?_
        | refine LeO.bind ?_ (fun _ => ?_)
theorem Bs_WideMul.mono : ∀ a0 a1 a2 a3 k, LeO (Bs_WideMul.f k a0 a1 a2 a3) (Bs_WideMul.f (k + 1) a0 a1 a2 a3) := by
  intro a0 a1 a2 a3 k; obtain ⟨ih0, ih1⟩ := Bs_WideMul.mono_l k; unfold Bs_WideMul.f
  repeat' with_reducible first
    | exact ih0 ..
    | exact ih1 ..
    | exact Bs_wideOf.mono ..
    | exact LeO.refl ..
    | exact LeO.none ..
    | refine LeO.ite ?_ ?_
    | refine LeO.bind ?_ (fun _ => ?_)
def Bs_WideMul.T9 : Bool × List (List Nat × List Nat) := (true, [([], []), ([], []), ([], []), ([1, 2], [1, 2]), ([0, 3], [0, 3]), ([4], [4]), ([], []), ([6], [6]), ([], []), ([7, 8], [7, 8]), ([9], [9]), ([], []), ([11], [11]), ([], []), ([12, 13], [12, 13]), ([14], [14]), ([10, 15], [10, 15]), ([5, 16], [5, 16]), ([], []), ([17, 18], [17, 18]), ([19, 0, 1, 2, 3, 4, 5, 6, 7, 8, 9, 10, 11, 12, 13, 14, 15, 16, 17, 18, 19], [19])])
def Bs_WideMul.B9 : List Nat := [0, 0, 0, 6, 15, 31, 0, 64, 0, 448, 960, 0, 2048, 0, 14336, 30720, 65472, 131071, 0, 524287, 1048575]
theorem Bs_WideMul.tab9 : rtab .any (opsOf Try.f138 9) = Bs_WideMul.T9 := by kernel_rfl
theorem Bs_WideMul.bits9 : waitsOk Bs_WideMul.T9.2 Bs_WideMul.B9 = true := by kernel_rfl
def Bs_WideMul.T11 : Bool × List (List Nat × List Nat) := (true, [([], []), ([], []), ([], []), ([2], [2]), ([3], [3]), ([1, 4], [1, 4]), ([], []), ([], []), ([], []), ([8], [8]), ([9], [9]), ([7, 10], [7, 10]), ([6, 11], [6, 11]), ([12], [12]), ([], []), ([13, 14], [13, 14]), ([0, 5, 0, 1, 2, 3, 4, 5, 6, 7, 8, 9, 10, 11, 12, 13, 14, 15], [0, 5]), ([16, 15, 0, 1, 2, 3, 4, 5, 6, 7, 8, 9, 10, 11, 12, 13, 14, 15], [15, 16])])
def Bs_WideMul.B11 : List Nat := [0, 0, 0, 4, 12, 30, 0, 0, 0, 256, 768, 1920, 4032, 8128, 0, 32704, 65535, 131071]
theorem Bs_WideMul.tab11 : rtab .any (opsOf Try.f138 11) = Bs_WideMul.T11 := by kernel_rfl
theorem Bs_WideMul.bits11 : waitsOk Bs_WideMul.T11.2 Bs_WideMul.B11 = true := by kernel_rfl
theorem Bs_WideMul.calls (k : Nat) (a0_0 : Int) (A0_1 : Option Addr) (c0_1 : Nat) (l0_1 : List Int) (a1_0 : Int) (A1_1 : Option Addr) (c1_1 : Nat) (l1_1 : List Int) (r1 : Int) (r2 : List Int) (w : World) (hr0_1 : Kd.C (Kd.int .i64) w A0_1 l0_1.length l0_1) (hc0_1 : l0_1.length ≤ c0_1) (hr1_1 : Kd.C (Kd.int .i64) w A1_1 l1_1.length l1_1) (hc1_1 : l1_1.length ≤ c1_1) (H : Bs_WideMul.f k a0_0 l0_1 a1_0 l1_1 = some (r1, r2)) :
    Calls Try.prog 138 #[.agg #[.int .i64 a0_0, .slice A0_1 l0_1.length c0_1], .agg #[.int .i64 a1_0, .slice A1_1 l1_1.length c1_1]] w fun e w' => ∃ v1_ : Value, e = .returned (.agg #[.int .i64 r1, v1_]) ∧ Kd.V (Kd.int .i64) 3 w' w.heap.size (fun k_ => (w.heap.size ≤ k_)) v1_ r2 ∧ Below w.heap.size w w' := by
  have hu156 := Try.underlying156; have HR0_1 := m0 hr0_1; have HC0_1 := m0 hc0_1; clear hr0_1 hc0_1; have HR1_1 := m0 hr1_1; have HC1_1 := m0 hc1_1; clear hr1_1 hc1_1; have HB := m0 (Below.refl w.heap.size w); unfold Bs_WideMul.f at H; obtain ⟨ji3, hji3⟩ : ∃ j_ : Int, (wrap64 ((wrap64 ((l0_1.length : Int) + (l1_1.length : Int))) + 1)) = j_ := ⟨_, rfl⟩; replace H : (if 0 ≤ (ji3) then (if (ji3 : Int).toNat ≤ 35184372088832 then (Bs_WideMul.l0 k (List.replicate (ji3 : Int).toNat 0) 0 a0_0 l0_1 a1_0 l1_1) else (none)) else (none)) = some (r1, r2) := by first | (rw [hji3] at H; exact H) | (simp only [hji3] at H ⊢; exact H)
  have hji3w : (IntKind.i64.wrap ((wrap64 ((l0_1.length : Int) + (l1_1.length : Int))) + 1)) = ji3 := (i64_w _).trans hji3
  by_cases c4 : 0 ≤ (ji3)
  · rw [if_pos c4] at H; have c4b0 := eq_true c4; have c4b1 := decide_eq_true c4; clear c4
    by_cases c5 : (ji3 : Int).toNat ≤ 35184372088832
    · rw [if_pos c5] at H; have c5b0 := eq_true c5; have c5b1 := decide_eq_true c5; clear c5; obtain ⟨y438, hy438⟩ : ∃ y_ : List Int, y_ = (List.replicate (ji3 : Int).toNat 0) := ⟨_, rfl⟩; replace H : (Bs_WideMul.l0 k y438 0 a0_0 l0_1 a1_0 l1_1) = some (r1, r2) := by first | (rw [hy438]; with_reducible exact H) | (have H2_ := (Option.bind_some _ _).symm.trans H; rw [hy438]; with_reducible exact H2_) | (have H2_ := (Option.bind_some _ _).symm.trans H; with_reducible exact H2_) | with_reducible exact H | (rw [hy438]; exact H) | exact H
      have Ny438 := m0 hy438; clear hy438; have H' := m0 H; clear H; go_enter Try.func138, Try.ntmps138
      go_wp2_with (first | ((with_reducible refine ga 2 rfl ?_); refine be 2 156 #[.int .i64 a0_0, .slice A0_1 l0_1.length c0_1] ?_; intro gb435 hg w6 hbox hb; have BK435 := m0 hbox; have GE435 := gw w hg; replace HB := sb HB hb; clear hb hbox hg) | ((with_reducible refine ga 3 rfl ?_); refine be 3 156 #[.int .i64 a1_0, .slice A1_1 l1_1.length c1_1] ?_; intro gb436 hg w7 hbox hb; have BK436 := m0 hbox; have GE436 := gw w hg; replace HB := sb HB hb; have NB435_436 := nl BK435 hg; have NB436_435 := ng (nl BK435 hg); replace BK435 := bb BK435 hb; clear hb hbox hg) | ((with_reducible refine ga 4 rfl ?_); refine be 4 156 #[.int .i64 0, .slice none 0 0] ?_; intro gb437 hg w8 hbox hb; have BK437 := m0 hbox; have GE437 := gw w hg; replace HB := sb HB hb; have NB435_437 := nl BK435 hg; have NB437_435 := ng (nl BK435 hg); replace BK435 := bb BK435 hb; have NB436_437 := nl BK436 hg; have NB437_436 := ng (nl BK436 hg); replace BK436 := bb BK436 hb; clear hb hbox hg; have hnb9 := NB435_436.out; have hnc9 := NB436_435.out; have hnb10 := NB435_437.out; have hnc10 := NB437_435.out; obtain ⟨hcz11_0, hcz11_1, hfz11_0, hfz11_1⟩ := b2 BK435; have hnb12 := NB436_437.out; have hnc12 := NB437_436.out; obtain ⟨hcz13_0, hcz13_1, hfz13_0, hfz13_1⟩ := b2 BK436) | ((with_reducible refine ga 18 rfl ?_); refine Kd.R_make (Kd.int .i64) _ 3 rfl (N := 18) rfl 28 _ _ rfl ji3 rfl rfl Try.underlying28 (.int .i64 0) 8 info3 rfl (by decide) (by omega) 0 (ok := fun _ => True) (okp := fun _ => True) rfl (fun _ hk => hk) trivial (od) (Nat.le_trans (Nat.mul_le_mul_right _ (od : ji3.toNat ≤ 35184372088832)) (by omega)) (Below.refl _ _) (Nat.le_refl _) ?_; intro v439 w14 ho15 hb hg_ hnew_; clear hg_ hnew_; (first | rw [← Ny438.out] at ho15 | (simp only [Int.reduceToNat] at ho15; rw [← Ny438.out] at ho15)); have HO440 := m0 (Kd.R_lower (Kd.R_newM (M := fun k_ => (w.heap.size ≤ k_)) ho15 (below_size bz) (fun k_ h_ => h_)) (below_size bz)); replace BK435 := bb BK435 hb; replace BK436 := bb BK436 hb; replace BK437 := bb BK437 hb; replace HB := sb HB hb; clear hb ho15))
      go_loopg [6] k (fun kq v6 w' => ∃ (x5_1 : List Int) (x6_1 : Int), v6 = .int .i64 x6_1 ∧ Aside0 (Bs_WideMul.l0 kq x5_1 x6_1 a0_0 l0_1 a1_0 l1_1 = some (r1, r2)) ∧ Aside0 (kq ≤ k) ∧ Aside0 (Kd.R (Kd.int .i64) 3 w' w.heap.size (fun k_ => (w.heap.size ≤ k_)) v439 x5_1) ∧ Aside0 (w'.heap[gb435]? = some (.cells #[.int .i64 a0_0, (.slice A0_1 l0_1.length c0_1)] 156 (0, 0))) ∧ Aside0 (w'.heap[gb436]? = some (.cells #[.int .i64 a1_0, (.slice A1_1 l1_1.length c1_1)] 156 (0, 0))) ∧ Aside0 (w'.heap[gb437]? = some (.cells #[.int .i64 0, (.slice none 0 0)] 156 (0, 0))) ∧ Aside0 (Below w.heap.size w w'))
      case atStart => exact ⟨(y438), (0), rz, H', ⟨Nat.le_refl _⟩, ⟨by (with_reducible repeat (first | apply Kd.R_alloc | apply Kd.R_drewN | apply Kd.R_drew)); exact Kd.R_mono HO440.out (fun _ hk => hk.1)⟩, ⟨bk BK435.out⟩, ⟨bk BK436.out⟩, ⟨bk BK437.out⟩, ⟨bz⟩⟩
      case round =>
        clear H'
        try clear hcz11_0
        try clear hcz11_1
        try clear hcz13_0
        try clear hcz13_1
        try clear hfz11_0
        try clear hfz11_1
        try clear hfz13_0
        try clear hfz13_1
        obtain ⟨x5_1, x6_1, rfl, HA, HK1, HO_5, BK435, BK436, BK437, HB⟩ := hrel
        cases gk with
        | zero => exact absurd HA.out (by simp [Bs_WideMul.l0])
        | succ k1 =>
          have H := HA.out; clear HA; simp only [Bs_WideMul.l0] at H
          by_cases c16 : x6_1 < (l0_1.length : Int)
          · rw [if_pos c16] at H; have c16b0 := decide_eq_true c16; clear c16; have H' := m0 H; clear H; have hnb17 := NB435_436.out; have hnc17 := NB436_435.out; have hnb18 := NB435_437.out; have hnc18 := NB437_435.out; obtain ⟨hcz19_0, hcz19_1, hfz19_0, hfz19_1⟩ := b2 BK435
            go_wp2
            go_loopg [7, 8] k1 (fun kq v7 v8 w' => ∃ (x5_2 : List Int) (x7_2 : Int) (x8_2 : Int), v7 = .int .i64 x7_2 ∧ v8 = .int .i64 x8_2 ∧ Aside0 (Bs_WideMul.l1 kq x5_2 x6_1 x7_2 x8_2 a0_0 l0_1 a1_0 l1_1 = some (r1, r2)) ∧ Aside0 (kq ≤ k1) ∧ Aside0 (Kd.R (Kd.int .i64) 3 w' w.heap.size (fun k_ => (w.heap.size ≤ k_)) v439 x5_2) ∧ Aside0 (w'.heap[gb435]? = some (.cells #[.int .i64 a0_0, (.slice A0_1 l0_1.length c0_1)] 156 (0, 0))) ∧ Aside0 (w'.heap[gb436]? = some (.cells #[.int .i64 a1_0, (.slice A1_1 l1_1.length c1_1)] 156 (0, 0))) ∧ Aside0 (w'.heap[gb437]? = some (.cells #[.int .i64 0, (.slice none 0 0)] 156 (0, 0))) ∧ Aside0 (Below w.heap.size w w'))
            case atStart => exact ⟨(x5_1), (0), (0), rz, rz, H', ⟨Nat.le_refl _⟩, ⟨br HO_5.out⟩, ⟨bk BK435.out⟩, ⟨bk BK436.out⟩, ⟨bk BK437.out⟩, ⟨bz⟩⟩
            case round =>
              clear H'
              try clear hcz11_0
              try clear hcz11_1
              try clear hcz13_0
              try clear hcz13_1
              try clear hcz19_0
              try clear hcz19_1
              try clear hfz11_0
              try clear hfz11_1
              try clear hfz13_0
              try clear hfz13_1
              try clear hfz19_0
              try clear hfz19_1
              obtain ⟨x5_2, x7_2, x8_2, rfl, rfl, HA, HK2, HO_5, BK435, BK436, BK437, HB⟩ := hrel
              cases gk with
              | zero => exact absurd HA.out (by simp [Bs_WideMul.l1])
              | succ k2 =>
                have H := HA.out; clear HA; simp only [Bs_WideMul.l1] at H
                by_cases c20 : x8_2 < (l1_1.length : Int)
                · rw [if_pos c20] at H; have c20b0 := decide_eq_true c20; clear c20; obtain ⟨ji21, hji21⟩ : ∃ j_ : Int, (wrap64 (x6_1 + x8_2)) = j_ := ⟨_, rfl⟩; replace H : (if 0 ≤ (ji21) then (if (ji21) < (x5_2.length : Int) then (if 0 ≤ x6_1 then (if x6_1 < (l0_1.length : Int) then (if 0 ≤ x8_2 then (Bs_WideMul.l1 k2 (x5_2.set ((ji21) : Int).toNat (Int.tmod (wrap64 ((wrap64 ((rd x5_2 (ji21)) + (wrap64 ((rd l0_1 x6_1) * (rd l1_1 x8_2))))) + x7_2)) 1000000000)) x6_1 (wrap64 (Int.tdiv (wrap64 ((wrap64 ((rd x5_2 (ji21)) + (wrap64 ((rd l0_1 x6_1) * (rd l1_1 x8_2))))) + x7_2)) 1000000000)) (wrap64 (x8_2 + 1)) a0_0 l0_1 a1_0 l1_1) else (none)) else (none)) else (none)) else (none)) else (none)) = some (r1, r2) := by first | (rw [hji21] at H; exact H) | (simp only [hji21] at H ⊢; exact H)
                  have hji21w : (IntKind.i64.wrap (x6_1 + x8_2)) = ji21 := (i64_w _).trans hji21
                  by_cases c22 : 0 ≤ (ji21)
                  · rw [if_pos c22] at H; have c22b0 := decide_eq_true c22; clear c22
                    by_cases c23 : (ji21) < (x5_2.length : Int)
                    · rw [if_pos c23] at H; have c23b0 := decide_eq_true c23; clear c23
                      by_cases c24 : 0 ≤ x6_1
                      · rw [if_pos c24] at H; have c24b0 := decide_eq_true c24; clear c24
                        by_cases c25 : x6_1 < (l0_1.length : Int)
                        · rw [if_pos c25] at H; have c25b0 := decide_eq_true c25; clear c25
                          by_cases c26 : 0 ≤ x8_2
                          · rw [if_pos c26] at H; have c26b0 := decide_eq_true c26; clear c26; obtain ⟨y448, hy448⟩ : ∃ y_ : List Int, y_ = (x5_2.set ((ji21) : Int).toNat (Int.tmod (wrap64 ((wrap64 ((rd x5_2 (ji21)) + (wrap64 ((rd l0_1 x6_1) * (rd l1_1 x8_2))))) + x7_2)) 1000000000)) := ⟨_, rfl⟩; replace H : (Bs_WideMul.l1 k2 y448 x6_1 (wrap64 (Int.tdiv (wrap64 ((wrap64 ((rd x5_2 (ji21)) + (wrap64 ((rd l0_1 x6_1) * (rd l1_1 x8_2))))) + x7_2)) 1000000000)) (wrap64 (x8_2 + 1)) a0_0 l0_1 a1_0 l1_1) = some (r1, r2) := by first | (rw [hy448]; with_reducible exact H) | (have H2_ := (Option.bind_some _ _).symm.trans H; rw [hy448]; with_reducible exact H2_) | (have H2_ := (Option.bind_some _ _).symm.trans H; with_reducible exact H2_) | with_reducible exact H | (rw [hy448]; exact H) | exact H
                            have Ny448 := m0 hy448; clear hy448; have H' := m0 H; clear H; have hnb28 := NB436_435.out; have hnc28 := NB435_436.out; have hnb29 := NB436_437.out; have hnc29 := NB437_436.out; obtain ⟨_, _, _, _⟩ := b2 BK436
                            try go_wp2
                            replace HO_5 := m0 (Kd.R_drew HO_5.out); replace BK435 := bd BK435; replace BK436 := bd BK436; replace BK437 := bd BK437; replace HB := sd HB; obtain ⟨Ao32, co32, eo32⟩ := Kd.R_slice HO_5.out; subst eo32; have p445 : 0 ≤ ((ji21) : Int) := od; have q445 : (ji21) < (x5_2.length : Int) := od; obtain ⟨ad445, e445, hx445_0⟩ := Kd.at_int (Kd.R_reads' HO_5.out).2.2 (ji21) p445 q445
                            cases e445
                            replace p445 := eq_true p445; replace q445 := eq_true q445; have p446 : 0 ≤ (x6_1 : Int) := od; have q446 : x6_1 < (l0_1.length : Int) := od; obtain ⟨ad446, e446, hx446_0⟩ := Kd.at_int HR0_1.out x6_1 p446 q446; have hw446_0 := hx446_0
                            cases e446
                            replace hx446_0 := hc HB hx446_0; replace p446 := eq_true p446; replace q446 := eq_true q446; have p447 : 0 ≤ (x8_2 : Int) := od; have q447 : x8_2 < (l1_1.length : Int) := od; obtain ⟨ad447, e447, hx447_0⟩ := Kd.at_int HR1_1.out x8_2 p447 q447; have hw447_0 := hx447_0
                            cases e447
                            replace hx447_0 := hc HB hx447_0; replace p447 := eq_true p447; replace q447 := eq_true q447; refine start_ (n := 21) (S := fun w' => w'.cell? ⟨gb435, 0, none⟩ = some (.int .i64 a0_0) ∧ w'.cell? ⟨gb435, 1, none⟩ = some (.slice (some ad446) l0_1.length c0_1) ∧ w'.cell? ⟨gb436, 0, none⟩ = some (.int .i64 a1_0) ∧ w'.cell? ⟨gb436, 1, none⟩ = some (.slice (some ad447) l1_1.length c1_1) ∧ w'.cell? (ad445.add ((ji21)).toNat) = some (.int .i64 (rd x5_2 (ji21))) ∧ w'.cell? (ad446.add (x6_1).toNat) = some (.int .i64 (rd l0_1 x6_1)) ∧ w'.cell? (ad447.add (x8_2).toNat) = some (.int .i64 (rd l1_1 x8_2))) (ds := []) _ (by kernel_rfl) rfl rfl ⟨(blk_cell BK435.out 0).trans rfl, (blk_cell BK435.out 1).trans rfl, (blk_cell BK436.out 0).trans rfl, (blk_cell BK436.out 1).trans rfl, hx445_0, ((HB.out.cell (World.block_lt_of_cell? w _ hw446_0)).trans hw446_0), ((HB.out.cell (World.block_lt_of_cell? w _ hw447_0)).trans hw447_0)⟩ (fun hH => ?_); refine with_tabW Bs_WideMul.tab9 Bs_WideMul.bits9 (fun HT_ HW_ => ?_); generalize wr.drew = w31 at HO_5 BK435 BK436 BK437 HB hx445_0 hx446_0 hx447_0 hH ⊢; refine pZ 0 (some 33) (bs 21 1) HT_ ?_; refine pZ 1 (some 34) (bs 21 3) HT_ ?_; refine pZ 2 (some 35) (bs 21 7) HT_ ?_; refine pZ 3 (some 36) (bs 21 15) HT_ ?_; refine pZ 4 (some 37) (bs 21 31) HT_ ?_; refine pZ 6 (some 39) (bs 21 95) HT_ ?_; refine pZ 8 (some 41) (bs 21 351) HT_ ?_; refine pZ 11 (some 44) (bs 21 2399) HT_ ?_; refine pZ 13 (some 46) (bs 21 10591) HT_ ?_; refine pZ 18 (some 51) (bs 21 272735) HT_ ?_; refine takeZ 5 (some 38) (bs 21 272767) (tw HT_ HW_) hH ?_; refine takeZ 7 (some 40) (bs 21 272895) (tw HT_ HW_) hH ?_; refine pZ 9 (some 42) (bs 21 273407) HT_ ?_; refine takeZ 10 (some 43) (bs 21 274431) (tw HT_ HW_) hH ?_; refine takeZ 12 (some 45) (bs 21 278527) (tw HT_ HW_) hH ?_; refine pZ 14 (some 47) (bs 21 294911) HT_ ?_; refine takeZ 15 (some 48) (bs 21 327679) (tw HT_ HW_) hH ?_; refine pZ 16 (some 49) (bs 21 393215) HT_ ?_; refine pZ 17 (some 50) (bs 21 524287) HT_ ?_; refine pZ 19 (some 52) (bs 21 1048575) HT_ ?_; refine pZ 20 (some 9) (bs 21 2097151) HT_ ?_; refine done_ (done_of HT_.out (by kernel_rfl)) ?_; have p27 : 0 ≤ ((ji21) : Int) := od; have q27 : ((ji21) : Int) < ((x5_2.length : Int) : Int) := od; obtain ⟨go27, co27, eo27, gb27, gl27, cl27, HG27⟩ := Kd.R_form HO_5.out (by omega)
                            (first | cases eo27 | (injection eo27 with ea_ en_ ec_; (first | subst ea_ | (injection ea_ with ea_; subst ea_)); subst ec_; clear en_))
                            have GB27 := m0 gb27; have GG27 := m0 HG27; clear gb27 gl27 HG27
                            (first | simp only [add_plain] at hx445_0 | skip)
                            obtain ⟨hx27_0, hf27_0⟩ := Kd.R_celln 0 HO_5.out ((ji21) : Int) p27 q27; replace p27 := eq_true p27; replace q27 := eq_true q27; obtain ⟨hy33_, hz33_⟩ := Kd.R_celln 0 HO_5.out ((ji21) : Int) (od) (od); have HP33 := Kd.R_putg HO_5.out ((ji21) : Int) (Int.tmod (wrap64 ((wrap64 ((rd x5_2 (ji21)) + (wrap64 ((rd l0_1 x6_1) * (rd l1_1 x8_2))))) + x7_2)) 1000000000)
                            try go_wp2_with (first | ((with_reducible refine gate_store (t := 3) (p := 61) rfl ?_); refine store_event (t := 3) (p := 61) (v := ?vo_w34) (w1 := (w31.setCell ⟨go27, ((ji21) : Int).toNat, none⟩ (.int .i64 (Int.tmod (wrap64 ((wrap64 ((rd x5_2 (ji21)) + (wrap64 ((rd l0_1 x6_1) * (rd l1_1 x8_2))))) + x7_2)) 1000000000)))) ?hg ?ho ?hn ?hr ?_; (case ho => rfl); (case hg => rfl); (case hn => rfl); (case hr => first | (go_simp; done) | (go_simp; rfl)); intro w34 hw; have hg : w31.grownBy w34 (some go27) := (by rw [hw]; exact HP33.2); have hp_ : Kd.R (Kd.int .i64) 3 w34 w.heap.size (fun k_ => (w.heap.size ≤ k_)) (.slice (some ⟨go27, 0, none⟩) x5_2.length co32) y448 := (by rw [hw, Ny448.out]; exact HP33.1); clear HP33; replace BK435 := m0 (blk_grown (g := gb435) (o := .cells #[.int .i64 a0_0, .slice (some ad446) l0_1.length c0_1] 156 (0, 0)) (bk BK435.out) hg (Kd.R_ne HO_5.out BK435.out (by decide))); replace BK436 := m0 (blk_grown (g := gb436) (o := .cells #[.int .i64 a1_0, .slice (some ad447) l1_1.length c1_1] 156 (0, 0)) (bk BK436.out) hg (Kd.R_ne HO_5.out BK436.out (by decide))); replace BK437 := m0 (blk_grown (g := gb437) (o := .cells #[.int .i64 0, .slice none 0 0] 156 (0, 0)) (bk BK437.out) hg (Kd.R_ne HO_5.out BK437.out (by decide))); replace HO_5 := m0 (hp_); replace HB := m0 ((by rw [hw]; exact below_set (HB.out) GB27.out : Below w.heap.size w w34)); clear hg hw hp_))
                            go_roundg k2
                            case measure => have := HK1.out; have := HK2.out; omega
                            case rel => exact ⟨(y448), (wrap64 (Int.tdiv (wrap64 ((wrap64 ((rd x5_2 (ji21)) + (wrap64 ((rd l0_1 x6_1) * (rd l1_1 x8_2))))) + x7_2)) 1000000000)), (wrap64 (x8_2 + 1)), (by first | rfl | (simp; done) | (simp only [← hji21] <;> (first | rfl | simp)) | (simp [*]; done)), rz, H', ⟨by have := HK1.out; have := HK2.out; omega⟩, ⟨br HO_5.out⟩, ⟨bk BK435.out⟩, ⟨bk BK436.out⟩, ⟨bk BK437.out⟩, ⟨bz⟩⟩
                          · rw [if_neg c26] at H; exact absurd H (by simp)
                        · rw [if_neg c25] at H; exact absurd H (by simp)
                      · rw [if_neg c24] at H; exact absurd H (by simp)
                    · rw [if_neg c23] at H; exact absurd H (by simp)
                  · rw [if_neg c22] at H; exact absurd H (by simp)
                · rw [if_neg c20] at H; have c20b0 := decide_eq_false c20; clear c20; obtain ⟨ji35, hji35⟩ : ∃ j_ : Int, (wrap64 (x6_1 + (l1_1.length : Int))) = j_ := ⟨_, rfl⟩; replace H : (if 0 ≤ (ji35) then (if (ji35) < (x5_2.length : Int) then (Bs_WideMul.l0 k2 (x5_2.set ((ji35) : Int).toNat (wrap64 ((rd x5_2 (ji35)) + x7_2))) (wrap64 (x6_1 + 1)) a0_0 l0_1 a1_0 l1_1) else (none)) else (none)) = some (r1, r2) := by first | (rw [hji35] at H; exact H) | (simp only [hji35] at H ⊢; exact H)
                  have hji35w : (IntKind.i64.wrap (x6_1 + (l1_1.length : Int))) = ji35 := (i64_w _).trans hji35
                  by_cases c36 : 0 ≤ (ji35)
                  · rw [if_pos c36] at H; have c36b0 := decide_eq_true c36; clear c36
                    by_cases c37 : (ji35) < (x5_2.length : Int)
                    · rw [if_pos c37] at H; have c37b0 := decide_eq_true c37; clear c37; obtain ⟨y450, hy450⟩ : ∃ y_ : List Int, y_ = (x5_2.set ((ji35) : Int).toNat (wrap64 ((rd x5_2 (ji35)) + x7_2))) := ⟨_, rfl⟩; replace H : (Bs_WideMul.l0 k2 y450 (wrap64 (x6_1 + 1)) a0_0 l0_1 a1_0 l1_1) = some (r1, r2) := by first | (rw [hy450]; with_reducible exact H) | (have H2_ := (Option.bind_some _ _).symm.trans H; rw [hy450]; with_reducible exact H2_) | (have H2_ := (Option.bind_some _ _).symm.trans H; with_reducible exact H2_) | with_reducible exact H | (rw [hy450]; exact H) | exact H
                      have Ny450 := m0 hy450; clear hy450; have H' := m0 H; clear H; have hnb39 := NB436_435.out; have hnc39 := NB435_436.out; have hnb40 := NB436_437.out; have hnc40 := NB437_436.out; obtain ⟨_, _, _, _⟩ := b2 BK436
                      try go_wp2
                      replace HO_5 := m0 (Kd.R_drew HO_5.out); replace BK435 := bd BK435; replace BK436 := bd BK436; replace BK437 := bd BK437; replace HB := sd HB; obtain ⟨Ao43, co43, eo43⟩ := Kd.R_slice HO_5.out; subst eo43; have p449 : 0 ≤ ((ji35) : Int) := od; have q449 : (ji35) < (x5_2.length : Int) := od; obtain ⟨ad449, e449, hx449_0⟩ := Kd.at_int (Kd.R_reads' HO_5.out).2.2 (ji35) p449 q449
                      cases e449
                      replace p449 := eq_true p449; replace q449 := eq_true q449; have p38 : 0 ≤ ((ji35) : Int) := od; have q38 : ((ji35) : Int) < ((x5_2.length : Int) : Int) := od; obtain ⟨go38, co38, eo38, gb38, gl38, cl38, HG38⟩ := Kd.R_form HO_5.out (by omega)
                      (first | cases eo38 | (injection eo38 with ea_ en_ ec_; (first | subst ea_ | (injection ea_ with ea_; subst ea_)); subst ec_; clear en_))
                      have GB38 := m0 gb38; have GG38 := m0 HG38; clear gb38 gl38 HG38
                      (first | simp only [add_plain] at hx449_0 | skip)
                      obtain ⟨hx38_0, hf38_0⟩ := Kd.R_celln 0 HO_5.out ((ji35) : Int) p38 q38; replace p38 := eq_true p38; replace q38 := eq_true q38; have HP44 := Kd.R_putn HO_5.out ((ji35) : Int) (wrap64 ((rd x5_2 (ji35)) + x7_2)); rw [← Ny450.out] at HP44; have HQ44 := m0 HP44; clear HP44; refine start_ (n := 18) (S := fun w' => w'.cell? ⟨gb436, 0, none⟩ = some (.int .i64 a1_0) ∧ w'.cell? ⟨gb436, 1, none⟩ = some (.slice A1_1 l1_1.length c1_1) ∧ w'.cell? ⟨go38, ((ji35)).toNat, none⟩ = some (.int .i64 (rd x5_2 (ji35)))) (ds := [17]) _ (by kernel_rfl) rfl rfl ⟨(blk_cell BK436.out 0).trans rfl, (blk_cell BK436.out 1).trans rfl, hx449_0⟩ (fun hH => ?_); refine with_tabW Bs_WideMul.tab11 Bs_WideMul.bits11 (fun HT_ HW_ => ?_); generalize wr.drew = w42 at HO_5 BK435 BK436 BK437 HB GG38 HQ44 hf38_0 hx38_0 hx449_0 hH ⊢; refine pZ 0 (some 62) (bs 18 1) HT_ ?_; refine pZ 1 (some 63) (bs 18 3) HT_ ?_; refine pZ 2 (some 64) (bs 18 7) HT_ ?_; refine pZ 6 (some 68) (bs 18 71) HT_ ?_; refine pZ 7 (some 69) (bs 18 199) HT_ ?_; refine pZ 8 (some 70) (bs 18 455) HT_ ?_; refine pZ 14 (some 76) (bs 18 16839) HT_ ?_; refine takeZ 3 (some 65) (bs 18 16847) (tw HT_ HW_) hH ?_; refine pZ 4 (some 66) (bs 18 16863) HT_ ?_; refine pZ 5 (some 67) (bs 18 16895) HT_ ?_; refine takeZ 9 (some 71) (bs 18 17407) (tw HT_ HW_) hH ?_; refine pZ 10 (some 72) (bs 18 18431) HT_ ?_; refine pZ 11 (some 73) (bs 18 20479) HT_ ?_; refine pZ 12 (some 74) (bs 18 24575) HT_ ?_; refine takeZ 13 (some 75) (bs 18 32767) (tw HT_ HW_) hH ?_; refine pZ 15 (some 77) (bs 18 65535) HT_ ?_; refine pZ 16 (some 78) (bs 18 131071) HT_ ?_; refine last_ (i := 17) (N := none) (bs 18 262143) rfl rfl (o1 HT_) (by decide) (fun K hK => ?_); refine skip_ (w1 := ?_) (by rfl) rfl ?_ ?_; rotate_left
                      · go_simp
                        rfl
                      refine hK.out _ _ ?_; clear hK K; refine done_ (done_of HT_.out (by kernel_rfl)) ?_
                      try go_wp2
                      go_roundg k2
                      case measure => have := HK1.out; have := HK2.out; omega
                      case rel => exact ⟨(y450), (wrap64 (x6_1 + 1)), rz, H', ⟨by have := HK1.out; have := HK2.out; omega⟩, ⟨br HQ44.out⟩, ⟨by (with_reducible repeat (first | refine blk_drewN ?_ _ | refine blk_drew ?_ | refine blk_alloc ?_ _)); refine blk_far ?_ (by have h_ := Kd.R_ne HO_5.out BK435.out (by decide); intro e_; exact h_ (by rw [e_]; rfl)) _; (with_reducible repeat (first | refine blk_drewN ?_ _ | refine blk_drew ?_ | refine blk_alloc ?_ _)); exact BK435.out⟩, ⟨by (with_reducible repeat (first | refine blk_drewN ?_ _ | refine blk_drew ?_ | refine blk_alloc ?_ _)); refine blk_far ?_ (by have h_ := Kd.R_ne HO_5.out BK436.out (by decide); intro e_; exact h_ (by rw [e_]; rfl)) _; (with_reducible repeat (first | refine blk_drewN ?_ _ | refine blk_drew ?_ | refine blk_alloc ?_ _)); exact BK436.out⟩, ⟨by (with_reducible repeat (first | refine blk_drewN ?_ _ | refine blk_drew ?_ | refine blk_alloc ?_ _)); refine blk_far ?_ (by have h_ := Kd.R_ne HO_5.out BK437.out (by decide); intro e_; exact h_ (by rw [e_]; rfl)) _; (with_reducible repeat (first | refine blk_drewN ?_ _ | refine blk_drew ?_ | refine blk_alloc ?_ _)); exact BK437.out⟩, ⟨by repeat (first | (with_reducible first | exact HB.out | apply below_alloc | apply pw_below_drewN | apply below_drew1 | refine below_set ?_ GB38.out | refine below_set ?_ GE435.out | refine below_set ?_ GE436.out | refine below_set ?_ GE437.out) | exact HB.out)⟩⟩
                    · rw [if_neg c37] at H; exact absurd H (by simp)
                  · rw [if_neg c36] at H; exact absurd H (by simp)
          · rw [if_neg c16] at H; have c16b0 := decide_eq_false c16; clear c16; replace H := oa H; obtain ⟨⟨t441, t442⟩, A45, H⟩ := H; (try dsimp only at H); simp only [Option.some.injEq, Prod.mk.injEq] at H; obtain ⟨rfl, rfl⟩ := H; have hnb46 := NB435_436.out; have hnc46 := NB436_435.out; have hnb47 := NB435_437.out; have hnc47 := NB437_435.out; obtain ⟨_, _, _, _⟩ := b2 BK435; have hnb49 := NB436_437.out; have hnc49 := NB437_436.out; obtain ⟨_, _, _, _⟩ := b2 BK436; obtain ⟨Ao51, co51, eo51⟩ := Kd.R_slice HO_5.out; subst eo51
            go_wp2_with (first | ((with_reducible refine gc 149 rfl ?_); refine gl (some 85) Try.func149 #[.int .i64 (wrap64 (a0_0 * a1_0)), .slice Ao51 x5_1.length co51] ?_; (with_reducible refine (Bs_wideOf.calls k1 (wrap64 (a0_0 * a1_0)) (fun k_ => some k_ = (.slice Ao51 x5_1.length co51 : Value).ownBlock) _ _ x5_1 t441 t442 _ ?side1 A45.out).mono ?_); (case side1 => exact Kd.R_V (Kd.R_tight rfl (Kd.R_types (Kd.R_types (Kd.R_types (HO_5.out) BK435.out (by decide)) BK436.out (by decide)) BK437.out (by decide)))); rintro e w52 ⟨v443, rfl, ho0, hb⟩; refine ⟨_, rfl, ?_⟩; have HO444 := hv w (fun k_ => (w.heap.size ≤ k_) ∧ k_ ≠ gb435 ∧ k_ ≠ gb436 ∧ k_ ≠ gb437) ho0 (fun k_ hk_ => ⟨Or.elim hk_ (fun hs_ => ((Kd.R_types (Kd.R_types (Kd.R_types (HO_5.out) BK435.out (by decide)) BK436.out (by decide)) BK437.out (by decide)).1 k_ hs_.symm).1.1.1) (fun hn_ => (Nat.le_trans (below_size bz) hn_)), Or.elim hk_ (fun hs_ => ((Kd.R_types (Kd.R_types (Kd.R_types (HO_5.out) BK435.out (by decide)) BK436.out (by decide)) BK437.out (by decide)).1 k_ hs_.symm).1.1.2) (fb BK435 ·), Or.elim hk_ (fun hs_ => ((Kd.R_types (Kd.R_types (Kd.R_types (HO_5.out) BK435.out (by decide)) BK436.out (by decide)) BK437.out (by decide)).1 k_ hs_.symm).1.2) (fb BK436 ·), Or.elim hk_ (fun hs_ => ((Kd.R_types (Kd.R_types (Kd.R_types (HO_5.out) BK435.out (by decide)) BK436.out (by decide)) BK437.out (by decide)).1 k_ hs_.symm).2) (fb BK437 ·)⟩); replace HO_5 := rb HO_5 hb; replace BK435 := bb BK435 hb; replace BK436 := bb BK436 hb; replace BK437 := bb BK437 hb; replace HB := sb HB hb; (try clear hb); (try clear ho0); obtain ⟨_, _, _, _⟩ := b2 BK437; obtain ⟨Ao54, co54, eo54⟩ := Kd.V_slice HO444.out; subst eo54))
            refine bodyPost_ret (results_cell_row rfl _ _ gb437 156 #[.int .i64 t441, .slice Ao54 t442.length co54] (0, 0) _ rfl (bq BK437.out) Try.underlying156 rfl (by kernel_rfl)) rfl ?_; exact ⟨_, by first | rfl | (simp [errW_none, errW_some] <;> rfl) | (simp only [← hji3]; first | rfl | (simp [errW_none, errW_some] <;> rfl)) | (simp [*, errW_none, errW_some] <;> rfl), by (with_reducible repeat (first | apply Kd.V_alloc | apply Kd.V_drewN | apply Kd.V_drew)); exact Kd.V_mono (vf (vf (vn gb437 HO444.out (·.2.2.2)) (·.2)) (·.2)) (fun _ hk => hk.1.1), by repeat (first | (with_reducible first | exact HB.out | apply below_alloc | apply pw_below_drewN | apply below_drew1 | refine below_set ?_ GE435.out | refine below_set ?_ GE436.out | refine below_set ?_ GE437.out) | exact HB.out)⟩
    · rw [if_neg c5] at H; exact absurd H (by simp)
  · rw [if_neg c4] at H; exact absurd H (by simp)
end
section
def Bs_cmpDigits.l0 : Nat → List Int → List Int → Int → Option (Int)
 | 0, _, _, _ => none
 | k + 1, x0, x1, x5 => if x5 ≥ 0 then (if 0 ≤ x5 then (if x5 < (x0.length : Int) then (if x5 < (x1.length : Int) then (if (rd x0 x5) < (rd x1 x5) then (some (-1)) else (if (rd x0 x5) > (rd x1 x5) then (some 1) else (Bs_cmpDigits.l0 k x0 x1 (wrap64 (x5 - 1))))) else (none)) else (none)) else (none)) else (some 0)
def Bs_cmpDigits.f (k : Nat) (l0 : List Int) (l1 : List Int) : Option (Int) := if (l0.length : Int) = (l1.length : Int) then (Bs_cmpDigits.l0 k l0 l1 (wrap64 ((l0.length : Int) - 1))) else (if (l0.length : Int) < (l1.length : Int) then (some (-1)) else (some 1))
theorem Bs_cmpDigits.mono_l : ∀ k, (∀ y0 y1 y2, LeO (Bs_cmpDigits.l0 k y0 y1 y2) (Bs_cmpDigits.l0 (k + 1) y0 y1 y2))
 | 0 => fun _ _ _ r h => by simp [Bs_cmpDigits.l0] at h
 | k + 1 => by
  have ih0 := Bs_cmpDigits.mono_l k
  ·intro y0 y1 y2; unfold Bs_cmpDigits.l0
   repeat' with_reducible first
    | exact ih0 ..
    | exact LeO.refl ..
    | exact LeO.none ..
    | refine LeO.ite ?_ ?_
    | refine LeO.bind ?_ (fun _ => ?_)
theorem Bs_cmpDigits.mono : ∀ a0 a1 k, LeO (Bs_cmpDigits.f k a0 a1) (Bs_cmpDigits.f (k + 1) a0 a1) := by
 intro a0 a1 k; have ih0 := Bs_cmpDigits.mono_l k; unfold Bs_cmpDigits.f
 repeat' with_reducible first
  | exact ih0 ..
  | exact LeO.refl ..
  | exact LeO.none ..
  | refine LeO.ite ?_ ?_
  | refine LeO.bind ?_ (fun _ => ?_)
theorem Bs_cmpDigits.calls (k : Nat) (A0 : Option Addr) (c0 : Nat) (l0 : List Int) (A1 : Option Addr) (c1 : Nat) (l1 : List Int) (r : Int) (w : World) (hr0 : Kd.C (Kd.int .i64) w A0 l0.length l0) (hc0 : l0.length ≤ c0) (hr1 : Kd.C (Kd.int .i64) w A1 l1.length l1) (hc1 : l1.length ≤ c1) (H : Bs_cmpDigits.f k l0 l1 = some r) :
  Calls Try.prog 156 #[.slice A0 l0.length c0, .slice A1 l1.length c1] w fun e w' => e = .returned (.int .i64 r) ∧ Drawn0 w w' := by
 have HR0 := m0 hr0; have HC0 := m0 hc0; clear hr0 hc0; have HR1 := m0 hr1; have HC1 := m0 hc1; clear hr1 hc1; unfold Bs_cmpDigits.f at H
 by_cases c3 : (l0.length : Int) = (l1.length : Int)
 ·rw [if_pos c3] at H; have c3b0 := beq_iff_eq.mpr c3; have c3b1 := bne_eq_false_iff_eq.mpr c3; have c3b2 : (l0.length == l1.length) = true := by first | simpa using c3 | (simp at c3 ⊢; omega)
  clear c3; have H' := m0 H; clear H; go_enter Try.func156, Try.ntmps156
  go_wp2
  repeat (go_quiet (fail); try go_wp2)
  go_loopg [5] k (fun kq v5 w' => ∃ (x5_1 : Int), v5 = .int .i64 x5_1 ∧ Aside0 (Bs_cmpDigits.l0 kq l0 l1 x5_1 = some r) ∧ Aside0 (kq ≤ k) ∧ Drawn0 w w')
  case atStart => exact ⟨(wrap64 ((l0.length : Int) - 1)), rz, H', ⟨Nat.le_refl _⟩, by repeat (first | exact Drawn0.refl _ | apply Drawn0.step)⟩
  case round =>
   clear H'; obtain ⟨x5_1, rfl, HA, HK1, ⟨m1, rfl⟩⟩ := hrel
   cases gk with
   | zero => exact absurd HA.out (by simp [Bs_cmpDigits.l0])
   | succ k1 =>
    have H := HA.out; clear HA; simp only [Bs_cmpDigits.l0] at H
    by_cases c4 : x5_1 ≥ 0
    ·rw [if_pos c4] at H; have c4b0 := decide_eq_true c4; clear c4
     by_cases c5 : 0 ≤ x5_1
     ·rw [if_pos c5] at H; have c5b0 := decide_eq_true c5; clear c5
      by_cases c6 : x5_1 < (l0.length : Int)
      ·rw [if_pos c6] at H; have c6b0 := decide_eq_true c6; clear c6
       by_cases c7 : x5_1 < (l1.length : Int)
       ·rw [if_pos c7] at H; have c7b0 := decide_eq_true c7; clear c7
        by_cases c8 : (rd l0 x5_1) < (rd l1 x5_1)
        ·rw [if_pos c8] at H; have c8b0 := decide_eq_true c8; clear c8; obtain rfl := Option.some.inj H; have p451 : 0 ≤ (x5_1 : Int) := od; have q451 : x5_1 < (l0.length : Int) := od; obtain ⟨ad451, e451, hx451_0⟩ := Kd.at_int HR0.out x5_1 p451 q451
         cases e451
         replace p451 := eq_true p451; replace q451 := eq_true q451; have p452 : 0 ≤ (x5_1 : Int) := od; have q452 : x5_1 < (l1.length : Int) := od; obtain ⟨ad452, e452, hx452_0⟩ := Kd.at_int HR1.out x5_1 p452 q452
         cases e452
         replace p452 := eq_true p452; replace q452 := eq_true q452
         go_wp2
         repeat (go_quiet (fail); try go_wp2)
         go_ret
         exact ⟨rz, by repeat (first | exact Drawn0.refl _ | apply Drawn0.step)⟩
        ·rw [if_neg c8] at H; have c8b0 := decide_eq_false c8; clear c8
         by_cases c9 : (rd l0 x5_1) > (rd l1 x5_1)
         ·rw [if_pos c9] at H; have c9b0 := decide_eq_true c9; clear c9; obtain rfl := Option.some.inj H; have p451 : 0 ≤ (x5_1 : Int) := od; have q451 : x5_1 < (l0.length : Int) := od; obtain ⟨ad451, e451, hx451_0⟩ := Kd.at_int HR0.out x5_1 p451 q451
          cases e451
          replace p451 := eq_true p451; replace q451 := eq_true q451; have p452 : 0 ≤ (x5_1 : Int) := od; have q452 : x5_1 < (l1.length : Int) := od; obtain ⟨ad452, e452, hx452_0⟩ := Kd.at_int HR1.out x5_1 p452 q452
          cases e452
          replace p452 := eq_true p452; replace q452 := eq_true q452; have p453 : 0 ≤ (x5_1 : Int) := od; have q453 : x5_1 < (l0.length : Int) := od; obtain ⟨ad453, e453, hx453_0⟩ := Kd.at_int HR0.out x5_1 p453 q453; obtain rfl : ad451 = ad453 := (by injection e453); replace p453 := eq_true p453; replace q453 := eq_true q453; have p454 : 0 ≤ (x5_1 : Int) := od; have q454 : x5_1 < (l1.length : Int) := od; obtain ⟨ad454, e454, hx454_0⟩ := Kd.at_int HR1.out x5_1 p454 q454; obtain rfl : ad452 = ad454 := (by injection e454); replace p454 := eq_true p454; replace q454 := eq_true q454
          go_wp2
          repeat (go_quiet (fail); try go_wp2)
          go_ret
          exact ⟨rz, by repeat (first | exact Drawn0.refl _ | apply Drawn0.step)⟩
         ·rw [if_neg c9] at H; have c9b0 := decide_eq_false c9; clear c9; have H' := m0 H; clear H; have p451 : 0 ≤ (x5_1 : Int) := od; have q451 : x5_1 < (l0.length : Int) := od; obtain ⟨ad451, e451, hx451_0⟩ := Kd.at_int HR0.out x5_1 p451 q451
          cases e451
          replace p451 := eq_true p451; replace q451 := eq_true q451; have p452 : 0 ≤ (x5_1 : Int) := od; have q452 : x5_1 < (l1.length : Int) := od; obtain ⟨ad452, e452, hx452_0⟩ := Kd.at_int HR1.out x5_1 p452 q452
          cases e452
          replace p452 := eq_true p452; replace q452 := eq_true q452; have p453 : 0 ≤ (x5_1 : Int) := od; have q453 : x5_1 < (l0.length : Int) := od; obtain ⟨ad453, e453, hx453_0⟩ := Kd.at_int HR0.out x5_1 p453 q453; obtain rfl : ad451 = ad453 := (by injection e453); replace p453 := eq_true p453; replace q453 := eq_true q453; have p454 : 0 ≤ (x5_1 : Int) := od; have q454 : x5_1 < (l1.length : Int) := od; obtain ⟨ad454, e454, hx454_0⟩ := Kd.at_int HR1.out x5_1 p454 q454; obtain rfl : ad452 = ad454 := (by injection e454); replace p454 := eq_true p454; replace q454 := eq_true q454
          go_wp2
          repeat (go_quiet (fail); try go_wp2)
          go_roundg k1
          case measure => have := HK1.out; omega
          case rel => exact ⟨(wrap64 (x5_1 - 1)), rz, H', ⟨by have := HK1.out; omega⟩, by repeat (first | exact Drawn0.refl _ | apply Drawn0.step)⟩
       ·rw [if_neg c7] at H; exact absurd H (by simp)
      ·rw [if_neg c6] at H; exact absurd H (by simp)
     ·rw [if_neg c5] at H; exact absurd H (by simp)
    ·rw [if_neg c4] at H; have c4b0 := decide_eq_false c4; clear c4; obtain rfl := Option.some.inj H
     go_wp2
     repeat (go_quiet (fail); try go_wp2)
     go_ret
     exact ⟨rz, by repeat (first | exact Drawn0.refl _ | apply Drawn0.step)⟩
 ·rw [if_neg c3] at H; have c3b0 := beq_eq_false_iff_ne.mpr c3; have c3b1 := bne_iff_ne.mpr c3; have c3b2 : (l0.length == l1.length) = false := by first | simpa using c3 | (simp at c3 ⊢; omega)
  by_cases c10 : (l0.length : Int) < (l1.length : Int)
  ·rw [if_pos c10] at H; have c10b0 := decide_eq_true c10; have c10b1 : decide (l0.length < l1.length) = true := decide_eq_true (Int.ofNat_lt.mp c10); clear c10; obtain rfl := Option.some.inj H; go_enter Try.func156, Try.ntmps156
   go_wp2
   repeat (go_quiet (fail); try go_wp2)
   go_ret
   exact ⟨rz, by repeat (first | exact Drawn0.refl _ | apply Drawn0.step)⟩
  ·rw [if_neg c10] at H; have c10b0 := decide_eq_false c10; have c10b1 : decide (l0.length < l1.length) = false := decide_eq_false (fun h => c10 (Int.ofNat_lt.mpr h)); clear c10; obtain rfl := Option.some.inj H; go_enter Try.func156, Try.ntmps156
   go_wp2
   repeat (go_quiet (fail); try go_wp2)
   go_ret
   exact ⟨rz, by repeat (first | exact Drawn0.refl _ | apply Drawn0.step)⟩
end
end Go.Proofs.Ytibhfahbabgbaaa.A
