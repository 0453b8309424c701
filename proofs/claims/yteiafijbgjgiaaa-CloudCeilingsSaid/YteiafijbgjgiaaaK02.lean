/- Walks of the program's functions (printed, made shorter), each with what it computes. -/
import Derived.Test.YteiafijbgjgiaaaB10
import Derived.Test.YteiafijbgjgiaaaB11
import Derived.Test.YteiafijbgjgiaaaB15
import Derived.Test.YteiafijbgjgiaaaK01
namespace Go.Proofs.Yteiafijbgjgiaaa.A
set_option maxHeartbeats 8000000
set_option maxRecDepth 100000
open Go.RowKit Go.Proofs.YteiafijbgjgiaaaW.PrintWords Go.Proofs.YteiafijbgjgiaaaW.PrintLast Go.Proofs.YteiafijbgjgiaaaW.PrintMore
attribute [local go_sem] max2_int min2_int max_two min_two max_three min_three max_four min_four
set_option linter.unusedVariables false
set_option linter.unusedSimpArgs false
mutual
def Lw_CloudCeilings.j0 : Nat → List (S112) → Int → List Int → Bool → Option (Bool)
  | 0, _, _, _, _ => none
  | k + 1, x0, x1, x2, x27 => if x27 = true then (some true) else ((Rf_CopyLayers.f x0).bind fun t546 => ((L_CheckLayers.f k t546).bind fun bt549 => ((Rf_CopyLayers.f x0).bind fun t551 => ((L_CeilingOf.f k t551 x1).bind fun bt554 => ((Bs_CopyInts.f x2).bind fun t556 => ((L_MiddleOf.f k t556).bind fun bt559 => ((Rf_CheckLayers.f k x0).bind fun bt561 => (if bt549.2 = bt561.2 then (Lw_CloudCeilings.j1 k x0 x1 x2 bt554.1 bt554.2 bt559.1 bt559.2 bt561.2 (bt549.1 != bt561.1)) else (Lw_CloudCeilings.j1 k x0 x1 x2 bt554.1 bt554.2 bt559.1 bt559.2 bt561.2 true)))))))))
def Lw_CloudCeilings.j1 : Nat → List (S112) → Int → List Int → Int → Int → Int → Int → Int → Bool → Option (Bool)
  | 0, _, _, _, _, _, _, _, _, _ => none
  | k + 1, x0, x1, x2, x9, x10, x11, x12, x14, x59 => if x59 = true then (some false) else ((Rf_HeightsErr.f k x2).bind fun t563 => (if t563 = 0 then (if x12 = 0 then ((Rf_Middle.f k x2).bind fun t564 => (Lw_CloudCeilings.j2 k x0 x1 x9 x10 x14 (x11 != t564))) else (Lw_CloudCeilings.j2 k x0 x1 x9 x10 x14 true)) else (if x12 = t563 then (if x11 = 0 then (Lw_CloudCeilings.j2 k x0 x1 x9 x10 x14 false) else (Lw_CloudCeilings.j2 k x0 x1 x9 x10 x14 true)) else (Lw_CloudCeilings.j2 k x0 x1 x9 x10 x14 true))))
def Lw_CloudCeilings.j2 : Nat → List (S112) → Int → Int → Int → Int → Bool → Option (Bool)
  | 0, _, _, _, _, _, _ => none
  | k + 1, x0, x1, x9, x10, x14, x86 => if x86 = true then (some false) else (if x14 = 0 then ((Bs_Within.f x1 1 8).bind fun t565 => (Lw_CloudCeilings.j3 k x0 x1 x9 x10 x14 (!t565))) else (Lw_CloudCeilings.j3 k x0 x1 x9 x10 x14 false))
def Lw_CloudCeilings.j3 : Nat → List (S112) → Int → Int → Int → Int → Bool → Option (Bool)
  | 0, _, _, _, _, _, _ => none
  | k + 1, x0, x1, x9, x10, x14, x93 => if x93 = true then (Lw_CloudCeilings.j4 k x0 x1 x9 x10 2) else (Lw_CloudCeilings.j4 k x0 x1 x9 x10 x14)
def Lw_CloudCeilings.j4 : Nat → List (S112) → Int → Int → Int → Int → Option (Bool)
  | 0, _, _, _, _, _ => none
  | k + 1, x0, x1, x9, x10, x14 => if x14 = 0 then ((Rf_Ceiling.f k x0 x1).bind fun bt566 => (if bt566.2 = true then (if x10 = 0 then (some (x9 == bt566.1)) else (some false)) else (if x10 = 12 then (some (x9 == 0)) else (some false)))) else (if x10 = x14 then (some (x9 == 0)) else (some false))
end
def Lw_CloudCeilings.f (k : Nat) (l0 : List (S112)) (a1 : Int) (l2 : List Int) : Option (Bool) := (Lw_awake.f k).bind fun t545 => (if t545 = true then (if (l0.length : Int) > 12 then (Lw_CloudCeilings.j0 k l0 a1 l2 true) else (Lw_CloudCeilings.j0 k l0 a1 l2 (decide ((l2.length : Int) > 17)))) else (some false))
theorem Lw_CloudCeilings.mono_l : ∀ k, (∀ y0 y1 y2 y3, LeO (Lw_CloudCeilings.j0 k y0 y1 y2 y3) (Lw_CloudCeilings.j0 (k + 1) y0 y1 y2 y3)) ∧ (∀ y0 y1 y2 y3 y4 y5 y6 y7 y8, LeO (Lw_CloudCeilings.j1 k y0 y1 y2 y3 y4 y5 y6 y7 y8) (Lw_CloudCeilings.j1 (k + 1) y0 y1 y2 y3 y4 y5 y6 y7 y8)) ∧ (∀ y0 y1 y2 y3 y4 y5, LeO (Lw_CloudCeilings.j2 k y0 y1 y2 y3 y4 y5) (Lw_CloudCeilings.j2 (k + 1) y0 y1 y2 y3 y4 y5)) ∧ (∀ y0 y1 y2 y3 y4 y5, LeO (Lw_CloudCeilings.j3 k y0 y1 y2 y3 y4 y5) (Lw_CloudCeilings.j3 (k + 1) y0 y1 y2 y3 y4 y5)) ∧ (∀ y0 y1 y2 y3 y4, LeO (Lw_CloudCeilings.j4 k y0 y1 y2 y3 y4) (Lw_CloudCeilings.j4 (k + 1) y0 y1 y2 y3 y4))
  | 0 => ⟨fun _ _ _ _ r h => by simp [Lw_CloudCeilings.j0] at h, fun _ _ _ _ _ _ _ _ _ r h => by simp [Lw_CloudCeilings.j1] at h, fun _ _ _ _ _ _ r h => by simp [Lw_CloudCeilings.j2] at h, fun _ _ _ _ _ _ r h => by simp [Lw_CloudCeilings.j3] at h, fun _ _ _ _ _ r h => by simp [Lw_CloudCeilings.j4] at h⟩
  | k + 1 => by
    obtain ⟨ih0, ih1, ih2, ih3, ih4⟩ := Lw_CloudCeilings.mono_l k; refine ⟨?_, ?_, ?_, ?_, ?_⟩
    · intro y0 y1 y2 y3; unfold Lw_CloudCeilings.j0
      repeat' with_reducible first
        | exact ih0 ..
        | exact ih1 ..
        | exact ih2 ..
        | exact ih3 ..
        | exact ih4 ..
        | exact L_CeilingOf.mono ..
        | exact L_CheckLayers.mono ..
        | exact L_MiddleOf.mono ..
        | exact Lw_awake.mono ..
        | exact Rf_Ceiling.mono ..
        | exact Rf_CheckLayers.mono ..
        | exact Rf_HeightsErr.mono ..
        | exact Rf_Middle.mono ..
        | exact LeO.refl ..
        | exact LeO.none ..
        | refine LeO.ite ?_ ?_
        | refine LeO.bind ?_ (fun _ => ?_)
    · intro y0 y1 y2 y3 y4 y5 y6 y7 y8; unfold Lw_CloudCeilings.j1
      repeat' with_reducible first
        | exact ih0 ..
        | exact ih1 ..
        | exact ih2 ..
        | exact ih3 ..
        | exact ih4 ..
        | exact L_CeilingOf.mono ..
        | exact L_CheckLayers.mono ..
        | exact L_MiddleOf.mono ..
        | exact Lw_awake.mono ..
        | exact Rf_Ceiling.mono ..
        | exact Rf_CheckLayers.mono ..
        | exact Rf_HeightsErr.mono ..
        | exact Rf_Middle.mono ..
        | exact LeO.refl ..
        | exact LeO.none ..
        | refine LeO.ite ?_ ?_
        | refine LeO.bind ?_ (fun _ => ?_)
    · intro y0 y1 y2 y3 y4 y5; unfold Lw_CloudCeilings.j2
      repeat' with_reducible first
        | exact ih0 ..
        | exact ih1 ..
        | exact ih2 ..
        | exact ih3 ..
        | exact ih4 ..
        | exact L_CeilingOf.mono ..
        | exact L_CheckLayers.mono ..
        | exact L_MiddleOf.mono ..
        | exact Lw_awake.mono ..
        | exact Rf_Ceiling.mono ..
        | exact Rf_CheckLayers.mono ..
        | exact Rf_HeightsErr.mono ..
        | exact Rf_Middle.mono ..
        | exact LeO.refl ..
        | exact LeO.none ..
        | refine LeO.ite ?_ ?_
        | refine LeO.bind ?_ (fun _ => ?_)
    · intro y0 y1 y2 y3 y4 y5; unfold Lw_CloudCeilings.j3
      repeat' with_reducible first
        | exact ih0 ..
        | exact ih1 ..
        | exact ih2 ..
        | exact ih3 ..
        | exact ih4 ..
        | exact L_CeilingOf.mono ..
        | exact L_CheckLayers.mono ..
        | exact L_MiddleOf.mono ..
        | exact Lw_awake.mono ..
        | exact Rf_Ceiling.mono ..
        | exact Rf_CheckLayers.mono ..
        | exact Rf_HeightsErr.mono ..
        | exact Rf_Middle.mono ..
        | exact LeO.refl ..
        | exact LeO.none ..
        | refine LeO.ite ?_ ?_
        | refine LeO.bind ?_ (fun _ => ?_)
    · intro y0 y1 y2 y3 y4; unfold Lw_CloudCeilings.j4
      repeat' with_reducible first
        | exact ih0 ..
        | exact ih1 ..
        | exact ih2 ..
        | exact ih3 ..
        | exact ih4 ..
        | exact L_CeilingOf.mono ..
        | exact L_CheckLayers.mono ..
        | exact L_MiddleOf.mono ..
        | exact Lw_awake.mono ..
        | exact Rf_Ceiling.mono ..
        | exact Rf_CheckLayers.mono ..
        | exact Rf_HeightsErr.mono ..
        | exact Rf_Middle.mono ..
        | exact LeO.refl ..
        | exact LeO.none ..
        | refine LeO.ite ?_ ?_
        | refine LeO.bind ?_ (fun _ => ?_)
theorem Lw_CloudCeilings.mono : ∀ a0 a1 a2 k, LeO (Lw_CloudCeilings.f k a0 a1 a2) (Lw_CloudCeilings.f (k + 1) a0 a1 a2) := by
  intro a0 a1 a2 k; obtain ⟨ih0, ih1, ih2, ih3, ih4⟩ := Lw_CloudCeilings.mono_l k; unfold Lw_CloudCeilings.f
  repeat' with_reducible first
    | exact ih0 ..
    | exact ih1 ..
    | exact ih2 ..
    | exact ih3 ..
    | exact ih4 ..
    | exact L_CeilingOf.mono ..
    | exact L_CheckLayers.mono ..
    | exact L_MiddleOf.mono ..
    | exact Lw_awake.mono ..
    | exact Rf_Ceiling.mono ..
    | exact Rf_CheckLayers.mono ..
    | exact Rf_HeightsErr.mono ..
    | exact Rf_Middle.mono ..
    | exact LeO.refl ..
    | exact LeO.none ..
    | refine LeO.ite ?_ ?_
    | refine LeO.bind ?_ (fun _ => ?_)
theorem Lw_CloudCeilings.calls (k : Nat) (A0 : Option Addr) (c0 : Nat) (l0 : List (S112)) (a1 : Int) (A2 : Option Addr) (c2 : Nat) (l2 : List Int) (r : Bool) (w : World) (hr0 : Kd.C k112 w A0 l0.length l0) (hc0 : l0.length ≤ c0) (hr2 : Kd.C (Kd.int .i64) w A2 l2.length l2) (hc2 : l2.length ≤ c2) (H : Lw_CloudCeilings.f k l0 a1 l2 = some r) :
    Calls Try.prog 4 #[.slice A0 l0.length c0, .int .i64 a1, .slice A2 l2.length c2] w fun e w' => e = .returned (.bool r) ∧ Below w.heap.size w w' := by
  have HR0 := m0 hr0; have HC0 := m0 hc0; clear hr0 hc0; have HR2 := m0 hr2; have HC2 := m0 hc2; clear hr2 hc2; have HB := m0 (Below.refl w.heap.size w); unfold Lw_CloudCeilings.f at H; replace H := oa H; obtain ⟨t545, A4, H⟩ := H; (try dsimp only at H)
  by_cases c5 : t545 = true
  · subst c5; rw [if_pos rfl] at H; have HC6 := m0 H; clear H; go_enter Try.func4, Try.ntmps4
    go_upto_region 3 with (first | ((with_reducible refine gc 11 rfl ?_); refine gl (some 18) Try.func11 #[] ?_; (with_reducible refine (Lw_awake.calls k  true _ A4.out).mono ?_); rintro e w7 ⟨rfl, hb⟩; refine ⟨_, rfl, ?_⟩; replace HB := sb HB hb; (try clear hb)))
    (try simp only [Act.put, List.setIfInBounds_toArray, List.set_cons_zero, List.set_cons_succ])
    go_cut [27] (fun v27 wc => ∃ (kq : Nat) (x27_5 : Bool), v27 = .bool x27_5 ∧ Aside0 (Lw_CloudCeilings.j0 kq l0 a1 l2 x27_5 = some r) ∧ Aside0 (kq ≤ k) ∧ Aside0 (Below w.heap.size w wc))
    case first =>
      have H := HC6.out; clear HC6
      by_cases c8 : (l0.length : Int) > 12
      · rw [if_pos c8] at H; have c8b0 := decide_eq_true c8; have c8b1 : decide (12 < l0.length) = true := decide_eq_true (by omega); clear c8
        (first | rw [c8b0] | (simp only [i64_w, i32_w]; rw [c8b0]) | skip)
        have H' := m0 H; clear H
        go_wp2
        go_meet
        case rel => exact ⟨_, (true), rz, H', ⟨by first | omega | exact Nat.le_refl _⟩, ⟨bz⟩⟩
      · rw [if_neg c8] at H; have c8b0 := decide_eq_false c8; have c8b1 : decide (12 < l0.length) = false := decide_eq_false (by omega); clear c8
        (first | rw [c8b0] | (simp only [i64_w, i32_w]; rw [c8b0]) | skip)
        have H' := m0 H; clear H
        go_wp2
        go_meet
        case rel => exact ⟨_, (decide ((l2.length : Int) > 17)), rz, H', ⟨by first | omega | exact Nat.le_refl _⟩, ⟨bz⟩⟩
    case rest =>
      clear HC6; obtain ⟨kq, x27_5, rfl, HA, HJ5, HB⟩ := hcut
      cases kq with
      | zero => exact absurd HA.out (by simp [Lw_CloudCeilings.j0])
      | succ kj5 =>
        have H := HA.out; clear HA; simp only [Lw_CloudCeilings.j0] at H
        by_cases c9 : x27_5 = true
        · subst c9; rw [if_pos rfl] at H; obtain rfl := Option.some.inj H
          go_wp2
          go_ret
          exact ez
        · replace c9 := Bool.eq_false_iff.mpr c9; subst c9; rw [if_neg (show ¬ (false = true) by decide)] at H; replace H := oa H; obtain ⟨t546, A10, H⟩ := H; (try dsimp only at H); replace H := oa H; obtain ⟨⟨t549, t550⟩, A11, H⟩ := H; (try dsimp only at H); replace H := oa H; obtain ⟨t551, A12, H⟩ := H; (try dsimp only at H); replace H := oa H; obtain ⟨⟨t554, t555⟩, A13, H⟩ := H; (try dsimp only at H); replace H := oa H; obtain ⟨t556, A14, H⟩ := H; (try dsimp only at H); replace H := oa H; obtain ⟨⟨t559, t560⟩, A15, H⟩ := H; (try dsimp only at H); replace H := oa H; obtain ⟨⟨t561, t562⟩, A16, H⟩ := H; (try dsimp only at H); have HC17 := m0 H; clear H
          go_upto_region 9 with (first | ((with_reducible refine gc 23 rfl ?_); refine gl (some 30) Try.func23 #[.slice A0 l0.length c0] ?_; (with_reducible refine (Rf_CopyLayers.calls _ _ l0 t546 _ ?side1 ?side2 A10.out).mono ?_); (case side1 => exact cb HR0 HB); (case side2 => exact HC0.out); rintro e w18 ⟨v547, rfl, ho0, hb⟩; refine ⟨_, rfl, ?_⟩; have HO548 := m0 (Kd.R_lower ho0 (below_size bz)); replace HB := sb HB hb; (try clear hb); (try clear ho0); obtain ⟨Ao19, co19, eo19⟩ := Kd.R_slice HO548.out; subst eo19) | ((with_reducible refine gc 22 rfl ?_); refine gl (some 31) Try.func22 #[.slice Ao19 t546.length co19] ?_; (with_reducible refine (L_CheckLayers.calls kj5 _ _ t546 t549 t550 _ ?side1 ?side2 A11.out).mono ?_); (case side1 => exact bc (Kd.R_reads' HO548.out).2.2); (case side2 => exact (Kd.R_reads' HO548.out).2.1); rintro e w20 ⟨rfl, hb⟩; refine ⟨_, rfl, ?_⟩; replace HO548 := rb HO548 hb; replace HB := sb HB hb; (try clear hb)) | ((with_reducible refine gc 23 rfl ?_); refine gl (some 36) Try.func23 #[.slice A0 l0.length c0] ?_; (with_reducible refine (Rf_CopyLayers.calls _ _ l0 t551 _ ?side1 ?side2 A12.out).mono ?_); (case side1 => exact cb HR0 HB); (case side2 => exact HC0.out); rintro e w21 ⟨v552, rfl, ho0, hb⟩; refine ⟨_, rfl, ?_⟩; have HO553 := m0 (Kd.R_lower (Kd.R_new' ho0 (Kd.R_lt (br HO548.out))) (below_size bz)); replace HO548 := m0 (Kd.R_elder' (br HO548.out) (Kd.R_base ho0) hb); replace HB := sb HB hb; (try clear hb); (try clear ho0); obtain ⟨Ao22, co22, eo22⟩ := Kd.R_slice HO553.out; subst eo22) | ((with_reducible refine gc 24 rfl ?_); refine gl (some 38) Try.func24 #[.slice Ao22 t551.length co22, .int .i64 a1] ?_; (with_reducible refine (L_CeilingOf.calls kj5 _ _ t551 a1 t554 t555 _ ?side1 ?side2 A13.out).mono ?_); (case side1 => exact bc (Kd.R_reads' HO553.out).2.2); (case side2 => exact (Kd.R_reads' HO553.out).2.1); rintro e w23 ⟨rfl, hb⟩; refine ⟨_, rfl, ?_⟩; replace HO548 := rb HO548 hb; replace HO553 := rb HO553 hb; replace HB := sb HB hb; (try clear hb)) | ((with_reducible refine gc 26 rfl ?_); refine gl (some 43) Try.func26 #[.slice A2 l2.length c2] ?_; (with_reducible refine (Bs_CopyInts.calls _ _ l2 t556 _ ?side1 ?side2 A14.out).mono ?_); (case side1 => exact cb HR2 HB); (case side2 => exact HC2.out); rintro e w24 ⟨v557, rfl, ho0, hb⟩; refine ⟨_, rfl, ?_⟩; replace HO548 := rb HO548 hb; replace HO553 := rb HO553 hb; have HO558 := m0 (Kd.R_lower ho0 (below_size bz)); replace HB := sb HB hb; (try clear hb); (try clear ho0); obtain ⟨Ao25, co25, eo25⟩ := Kd.R_slice HO558.out; subst eo25) | ((with_reducible refine gc 25 rfl ?_); refine gl (some 44) Try.func25 #[.slice Ao25 t556.length co25] ?_; (with_reducible refine (L_MiddleOf.calls kj5 _ _ t556 t559 t560 _ ?side1 ?side2 A15.out).mono ?_); (case side1 => exact bc (Kd.R_reads' HO558.out).2.2); (case side2 => exact (Kd.R_reads' HO558.out).2.1); rintro e w26 ⟨rfl, hb⟩; refine ⟨_, rfl, ?_⟩; replace HO548 := rb HO548 hb; replace HO553 := rb HO553 hb; replace HO558 := rb HO558 hb; replace HB := sb HB hb; (try clear hb)) | ((with_reducible refine gc 27 rfl ?_); refine gl (some 49) Try.func27 #[.slice A0 l0.length c0] ?_; (with_reducible refine (Rf_CheckLayers.calls kj5 _ _ l0 t561 t562 _ ?side1 ?side2 A16.out).mono ?_); (case side1 => exact cb HR0 HB); (case side2 => exact HC0.out); rintro e w' ⟨rfl, ⟨nd, rfl⟩⟩; refine ⟨_, rfl, ?_⟩))
          (try simp only [Act.put, List.setIfInBounds_toArray, List.set_cons_zero, List.set_cons_succ])
          go_cut [59] (fun v59 wc => ∃ (kq : Nat) (x59_16 : Bool), v59 = .bool x59_16 ∧ Aside0 (Lw_CloudCeilings.j1 kq l0 a1 l2 t554 t555 t559 t560 t562 x59_16 = some r) ∧ Aside0 (kq ≤ kj5) ∧ Aside0 (Below w.heap.size w wc))
          case first =>
            have H := HC17.out; clear HC17
            by_cases c27 : t550 = t562
            · rw [if_pos c27] at H; have c27b0 := beq_iff_eq.mpr c27; have c27b1 := bne_eq_false_iff_eq.mpr c27; clear c27
              (first | rw [c27b0] | (simp only [i64_w, i32_w]; rw [c27b0]) | skip)
              have H' := m0 H; clear H
              go_wp2
              go_meet
              case rel => exact ⟨_, ((t549 != t561)), rz, H', ⟨by have := HJ5.out; first | omega | exact Nat.le_refl _⟩, ⟨bz⟩⟩
            · rw [if_neg c27] at H; have c27b0 := beq_eq_false_iff_ne.mpr c27; have c27b1 := bne_iff_ne.mpr c27
              (first | rw [c27b0] | (simp only [i64_w, i32_w]; rw [c27b0]) | skip)
              have H' := m0 H; clear H
              go_wp2
              go_meet
              case rel => exact ⟨_, (true), rz, H', ⟨by have := HJ5.out; first | omega | exact Nat.le_refl _⟩, ⟨bz⟩⟩
          case rest =>
            clear HC17; obtain ⟨kq, x59_16, rfl, HA, HJ16, HB⟩ := hcut
            cases kq with
            | zero => exact absurd HA.out (by simp [Lw_CloudCeilings.j1])
            | succ kj16 =>
              have H := HA.out; clear HA; simp only [Lw_CloudCeilings.j1] at H
              by_cases c28 : x59_16 = true
              · subst c28; rw [if_pos rfl] at H; obtain rfl := Option.some.inj H
                go_wp2
                go_ret
                exact ez
              · replace c28 := Bool.eq_false_iff.mpr c28; subst c28; rw [if_neg (show ¬ (false = true) by decide)] at H; replace H := oa H; obtain ⟨t563, A29, H⟩ := H; (try dsimp only at H); have HC30 := m0 H; clear H
                go_upto_region 12 with (first | ((with_reducible refine gc 28 rfl ?_); refine gl (some 61) Try.func28 #[.slice A2 l2.length c2] ?_; (with_reducible refine (Rf_HeightsErr.calls kj16 _ _ l2 t563 _ ?side1 ?side2 A29.out).mono ?_); (case side1 => exact cb HR2 HB); (case side2 => exact HC2.out); rintro e w' ⟨rfl, ⟨nd, rfl⟩⟩; refine ⟨_, rfl, ?_⟩))
                (try simp only [Act.put, List.setIfInBounds_toArray, List.set_cons_zero, List.set_cons_succ])
                go_cut [86] (fun v86 wc => ∃ (kq : Nat) (x86_29 : Bool), v86 = .bool x86_29 ∧ Aside0 (Lw_CloudCeilings.j2 kq l0 a1 t554 t555 t562 x86_29 = some r) ∧ Aside0 (kq ≤ kj16) ∧ Aside0 (Below w.heap.size w wc))
                case first =>
                  have H := HC30.out; clear HC30
                  by_cases c31 : t563 = 0
                  · rw [if_pos c31] at H; have c31b0 := beq_iff_eq.mpr c31; have c31b1 := bne_eq_false_iff_eq.mpr c31; clear c31
                    (first | rw [c31b0] | (simp only [i64_w, i32_w]; rw [c31b0]) | skip)
                    by_cases c32 : t560 = 0
                    · rw [if_pos c32] at H; have c32b0 := beq_iff_eq.mpr c32; have c32b1 := bne_eq_false_iff_eq.mpr c32; clear c32; replace H := oa H; obtain ⟨t564, A33, H⟩ := H; (try dsimp only at H); have H' := m0 H; clear H
                      go_wp2_with (first | (go_at_call 29; (with_reducible refine (Rf_Middle.calls kj16 _ _ l2 t564 _ ?side1 ?side2 A33.out).mono ?_); (case side1 => exact cb HR2 HB); (case side2 => exact HC2.out); rintro e w' ⟨rfl, ⟨nd, rfl⟩⟩))
                      go_meet
                      case rel => exact ⟨_, ((t559 != t564)), rz, H', ⟨by have := HJ5.out; have := HJ16.out; first | omega | exact Nat.le_refl _⟩, ⟨bz⟩⟩
                    · rw [if_neg c32] at H; have c32b0 := beq_eq_false_iff_ne.mpr c32; have c32b1 := bne_iff_ne.mpr c32; have H' := m0 H; clear H
                      go_wp2
                      go_meet
                      case rel => exact ⟨_, (true), rz, H', ⟨by have := HJ5.out; have := HJ16.out; first | omega | exact Nat.le_refl _⟩, ⟨bz⟩⟩
                  · rw [if_neg c31] at H; have c31b0 := beq_eq_false_iff_ne.mpr c31; have c31b1 := bne_iff_ne.mpr c31
                    (first | rw [c31b0] | (simp only [i64_w, i32_w]; rw [c31b0]) | skip)
                    by_cases c34 : t560 = t563
                    · rw [if_pos c34] at H; have c34b0 := beq_iff_eq.mpr c34; have c34b1 := bne_eq_false_iff_eq.mpr c34; clear c34
                      by_cases c35 : t559 = 0
                      · rw [if_pos c35] at H; have c35b0 := beq_iff_eq.mpr c35; have c35b1 := bne_eq_false_iff_eq.mpr c35; clear c35; have H' := m0 H; clear H
                        go_wp2
                        go_meet
                        case rel => exact ⟨_, (false), rz, H', ⟨by have := HJ5.out; have := HJ16.out; first | omega | exact Nat.le_refl _⟩, ⟨bz⟩⟩
                      · rw [if_neg c35] at H; have c35b0 := beq_eq_false_iff_ne.mpr c35; have c35b1 := bne_iff_ne.mpr c35; have H' := m0 H; clear H
                        go_wp2
                        go_meet
                        case rel => exact ⟨_, (true), rz, H', ⟨by have := HJ5.out; have := HJ16.out; first | omega | exact Nat.le_refl _⟩, ⟨bz⟩⟩
                    · rw [if_neg c34] at H; have c34b0 := beq_eq_false_iff_ne.mpr c34; have c34b1 := bne_iff_ne.mpr c34; have H' := m0 H; clear H
                      go_wp2
                      go_meet
                      case rel => exact ⟨_, (true), rz, H', ⟨by have := HJ5.out; have := HJ16.out; first | omega | exact Nat.le_refl _⟩, ⟨bz⟩⟩
                case rest =>
                  clear HC30; obtain ⟨kq, x86_29, rfl, HA, HJ29, HB⟩ := hcut
                  cases kq with
                  | zero => exact absurd HA.out (by simp [Lw_CloudCeilings.j2])
                  | succ kj29 =>
                    have H := HA.out; clear HA; simp only [Lw_CloudCeilings.j2] at H
                    by_cases c36 : x86_29 = true
                    · subst c36; rw [if_pos rfl] at H; obtain rfl := Option.some.inj H
                      go_wp2
                      go_ret
                      exact ez
                    · replace c36 := Bool.eq_false_iff.mpr c36; subst c36; rw [if_neg (show ¬ (false = true) by decide)] at H; have HC37 := m0 H; clear H
                      go_upto_region 14 with (fail)
                      go_cut [93] (fun v93 wc => ∃ (kq : Nat) (x93_36 : Bool), v93 = .bool x93_36 ∧ Aside0 (Lw_CloudCeilings.j3 kq l0 a1 t554 t555 t562 x93_36 = some r) ∧ Aside0 (kq ≤ kj29) ∧ Aside0 (Below w.heap.size w wc))
                      case first =>
                        have H := HC37.out; clear HC37
                        by_cases c38 : t562 = 0
                        · rw [if_pos c38] at H; have c38b0 := beq_iff_eq.mpr c38; have c38b1 := bne_eq_false_iff_eq.mpr c38; clear c38
                          (first | rw [c38b0] | (simp only [i64_w, i32_w]; rw [c38b0]) | skip)
                          replace H := oa H; obtain ⟨t565, A39, H⟩ := H; (try dsimp only at H); have H' := m0 H; clear H
                          go_wp2_with (first | (go_at_call 19; (with_reducible refine (Bs_Within.calls a1 1 8 t565 _ A39.out).mono ?_); rintro e w' ⟨rfl, ⟨nd, rfl⟩⟩))
                          go_meet
                          case rel => exact ⟨_, (!t565), rz, H', ⟨by have := HJ5.out; have := HJ16.out; have := HJ29.out; first | omega | exact Nat.le_refl _⟩, ⟨bz⟩⟩
                        · rw [if_neg c38] at H; have c38b0 := beq_eq_false_iff_ne.mpr c38; have c38b1 := bne_iff_ne.mpr c38
                          (first | rw [c38b0] | (simp only [i64_w, i32_w]; rw [c38b0]) | skip)
                          have H' := m0 H; clear H
                          go_wp2
                          go_meet
                          case rel => exact ⟨_, (false), rz, H', ⟨by have := HJ5.out; have := HJ16.out; have := HJ29.out; first | omega | exact Nat.le_refl _⟩, ⟨bz⟩⟩
                      case rest =>
                        clear HC37; obtain ⟨kq, x93_36, rfl, HA, HJ36, HB⟩ := hcut
                        cases kq with
                        | zero => exact absurd HA.out (by simp [Lw_CloudCeilings.j3])
                        | succ kj36 =>
                          have H := HA.out; clear HA; simp only [Lw_CloudCeilings.j3] at H; have HC40 := m0 H; clear H
                          go_upto_if 93 with (fail)
                          go_cut [14] (fun v14 wc => ∃ (kq : Nat) (x14_39 : Int), v14 = .int .i64 x14_39 ∧ Aside0 (Lw_CloudCeilings.j4 kq l0 a1 t554 t555 x14_39 = some r) ∧ Aside0 (kq ≤ kj36) ∧ Aside0 (Below w.heap.size w wc))
                          case first =>
                            have H := HC40.out; clear HC40
                            by_cases c41 : x93_36 = true
                            · subst c41; rw [if_pos rfl] at H; have H' := m0 H; clear H
                              go_wp2
                              go_meet
                              case rel => exact ⟨_, (2), rz, H', ⟨by have := HJ5.out; have := HJ16.out; have := HJ29.out; have := HJ36.out; first | omega | exact Nat.le_refl _⟩, ⟨bz⟩⟩
                            · replace c41 := Bool.eq_false_iff.mpr c41; subst c41; rw [if_neg (show ¬ (false = true) by decide)] at H; have H' := m0 H; clear H
                              go_wp2
                              go_meet
                              case rel => exact ⟨_, (t562), rz, H', ⟨by have := HJ5.out; have := HJ16.out; have := HJ29.out; have := HJ36.out; first | omega | exact Nat.le_refl _⟩, ⟨bz⟩⟩
                          case rest =>
                            clear HC40; obtain ⟨kq, x14_39, rfl, HA, HJ39, HB⟩ := hcut
                            cases kq with
                            | zero => exact absurd HA.out (by simp [Lw_CloudCeilings.j4])
                            | succ kj39 =>
                              have H := HA.out; clear HA; simp only [Lw_CloudCeilings.j4] at H
                              by_cases c42 : x14_39 = 0
                              · rw [if_pos c42] at H; have c42b0 := beq_iff_eq.mpr c42; have c42b1 := bne_eq_false_iff_eq.mpr c42; clear c42; replace H := oa H; obtain ⟨⟨t566, t567⟩, A43, H⟩ := H; (try dsimp only at H)
                                by_cases c44 : t567 = true
                                · subst c44; rw [if_pos rfl] at H
                                  by_cases c45 : t555 = 0
                                  · rw [if_pos c45] at H; have c45b0 := beq_iff_eq.mpr c45; have c45b1 := bne_eq_false_iff_eq.mpr c45; clear c45; obtain rfl := Option.some.inj H
                                    go_wp2_with (first | ((with_reducible refine gc 30 rfl ?_); refine gl (some 106) Try.func30 #[.slice A0 l0.length c0, .int .i64 a1] ?_; (with_reducible refine (Rf_Ceiling.calls kj39 _ _ l0 a1 t566 true _ ?side1 ?side2 A43.out).mono ?_); (case side1 => exact cb HR0 HB); (case side2 => exact HC0.out); rintro e w' ⟨rfl, ⟨nd, rfl⟩⟩; refine ⟨_, rfl, ?_⟩))
                                    go_ret
                                    exact ez
                                  · rw [if_neg c45] at H; have c45b0 := beq_eq_false_iff_ne.mpr c45; have c45b1 := bne_iff_ne.mpr c45; obtain rfl := Option.some.inj H
                                    go_wp2_with (first | ((with_reducible refine gc 30 rfl ?_); refine gl (some 106) Try.func30 #[.slice A0 l0.length c0, .int .i64 a1] ?_; (with_reducible refine (Rf_Ceiling.calls kj39 _ _ l0 a1 t566 true _ ?side1 ?side2 A43.out).mono ?_); (case side1 => exact cb HR0 HB); (case side2 => exact HC0.out); rintro e w' ⟨rfl, ⟨nd, rfl⟩⟩; refine ⟨_, rfl, ?_⟩))
                                    go_ret
                                    exact ez
                                · replace c44 := Bool.eq_false_iff.mpr c44; subst c44; rw [if_neg (show ¬ (false = true) by decide)] at H
                                  by_cases c46 : t555 = 12
                                  · rw [if_pos c46] at H; have c46b0 := beq_iff_eq.mpr c46; have c46b1 := bne_eq_false_iff_eq.mpr c46; clear c46; obtain rfl := Option.some.inj H
                                    go_wp2_with (first | ((with_reducible refine gc 30 rfl ?_); refine gl (some 106) Try.func30 #[.slice A0 l0.length c0, .int .i64 a1] ?_; (with_reducible refine (Rf_Ceiling.calls kj39 _ _ l0 a1 t566 false _ ?side1 ?side2 A43.out).mono ?_); (case side1 => exact cb HR0 HB); (case side2 => exact HC0.out); rintro e w' ⟨rfl, ⟨nd, rfl⟩⟩; refine ⟨_, rfl, ?_⟩))
                                    go_ret
                                    exact ez
                                  · rw [if_neg c46] at H; have c46b0 := beq_eq_false_iff_ne.mpr c46; have c46b1 := bne_iff_ne.mpr c46; obtain rfl := Option.some.inj H
                                    go_wp2_with (first | ((with_reducible refine gc 30 rfl ?_); refine gl (some 106) Try.func30 #[.slice A0 l0.length c0, .int .i64 a1] ?_; (with_reducible refine (Rf_Ceiling.calls kj39 _ _ l0 a1 t566 false _ ?side1 ?side2 A43.out).mono ?_); (case side1 => exact cb HR0 HB); (case side2 => exact HC0.out); rintro e w' ⟨rfl, ⟨nd, rfl⟩⟩; refine ⟨_, rfl, ?_⟩))
                                    go_ret
                                    exact ez
                              · rw [if_neg c42] at H; have c42b0 := beq_eq_false_iff_ne.mpr c42; have c42b1 := bne_iff_ne.mpr c42
                                by_cases c47 : t555 = x14_39
                                · rw [if_pos c47] at H; have c47b0 := beq_iff_eq.mpr c47; have c47b1 := bne_eq_false_iff_eq.mpr c47; clear c47; obtain rfl := Option.some.inj H
                                  go_wp2
                                  go_ret
                                  exact ez
                                · rw [if_neg c47] at H; have c47b0 := beq_eq_false_iff_ne.mpr c47; have c47b1 := bne_iff_ne.mpr c47; obtain rfl := Option.some.inj H
                                  go_wp2
                                  go_ret
                                  exact ez
  · replace c5 := Bool.eq_false_iff.mpr c5; subst c5; rw [if_neg (show ¬ (false = true) by decide)] at H; obtain rfl := Option.some.inj H; go_enter Try.func4, Try.ntmps4
    go_wp2_with (first | ((with_reducible refine gc 11 rfl ?_); refine gl (some 18) Try.func11 #[] ?_; (with_reducible refine (Lw_awake.calls k  false _ A4.out).mono ?_); rintro e w48 ⟨rfl, hb⟩; refine ⟨_, rfl, ?_⟩; replace HB := sb HB hb; (try clear hb)))
    go_ret
    exact ez
end Go.Proofs.Yteiafijbgjgiaaa.A
