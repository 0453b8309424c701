/- Walks of the program's functions (printed, made shorter), each with what it computes. -/
import Derived.Test.YteiafijbgjgiaaaGreatB14
import Derived.Test.YteiafijbgjgiaaaGreatS02
import Derived.Test.YteiafijbgjgiaaaGreatS04
namespace Go.Proofs.YteiafijbgjgiaaaGreat.A
set_option maxHeartbeats 8000000
set_option maxRecDepth 100000
open Go.RowKit Go.Proofs.YteiafijbgjgiaaaGreatW.PrintWords Go.Proofs.YteiafijbgjgiaaaGreatW.PrintLast Go.Proofs.YteiafijbgjgiaaaGreatW.PrintMore
attribute [local go_sem] max2_int min2_int max_two min_two max_three min_three max_four min_four
set_option linter.unusedVariables false
set_option linter.unusedSimpArgs false
mutual
def Lw_CloudSeeing.j0 : Nat → List Int → Int → Int → List (S40) → Int → List (S40) → Int → Int → Int → Bool → Int → Int → Int → Int → Int → Int → Int → Int → Int → Int → Option (Bool)
  | 0, _, _, _, _, _, _, _, _, _, _, _, _, _, _, _, _, _, _, _, _ => none
  | k + 1, x0, x7, x8, x9, x10, x11, x12, x13, x14, x66, x597000, x597001, x597002, x597003, x597004, x597005, x598000, x598001, x598002, x598003 => if x66 = true then (Lw_CloudSeeing.j1 k x0 x7 x8 x9 x10 x11 x12 x13 20 x597000 x597001 x597002 x597003 x597004 x597005 x598000 x598001 x598002 x598003) else (Lw_CloudSeeing.j1 k x0 x7 x8 x9 x10 x11 x12 x13 x14 x597000 x597001 x597002 x597003 x597004 x597005 x598000 x598001 x598002 x598003)
def Lw_CloudSeeing.j1 : Nat → List Int → Int → Int → List (S40) → Int → List (S40) → Int → Int → Int → Int → Int → Int → Int → Int → Int → Int → Int → Int → Int → Option (Bool)
  | 0, _, _, _, _, _, _, _, _, _, _, _, _, _, _, _, _, _, _, _ => none
  | k + 1, x0, x7, x8, x9, x10, x11, x12, x13, x14, x597000, x597001, x597002, x597003, x597004, x597005, x598000, x598001, x598002, x598003 => if x14 = 0 then (if x8 = 0 then ((Rf_Visibility.f k x0 x597000 x597001 x597002).bind fun t625 => (Lw_CloudSeeing.j2 k x0 x9 x10 x11 x12 x13 (x7 != t625) x597000 x597001 x597002 x597003 x597004 x597005 x598000 x598001 x598002 x598003)) else (none)) else (if x8 = x14 then (if x7 = 0 then (Lw_CloudSeeing.j2 k x0 x9 x10 x11 x12 x13 false x597000 x597001 x597002 x597003 x597004 x597005 x598000 x598001 x598002 x598003) else (none)) else (none))
def Lw_CloudSeeing.j2 : Nat → List Int → List (S40) → Int → List (S40) → Int → Int → Bool → Int → Int → Int → Int → Int → Int → Int → Int → Int → Int → Option (Bool)
  | 0, _, _, _, _, _, _, _, _, _, _, _, _, _, _, _, _, _ => none
  | k + 1, x0, x9, x10, x11, x12, x13, x95, x597000, x597001, x597002, x597003, x597004, x597005, x598000, x598001, x598002, x598003 => if x95 = true then (none) else ((Rf_BlindErr.f k x598000 x598001 x598002 x598003).bind fun t626 => ((Lw_both.f x13 t626).bind fun t627 => (if t627 = 0 then (if x10 = 0 then ((Rf_Blind.f k x0 x598000 x598001 x598002 x598003).bind fun t628 => ((Bs_Ranges.f k x9 t628).bind fun t631 => (Lw_CloudSeeing.j3 k x0 x11 x12 x13 (!t631) x597000 x597001 x597002 x597003 x597004 x597005))) else (none)) else (if x10 = t627 then (if (x9.length : Int) = 0 then (Lw_CloudSeeing.j3 k x0 x11 x12 x13 false x597000 x597001 x597002 x597003 x597004 x597005) else (none)) else (none)))))
def Lw_CloudSeeing.j3 : Nat → List Int → List (S40) → Int → Int → Bool → Int → Int → Int → Int → Int → Int → Option (Bool)
  | 0, _, _, _, _, _, _, _, _, _, _, _ => none
  | k + 1, x0, x11, x12, x13, x127, x597000, x597001, x597002, x597003, x597004, x597005 => if x127 = true then (none) else ((Rf_RuleErr.f x597003 x597004 x597005).bind fun t632 => ((Lw_both.f x13 t632).bind fun t633 => (if t633 = 0 then (if x12 = 0 then ((Rf_Layers.f k x0 x597003 x597004 x597005).bind fun t634 => ((Bs_Ranges.f k x11 t634).bind fun t637 => (some t637))) else (none)) else (if x12 = t633 then (some ((x11.length : Int) == 0)) else (none)))))
end
def Lw_CloudSeeing.f (k : Nat) (l0 : List Int) (a1_0 : Int) (a1_1 : Int) (a1_2 : Int) (a1_3 : Int) (a1_4 : Int) (a1_5 : Int) (a2_0 : Int) (a2_1 : Int) (a2_2 : Int) (a2_3 : Int) : Option (Bool) := (Lw_awake.f k).bind fun t598 => (if t598 = true then ((Lw_few.f l0).bind fun t599 => (if t599 = true then ((Bs_CopyInts.f l0).bind fun t600 => ((L_VisibilityOf.f k t600 a1_0 a1_1 a1_2).bind fun bt603 => ((Bs_CopyInts.f l0).bind fun t605 => ((L_BlindIn.f k t605 a2_0 a2_1 a2_2 a2_3).bind fun bt608 => ((Bs_CopyInts.f l0).bind fun t612 => ((L_LayersIn.f k t612 a1_3 a1_4 a1_5).bind fun bt615 => ((Rf_ProfileErr.f k l0).bind fun t619 => ((Rf_ConstantErr.f a1_0).bind fun t620 => ((Rf_PartErr.f k a1_1 a1_2).bind fun t621 => ((Lw_both.f t620 t621).bind fun t622 => ((Lw_both.f t619 t622).bind fun t623 => (if t623 = 0 then ((Rf_Rest.f k l0 a1_0 (l0.length : Int)).bind fun t624 => (Lw_CloudSeeing.j0 k l0 bt603.1 bt603.2 bt608.1 bt608.2 bt615.1 bt615.2 t619 t623 (decide (t624 < 0)) a1_0 a1_1 a1_2 a1_3 a1_4 a1_5 a2_0 a2_1 a2_2 a2_3)) else (Lw_CloudSeeing.j0 k l0 bt603.1 bt603.2 bt608.1 bt608.2 bt615.1 bt615.2 t619 t623 false a1_0 a1_1 a1_2 a1_3 a1_4 a1_5 a2_0 a2_1 a2_2 a2_3))))))))))))) else (some true))) else (none))
theorem Lw_CloudSeeing.mono_l : ∀ k, (∀ y0 y1 y2 y3 y4 y5 y6 y7 y8 y9 y10 y11 y12 y13 y14 y15 y16 y17 y18 y19, LeO (Lw_CloudSeeing.j0 k y0 y1 y2 y3 y4 y5 y6 y7 y8 y9 y10 y11 y12 y13 y14 y15 y16 y17 y18 y19) (Lw_CloudSeeing.j0 (k + 1) y0 y1 y2 y3 y4 y5 y6 y7 y8 y9 y10 y11 y12 y13 y14 y15 y16 y17 y18 y19)) ∧ (∀ y0 y1 y2 y3 y4 y5 y6 y7 y8 y9 y10 y11 y12 y13 y14 y15 y16 y17 y18, LeO (Lw_CloudSeeing.j1 k y0 y1 y2 y3 y4 y5 y6 y7 y8 y9 y10 y11 y12 y13 y14 y15 y16 y17 y18) (Lw_CloudSeeing.j1 (k + 1) y0 y1 y2 y3 y4 y5 y6 y7 y8 y9 y10 y11 y12 y13 y14 y15 y16 y17 y18)) ∧ (∀ y0 y1 y2 y3 y4 y5 y6 y7 y8 y9 y10 y11 y12 y13 y14 y15 y16, LeO (Lw_CloudSeeing.j2 k y0 y1 y2 y3 y4 y5 y6 y7 y8 y9 y10 y11 y12 y13 y14 y15 y16) (Lw_CloudSeeing.j2 (k + 1) y0 y1 y2 y3 y4 y5 y6 y7 y8 y9 y10 y11 y12 y13 y14 y15 y16)) ∧ (∀ y0 y1 y2 y3 y4 y5 y6 y7 y8 y9 y10, LeO (Lw_CloudSeeing.j3 k y0 y1 y2 y3 y4 y5 y6 y7 y8 y9 y10) (Lw_CloudSeeing.j3 (k + 1) y0 y1 y2 y3 y4 y5 y6 y7 y8 y9 y10))
  | 0 => ⟨fun _ _ _ _ _ _ _ _ _ _ _ _ _ _ _ _ _ _ _ _ r h => by simp [Lw_CloudSeeing.j0] at h, fun _ _ _ _ _ _ _ _ _ _ _ _ _ _ _ _ _ _ _ r h => by simp [Lw_CloudSeeing.j1] at h, fun _ _ _ _ _ _ _ _ _ _ _ _ _ _ _ _ _ r h => by simp [Lw_CloudSeeing.j2] at h, fun _ _ _ _ _ _ _ _ _ _ _ r h => by simp [Lw_CloudSeeing.j3] at h⟩
  | k + 1 => by
    obtain ⟨ih0, ih1, ih2, ih3⟩ := Lw_CloudSeeing.mono_l k; refine ⟨?_, ?_, ?_, ?_⟩
    · intro y0 y1 y2 y3 y4 y5 y6 y7 y8 y9 y10 y11 y12 y13 y14 y15 y16 y17 y18 y19; unfold Lw_CloudSeeing.j0
      repeat' with_reducible first
        | exact ih0 ..
        | exact ih1 ..
        | exact ih2 ..
        | exact ih3 ..
        | exact L_BlindIn.mono ..
        | exact L_LayersIn.mono ..
        | exact L_VisibilityOf.mono ..
        | exact Bs_Ranges.mono ..
        | exact Lw_awake.mono ..
        | exact Rf_Blind.mono ..
        | exact Rf_BlindErr.mono ..
        | exact Rf_Layers.mono ..
        | exact Rf_PartErr.mono ..
        | exact Rf_ProfileErr.mono ..
        | exact Rf_Rest.mono ..
        | exact Rf_Visibility.mono ..
        | exact LeO.refl ..
        | exact LeO.none ..
        | refine LeO.ite ?_ ?_
        | refine LeO.bind ?_ (fun _ => ?_)
    · intro y0 y1 y2 y3 y4 y5 y6 y7 y8 y9 y10 y11 y12 y13 y14 y15 y16 y17 y18; unfold Lw_CloudSeeing.j1
      repeat' with_reducible first
        | exact ih0 ..
        | exact ih1 ..
        | exact ih2 ..
        | exact ih3 ..
        | exact L_BlindIn.mono ..
        | exact L_LayersIn.mono ..
        | exact L_VisibilityOf.mono ..
        | exact Bs_Ranges.mono ..
        | exact Lw_awake.mono ..
        | exact Rf_Blind.mono ..
        | exact Rf_BlindErr.mono ..
        | exact Rf_Layers.mono ..
        | exact Rf_PartErr.mono ..
        | exact Rf_ProfileErr.mono ..
        | exact Rf_Rest.mono ..
        | exact Rf_Visibility.mono ..
        | exact LeO.refl ..
        | exact LeO.none ..
        | refine LeO.ite ?_ ?_
        | refine LeO.bind ?_ (fun _ => ?_)
    · intro y0 y1 y2 y3 y4 y5 y6 y7 y8 y9 y10 y11 y12 y13 y14 y15 y16; unfold Lw_CloudSeeing.j2
      repeat' with_reducible first
        | exact ih0 ..
        | exact ih1 ..
        | exact ih2 ..
        | exact ih3 ..
        | exact L_BlindIn.mono ..
        | exact L_LayersIn.mono ..
        | exact L_VisibilityOf.mono ..
        | exact Bs_Ranges.mono ..
        | exact Lw_awake.mono ..
        | exact Rf_Blind.mono ..
        | exact Rf_BlindErr.mono ..
        | exact Rf_Layers.mono ..
        | exact Rf_PartErr.mono ..
        | exact Rf_ProfileErr.mono ..
        | exact Rf_Rest.mono ..
        | exact Rf_Visibility.mono ..
        | exact LeO.refl ..
        | exact LeO.none ..
        | refine LeO.ite ?_ ?_
        | refine LeO.bind ?_ (fun _ => ?_)
    · intro y0 y1 y2 y3 y4 y5 y6 y7 y8 y9 y10; unfold Lw_CloudSeeing.j3
      repeat' with_reducible first
        | exact ih0 ..
        | exact ih1 ..
        | exact ih2 ..
        | exact ih3 ..
        | exact L_BlindIn.mono ..
        | exact L_LayersIn.mono ..
        | exact L_VisibilityOf.mono ..
        | exact Bs_Ranges.mono ..
        | exact Lw_awake.mono ..
        | exact Rf_Blind.mono ..
        | exact Rf_BlindErr.mono ..
        | exact Rf_Layers.mono ..
        | exact Rf_PartErr.mono ..
        | exact Rf_ProfileErr.mono ..
        | exact Rf_Rest.mono ..
        | exact Rf_Visibility.mono ..
        | exact LeO.refl ..
        | exact LeO.none ..
        | refine LeO.ite ?_ ?_
        | refine LeO.bind ?_ (fun _ => ?_)
theorem Lw_CloudSeeing.mono : ∀ a0 a1 a2 a3 a4 a5 a6 a7 a8 a9 a10 k, LeO (Lw_CloudSeeing.f k a0 a1 a2 a3 a4 a5 a6 a7 a8 a9 a10) (Lw_CloudSeeing.f (k + 1) a0 a1 a2 a3 a4 a5 a6 a7 a8 a9 a10) := by
  intro a0 a1 a2 a3 a4 a5 a6 a7 a8 a9 a10 k; obtain ⟨ih0, ih1, ih2, ih3⟩ := Lw_CloudSeeing.mono_l k; unfold Lw_CloudSeeing.f
  repeat' with_reducible first
    | exact ih0 ..
    | exact ih1 ..
    | exact ih2 ..
    | exact ih3 ..
    | exact L_BlindIn.mono ..
    | exact L_LayersIn.mono ..
    | exact L_VisibilityOf.mono ..
    | exact Bs_Ranges.mono ..
    | exact Lw_awake.mono ..
    | exact Rf_Blind.mono ..
    | exact Rf_BlindErr.mono ..
    | exact Rf_Layers.mono ..
    | exact Rf_PartErr.mono ..
    | exact Rf_ProfileErr.mono ..
    | exact Rf_Rest.mono ..
    | exact Rf_Visibility.mono ..
    | exact LeO.refl ..
    | exact LeO.none ..
    | refine LeO.ite ?_ ?_
    | refine LeO.bind ?_ (fun _ => ?_)
def Lw_CloudSeeing.T5 : Bool × List (List Nat × List Nat) := (true, [([], []), ([0], [0]), ([], []), ([2], [2]), ([], []), ([4], [4]), ([1, 3, 5, 1], [1, 3, 5]), ([6], [6]), ([7], [7]), ([7], [7]), ([8, 6, 0, 1, 2, 3, 4, 5, 6, 7, 8], [8]), ([9, 10, 0, 1, 2, 3, 4, 5, 6, 7, 8, 9, 10], [9])])
def Lw_CloudSeeing.B5 : List Nat := [0, 1, 0, 4, 0, 16, 63, 127, 255, 255, 511, 2047]
theorem Lw_CloudSeeing.tab5 : rtab .any (opsOf Tryz.f4 5) = Lw_CloudSeeing.T5 := by kernel_rfl
theorem Lw_CloudSeeing.bits5 : waitsOk Lw_CloudSeeing.T5.2 Lw_CloudSeeing.B5 = true := by kernel_rfl
def Lw_CloudSeeing.T6 : Bool × List (List Nat × List Nat) := (true, [([], []), ([0], [0]), ([], []), ([1, 2, 1], [1, 2]), ([3], [3]), ([4], [4]), ([4], [4]), ([5, 3, 0, 1, 2, 3, 4, 5], [5]), ([6, 7, 0, 1, 2, 3, 4, 5, 6, 7], [6])])
def Lw_CloudSeeing.B6 : List Nat := [0, 1, 0, 7, 15, 31, 31, 63, 255]
theorem Lw_CloudSeeing.tab6 : rtab .any (opsOf Tryz.f4 6) = Lw_CloudSeeing.T6 := by kernel_rfl
theorem Lw_CloudSeeing.bits6 : waitsOk Lw_CloudSeeing.T6.2 Lw_CloudSeeing.B6 = true := by kernel_rfl
def Lw_CloudSeeing.T7 : Bool × List (List Nat × List Nat) := (true, [([], []), ([0], [0]), ([], []), ([2], [2]), ([1, 3, 1], [1, 3]), ([4], [4]), ([5], [5]), ([5], [5]), ([6, 4, 0, 1, 2, 3, 4, 5, 6], [6]), ([7, 8, 0, 1, 2, 3, 4, 5, 6, 7, 8], [7])])
def Lw_CloudSeeing.B7 : List Nat := [0, 1, 0, 4, 15, 31, 63, 63, 127, 511]
theorem Lw_CloudSeeing.tab7 : rtab .any (opsOf Tryz.f4 7) = Lw_CloudSeeing.T7 := by kernel_rfl
theorem Lw_CloudSeeing.bits7 : waitsOk Lw_CloudSeeing.T7.2 Lw_CloudSeeing.B7 = true := by kernel_rfl
def Lw_CloudSeeing.T9 : Bool × List (List Nat × List Nat) := (true, [([], []), ([], []), ([1], [1]), ([2], [2]), ([], []), ([4], [4]), ([5, 3], [5]), ([3, 6, 6], [3, 6]), ([0, 7, 7], [0, 7]), ([8, 8, 0, 1, 2, 3, 4, 5, 6, 7, 8], [8])])
def Lw_CloudSeeing.B9 : List Nat := [0, 0, 2, 6, 0, 16, 62, 126, 255, 511]
theorem Lw_CloudSeeing.tab9 : rtab .any (opsOf Tryz.f4 9) = Lw_CloudSeeing.T9 := by kernel_rfl
theorem Lw_CloudSeeing.bits9 : waitsOk Lw_CloudSeeing.T9.2 Lw_CloudSeeing.B9 = true := by kernel_rfl
theorem Lw_CloudSeeing.calls (k : Nat) (A0 : Option Addr) (c0 : Nat) (l0 : List Int) (a1_0 : Int) (a1_1 : Int) (a1_2 : Int) (a1_3 : Int) (a1_4 : Int) (a1_5 : Int) (a2_0 : Int) (a2_1 : Int) (a2_2 : Int) (a2_3 : Int) (r : Bool) (w : World) (hr0 : Kd.C (Kd.int .i64) w A0 l0.length l0) (hc0 : l0.length ≤ c0) (H : Lw_CloudSeeing.f k l0 a1_0 a1_1 a1_2 a1_3 a1_4 a1_5 a2_0 a2_1 a2_2 a2_3 = some r) :
    Calls Tryz.prog 4 #[.slice A0 l0.length c0, .agg #[.int .i64 a1_0, .int .i64 a1_1, .int .i64 a1_2, .int .i64 a1_3, .int .i64 a1_4, .int .i64 a1_5], .agg #[.int .i64 a2_0, .int .i64 a2_1, .int .i64 a2_2, .int .i64 a2_3]] w fun e w' => e = .returned (.bool r) ∧ Below w.heap.size w w' := by
  have hu28 := Tryz.underlying28; have hu48 := Tryz.underlying48; have hu24 := Tryz.underlying24; have hu26 := Tryz.underlying26; have HR0 := m0 hr0; have HC0 := m0 hc0; clear hr0 hc0; have HB := m0 (Below.refl w.heap.size w); unfold Lw_CloudSeeing.f at H; replace H := oa H; obtain ⟨t598, A4, H⟩ := H; (try dsimp only at H)
  by_cases c5 : t598 = true
  · subst c5; rw [if_pos rfl] at H; replace H := oa H; obtain ⟨t599, A6, H⟩ := H; (try dsimp only at H)
    by_cases c7 : t599 = true
    · subst c7; rw [if_pos rfl] at H; replace H := oa H; obtain ⟨t600, A8, H⟩ := H; (try dsimp only at H); replace H := oa H; obtain ⟨⟨t603, t604⟩, A9, H⟩ := H; (try dsimp only at H); replace H := oa H; obtain ⟨t605, A10, H⟩ := H; (try dsimp only at H); replace H := oa H; obtain ⟨⟨t608, t611⟩, A11, H⟩ := H; (try dsimp only at H); replace H := oa H; obtain ⟨t612, A12, H⟩ := H; (try dsimp only at H); replace H := oa H; obtain ⟨⟨t615, t618⟩, A13, H⟩ := H; (try dsimp only at H); replace H := oa H; obtain ⟨t619, A14, H⟩ := H; (try dsimp only at H); replace H := oa H; obtain ⟨t620, A15, H⟩ := H; (try dsimp only at H); replace H := oa H; obtain ⟨t621, A16, H⟩ := H; (try dsimp only at H); replace H := oa H; obtain ⟨t622, A17, H⟩ := H; (try dsimp only at H); replace H := oa H; obtain ⟨t623, A18, H⟩ := H; (try dsimp only at H); have HC19 := m0 H; clear H; go_enter Tryz.func4, Tryz.ntmps4
      try go_wp2_with (first | ((with_reducible refine ga 4 rfl ?_); (try (refine gate_guard (by rfl) ?_; dsimp only)); refine be 4 28 #[.int .i64 a1_0, .int .i64 a1_1, .int .i64 a1_2, .int .i64 a1_3, .int .i64 a1_4, .int .i64 a1_5] ?_; intro gb596 hg w20 hbox hb; have BK596 := m0 hbox; have GE596 := gw w hg; replace HB := sb HB hb; clear hb hbox hg) | ((with_reducible refine ga 5 rfl ?_); (try (refine gate_guard (by rfl) ?_; dsimp only)); refine be 5 48 #[.int .i64 a2_0, .int .i64 a2_1, .int .i64 a2_2, .int .i64 a2_3] ?_; intro gb597 hg w21 hbox hb; have BK597 := m0 hbox; have GE597 := gw w hg; replace HB := sb HB hb; have NB596_597 := nl BK596 hg; have NB597_596 := ng (nl BK596 hg); replace BK596 := bb BK596 hb; clear hb hbox hg) | ((with_reducible refine gc 7 rfl ?_); refine gl (some 15) Tryz.func7 #[] ?_; (with_reducible refine (Lw_awake.calls k  true _ A4.out).mono ?_); rintro e w22 ⟨rfl, hb⟩; refine ⟨_, rfl, ?_⟩; replace BK596 := bb BK596 hb; replace BK597 := bb BK597 hb; replace HB := sb HB hb; (try clear hb)) | ((with_reducible refine gc 8 rfl ?_); refine gl (some 18) Tryz.func8 #[.slice A0 l0.length c0] ?_; (with_reducible refine (Lw_few.calls _ _ l0 true _ ?side1 ?side2 A6.out).mono ?_); (case side1 => exact cb HR0 HB); (case side2 => exact HC0.out); rintro e w' ⟨rfl, ⟨nd, rfl⟩⟩; refine ⟨_, rfl, ?_⟩))
      (try (rw [drewN_self w22]; generalize hq_ : World.drewN w22 _ = w22; replace BK596 := gd BK596 hq_; replace BK597 := gd BK597 hq_; replace HB := gs HB hq_; clear hq_))
      replace BK596 := bd BK596; replace BK597 := bd BK597; replace HB := sd HB; refine start_ (n := 12) (S := fun w' => w'.cell? ⟨gb596, 0, none⟩ = some (.int .i64 a1_0) ∧ w'.cell? ⟨gb596, 1, none⟩ = some (.int .i64 a1_1) ∧ w'.cell? ⟨gb596, 2, none⟩ = some (.int .i64 a1_2) ∧ w'.cell? ⟨gb596, 3, none⟩ = some (.int .i64 a1_3) ∧ w'.cell? ⟨gb596, 4, none⟩ = some (.int .i64 a1_4) ∧ w'.cell? ⟨gb596, 5, none⟩ = some (.int .i64 a1_5)) (ds := []) _ (by kernel_rfl) rfl rfl cz (fun hH => ?_); refine with_tabW Lw_CloudSeeing.tab5 Lw_CloudSeeing.bits5 (fun HT_ HW_ => ?_); generalize w22.drew = w23 at BK596 BK597 HB hH ⊢; refine pZ 0 (some 21) (bs 12 1) HT_ ?_; refine pZ 2 (some 23) (bs 12 5) HT_ ?_; refine pZ 4 (some 25) (bs 12 21) HT_ ?_; refine takeZ 3 (some 24) (bs 12 29) (tw HT_ HW_) hH ?_; refine takeZ 5 (some 26) (bs 12 61) (tw HT_ HW_) hH ?_; refine oneZ 1 (some 22) (bs 12 63) (o1 HT_) fun K hK => ?_; refine gz Tryz.func13 #[.slice A0 l0.length c0] ?_
      with_reducible refine (Bs_CopyInts.calls _ _ l0 t600 _ ?side1 ?side2 A8.out).mono ?_
      (case side1 => exact cb HR0 HB)
      (case side2 => exact HC0.out)
      rintro e w24 ⟨v601, rfl, ho0, hb⟩; refine ⟨_, rfl, ?_⟩; have HO602 := m0 (Kd.R_lower ho0 (below_size bz)); replace BK596 := bb BK596 hb; replace BK597 := bb BK597 hb; replace HB := sb HB hb; (try clear hb); (try clear ho0); obtain ⟨Ao25, co25, eo25⟩ := Kd.R_slice HO602.out; subst eo25; refine hK.out _ _ cz (fun hH => ?_); clear hK K; refine nz 22 ?_; refine oneZ 6 (some 27) (bs 12 127) (o1 HT_) fun K hK => ?_; refine gz Tryz.func17 #[.slice Ao25 t600.length co25, .int .i64 a1_0, .agg #[.int .i64 a1_1, .int .i64 a1_2]] ?_
      with_reducible refine (L_VisibilityOf.calls k _ _ t600 a1_0 a1_1 a1_2 t603 t604 _ ?side1 ?side2 A9.out).mono ?_
      (case side1 => exact bc (Kd.R_reads' HO602.out).2.2)
      (case side2 => exact (Kd.R_reads' HO602.out).2.1)
      rintro e w26 ⟨rfl, hb⟩; refine ⟨_, rfl, ?_⟩; replace HO602 := rb HO602 hb; replace BK596 := bb BK596 hb; replace BK597 := bb BK597 hb; replace HB := sb HB hb; (try clear hb); refine hK.out _ _ cz (fun hH => ?_); clear hK K; refine nz 27 ?_; refine pZ 7 (some 20) (bs 12 255) HT_ ?_; refine pZ 8 (some 28) (bs 12 511) HT_ ?_; refine pZ 9 (some 29) (bs 12 1023) HT_ ?_; refine pZ 10 (some 7) (bs 12 2047) HT_ ?_; refine pZ 11 (some 8) (bs 12 4095) HT_ ?_; refine done_ (done_of HT_.out (by kernel_rfl)) ?_
      try go_wp2
      replace HO602 := m0 (Kd.R_drew HO602.out); replace BK596 := bd BK596; replace BK597 := bd BK597; replace HB := sd HB; refine start_ (n := 9) (S := fun w' => w'.cell? ⟨gb597, 0, none⟩ = some (.int .i64 a2_0) ∧ w'.cell? ⟨gb597, 1, none⟩ = some (.int .i64 a2_1) ∧ w'.cell? ⟨gb597, 2, none⟩ = some (.int .i64 a2_2) ∧ w'.cell? ⟨gb597, 3, none⟩ = some (.int .i64 a2_3)) (ds := []) _ (by kernel_rfl) rfl rfl cz (fun hH => ?_); refine with_tabW Lw_CloudSeeing.tab6 Lw_CloudSeeing.bits6 (fun HT_ HW_ => ?_); generalize w26.drew = w27 at HO602 BK596 BK597 HB hH ⊢; refine pZ 0 (some 31) #[true, false, false, false, false, false, false, false, false] HT_ ?_; refine takeZ 2 (some 33) #[true, false, true, false, false, false, false, false, false] (tw HT_ HW_) hH ?_; refine oneZ 1 (some 32) #[true, true, true, false, false, false, false, false, false] (o1 HT_) fun K hK => ?_; refine gz Tryz.func13 #[.slice A0 l0.length c0] ?_
      with_reducible refine (Bs_CopyInts.calls _ _ l0 t605 _ ?side1 ?side2 A10.out).mono ?_
      (case side1 => exact cb HR0 HB)
      (case side2 => exact HC0.out)
      rintro e w28 ⟨v606, rfl, ho0, hb⟩; refine ⟨_, rfl, ?_⟩; have HO607 := m0 (Kd.R_lower (Kd.R_new' ho0 (Kd.R_lt (br HO602.out))) (below_size bz)); replace HO602 := m0 (Kd.R_elder' (br HO602.out) (Kd.R_base ho0) hb); replace BK596 := bb BK596 hb; replace BK597 := bb BK597 hb; replace HB := sb HB hb; (try clear hb); (try clear ho0); obtain ⟨Ao29, co29, eo29⟩ := Kd.R_slice HO607.out; subst eo29; refine hK.out _ _ cz (fun hH => ?_); clear hK K; refine nz 32 ?_; refine oneZ 3 (some 34) #[true, true, true, true, false, false, false, false, false] (o1 HT_) fun K hK => ?_; refine gz Tryz.func18 #[.slice Ao29 t605.length co29, .agg #[.int .i64 a2_0, .int .i64 a2_1, .int .i64 a2_2, .int .i64 a2_3]] ?_
      with_reducible refine (L_BlindIn.calls k _ _ t605 a2_0 a2_1 a2_2 a2_3 t608 t611 _ ?side1 ?side2 A11.out).mono ?_
      (case side1 => exact bc (Kd.R_reads' HO607.out).2.2)
      (case side2 => exact (Kd.R_reads' HO607.out).2.1)
      rintro e w30 ⟨v609, rfl, ho0, hb⟩; refine ⟨_, rfl, ?_⟩; replace HO602 := rb HO602 hb; replace HO607 := rb HO607 hb; have HO610 := m0 (Kd.R_lower ho0 (below_size bz)); replace BK596 := bb BK596 hb; replace BK597 := bb BK597 hb; replace HB := sb HB hb; (try clear hb); (try clear ho0); refine hK.out _ _ cz (fun hH => ?_); clear hK K; refine nz 34 ?_; refine pZ 4 (some 30) #[true, true, true, true, true, false, false, false, false] HT_ ?_; refine pZ 5 (some 35) #[true, true, true, true, true, true, false, false, false] HT_ ?_; refine pZ 6 (some 36) #[true, true, true, true, true, true, true, false, false] HT_ ?_; refine pZ 7 (some 9) #[true, true, true, true, true, true, true, true, false] HT_ ?_; refine pZ 8 (some 10) #[true, true, true, true, true, true, true, true, true] HT_ ?_; refine done_ (done_of HT_.out (by kernel_rfl)) ?_
      try go_wp2
      replace HO602 := m0 (Kd.R_drew HO602.out); replace HO607 := m0 (Kd.R_drew HO607.out); replace HO610 := m0 (Kd.R_drew HO610.out); replace BK596 := bd BK596; replace BK597 := bd BK597; replace HB := sd HB; refine start_ (n := 10) (S := fun w' => w'.cell? ⟨gb596, 0, none⟩ = some (.int .i64 a1_0) ∧ w'.cell? ⟨gb596, 1, none⟩ = some (.int .i64 a1_1) ∧ w'.cell? ⟨gb596, 2, none⟩ = some (.int .i64 a1_2) ∧ w'.cell? ⟨gb596, 3, none⟩ = some (.int .i64 a1_3) ∧ w'.cell? ⟨gb596, 4, none⟩ = some (.int .i64 a1_4) ∧ w'.cell? ⟨gb596, 5, none⟩ = some (.int .i64 a1_5)) (ds := []) _ (by kernel_rfl) rfl rfl cz (fun hH => ?_); refine with_tabW Lw_CloudSeeing.tab7 Lw_CloudSeeing.bits7 (fun HT_ HW_ => ?_); generalize w30.drew = w31 at HO602 HO607 HO610 BK596 BK597 HB hH ⊢; refine pZ 0 (some 38) #[true, false, false, false, false, false, false, false, false, false] HT_ ?_; refine pZ 2 (some 40) #[true, false, true, false, false, false, false, false, false, false] HT_ ?_; refine takeZ 3 (some 41) #[true, false, true, true, false, false, false, false, false, false] (tw HT_ HW_) hH ?_; refine oneZ 1 (some 39) #[true, true, true, true, false, false, false, false, false, false] (o1 HT_) fun K hK => ?_; refine gz Tryz.func13 #[.slice A0 l0.length c0] ?_
      with_reducible refine (Bs_CopyInts.calls _ _ l0 t612 _ ?side1 ?side2 A12.out).mono ?_
      (case side1 => exact cb HR0 HB)
      (case side2 => exact HC0.out)
      rintro e w32 ⟨v613, rfl, ho0, hb⟩; refine ⟨_, rfl, ?_⟩; replace HO610 := rb HO610 hb; have HO614 := m0 (Kd.R_lower (Kd.R_new' (Kd.R_new' ho0 (Kd.R_lt (br HO602.out))) (Kd.R_lt (br HO607.out))) (below_size bz)); replace HO602 := m0 (Kd.R_elder' (br HO602.out) (Kd.R_base ho0) hb); replace HO607 := m0 (Kd.R_elder' (br HO607.out) (Kd.R_base ho0) hb); replace BK596 := bb BK596 hb; replace BK597 := bb BK597 hb; replace HB := sb HB hb; (try clear hb); (try clear ho0); obtain ⟨Ao33, co33, eo33⟩ := Kd.R_slice HO614.out; subst eo33; refine hK.out _ _ cz (fun hH => ?_); clear hK K; refine nz 39 ?_; refine oneZ 4 (some 42) #[true, true, true, true, true, false, false, false, false, false] (o1 HT_) fun K hK => ?_; refine gz Tryz.func12 #[.slice Ao33 t612.length co33, .agg #[.int .i64 a1_3, .int .i64 a1_4, .int .i64 a1_5]] ?_
      with_reducible refine (L_LayersIn.calls k _ _ t612 a1_3 a1_4 a1_5 t615 t618 _ ?side1 ?side2 A13.out).mono ?_
      (case side1 => exact bc (Kd.R_reads' HO614.out).2.2)
      (case side2 => exact (Kd.R_reads' HO614.out).2.1)
      rintro e w34 ⟨v616, rfl, ho0, hb⟩; refine ⟨_, rfl, ?_⟩; replace HO602 := rb HO602 hb; replace HO607 := rb HO607 hb; replace HO614 := rb HO614 hb; have HO617 := m0 (Kd.R_lower (Kd.R_new' ho0 (Kd.R_lt (br HO610.out))) (below_size bz)); replace HO610 := m0 (Kd.R_elder' (br HO610.out) (Kd.R_base ho0) hb); replace BK596 := bb BK596 hb; replace BK597 := bb BK597 hb; replace HB := sb HB hb; (try clear hb); (try clear ho0); refine hK.out _ _ cz (fun hH => ?_); clear hK K; refine nz 42 ?_; refine pZ 5 (some 37) #[true, true, true, true, true, true, false, false, false, false] HT_ ?_; refine pZ 6 (some 43) #[true, true, true, true, true, true, true, false, false, false] HT_ ?_; refine pZ 7 (some 44) #[true, true, true, true, true, true, true, true, false, false] HT_ ?_; refine pZ 8 (some 11) #[true, true, true, true, true, true, true, true, true, false] HT_ ?_; refine pZ 9 (some 12) #[true, true, true, true, true, true, true, true, true, true] HT_ ?_; refine done_ (done_of HT_.out (by kernel_rfl)) ?_
      try go_wp2_with (first | ((with_reducible refine gc 9 rfl ?_); refine gl (some 46) Tryz.func9 #[.slice A0 l0.length c0] ?_; (with_reducible refine (Rf_ProfileErr.calls k _ _ l0 t619 _ ?side1 ?side2 A14.out).mono ?_); (case side1 => exact cb HR0 HB); (case side2 => exact HC0.out); rintro e w' ⟨rfl, ⟨nd, rfl⟩⟩; refine ⟨_, rfl, ?_⟩))
      (try (rw [drewN_self w34]; generalize hq_ : World.drewN w34 _ = w34; have n0_ : Aside0 (Kd.R (Kd.int .i64) 3 w34 w.heap.size (fun k_ => some k_ ≠ (.slice Ao29 t605.length co29 : Value).ownBlock ∧ some k_ ≠ (.slice Ao33 t612.length co33 : Value).ownBlock) (.slice Ao25 t600.length co25) t600) := ⟨by rw [← hq_]; exact (by (with_reducible repeat (first | apply Kd.R_alloc | apply Kd.R_drewN | apply Kd.R_drew)); exact Kd.R_mono HO602.out (fun _ hk => ⟨hk.1.2, hk.2⟩))⟩; have n1_ : Aside0 (Kd.R (Kd.int .i64) 3 w34 w.heap.size (fun k_ => some k_ ≠ (.slice Ao25 t600.length co25 : Value).ownBlock ∧ some k_ ≠ (.slice Ao33 t612.length co33 : Value).ownBlock) (.slice Ao29 t605.length co29) t605) := ⟨by rw [← hq_]; exact (by (with_reducible repeat (first | apply Kd.R_alloc | apply Kd.R_drewN | apply Kd.R_drew)); exact Kd.R_mono HO607.out (fun _ hk => ⟨hk.1.2, hk.2⟩))⟩; have n2_ : Aside0 (Kd.R k40 40 w34 w.heap.size (fun k_ => some k_ ≠ (v616 : Value).ownBlock) v609 t608) := ⟨by rw [← hq_]; exact (by (with_reducible repeat (first | apply Kd.R_alloc | apply Kd.R_drewN | apply Kd.R_drew)); exact Kd.R_mono HO610.out (fun _ hk => by first | exact hk.2 | exact hk))⟩; have n3_ : Aside0 (Kd.R (Kd.int .i64) 3 w34 w.heap.size (fun k_ => some k_ ≠ (.slice Ao25 t600.length co25 : Value).ownBlock ∧ some k_ ≠ (.slice Ao29 t605.length co29 : Value).ownBlock) (.slice Ao33 t612.length co33) t612) := ⟨by rw [← hq_]; exact (by (with_reducible repeat (first | apply Kd.R_alloc | apply Kd.R_drewN | apply Kd.R_drew)); exact Kd.R_mono HO614.out (fun _ hk => ⟨hk.1.2, hk.2⟩))⟩; have n4_ : Aside0 (Kd.R k40 40 w34 w.heap.size (fun k_ => some k_ ≠ (v609 : Value).ownBlock) v616 t615) := ⟨by rw [← hq_]; exact (by (with_reducible repeat (first | apply Kd.R_alloc | apply Kd.R_drewN | apply Kd.R_drew)); exact Kd.R_mono HO617.out (fun _ hk => by first | exact hk.2 | exact hk))⟩; have n5_ := gd BK596 hq_; have n6_ := gd BK597 hq_; have n7_ := gs HB hq_; clear HO602 HO607 HO610 HO614 HO617 BK596 BK597 HB hq_; have HO602 := n0_; have HO607 := n1_; have HO610 := n2_; have HO614 := n3_; have HO617 := n4_; have BK596 := n5_; have BK597 := n6_; have HB := n7_; clear n0_ n1_ n2_ n3_ n4_ n5_ n6_ n7_))
      replace HO602 := m0 (Kd.R_drew HO602.out); replace HO607 := m0 (Kd.R_drew HO607.out); replace HO610 := m0 (Kd.R_drew HO610.out); replace HO614 := m0 (Kd.R_drew HO614.out); replace HO617 := m0 (Kd.R_drew HO617.out); replace BK596 := bd BK596; replace BK597 := bd BK597; replace HB := sd HB; refine start_ (n := 10) (S := fun w' => w'.cell? ⟨gb596, 0, none⟩ = some (.int .i64 a1_0) ∧ w'.cell? ⟨gb596, 1, none⟩ = some (.int .i64 a1_1) ∧ w'.cell? ⟨gb596, 2, none⟩ = some (.int .i64 a1_2) ∧ w'.cell? ⟨gb596, 3, none⟩ = some (.int .i64 a1_3) ∧ w'.cell? ⟨gb596, 4, none⟩ = some (.int .i64 a1_4) ∧ w'.cell? ⟨gb596, 5, none⟩ = some (.int .i64 a1_5)) (ds := []) _ (by kernel_rfl) rfl rfl cz (fun hH => ?_); refine with_tabW Lw_CloudSeeing.tab9 Lw_CloudSeeing.bits9 (fun HT_ HW_ => ?_); generalize w34.drew = w35 at HO602 HO607 HO610 HO614 HO617 BK596 BK597 HB hH ⊢; refine pZ 0 (some 47) #[true, false, false, false, false, false, false, false, false, false] HT_ ?_; refine pZ 1 (some 48) #[true, true, false, false, false, false, false, false, false, false] HT_ ?_; refine pZ 4 (some 51) #[true, true, false, false, true, false, false, false, false, false] HT_ ?_; refine takeZ 2 (some 49) #[true, true, true, false, true, false, false, false, false, false] (tw HT_ HW_) hH ?_; refine takeZ 5 (some 52) #[true, true, true, false, true, true, false, false, false, false] (tw HT_ HW_) hH ?_; refine oneZ 3 (some 50) #[true, true, true, true, true, true, false, false, false, false] (o1 HT_) fun K hK => ?_; refine gz Tryz.func14 #[.int .i64 a1_0] ?_
      with_reducible refine (Rf_ConstantErr.calls a1_0 t620 _ A15.out).mono ?_
      rintro e w' ⟨rfl, ⟨nd, rfl⟩⟩; refine ⟨_, rfl, ?_⟩; refine hK.out _ _ cz (fun hH => ?_); clear hK K; refine nz 50 ?_; refine oneZ 6 (some 53) #[true, true, true, true, true, true, true, false, false, false] (o1 HT_) fun K hK => ?_; refine gz Tryz.func15 #[.agg #[.int .i64 a1_1, .int .i64 a1_2]] ?_
      with_reducible refine (Rf_PartErr.calls k a1_1 a1_2 t621 _ A16.out).mono ?_
      rintro e w36 ⟨rfl, hb⟩; refine ⟨_, rfl, ?_⟩; replace HO602 := rb HO602 hb; replace HO607 := rb HO607 hb; replace HO610 := rb HO610 hb; replace HO614 := rb HO614 hb; replace HO617 := rb HO617 hb; replace BK596 := bb BK596 hb; replace BK597 := bb BK597 hb; replace HB := sb HB hb; (try clear hb); refine hK.out _ _ cz (fun hH => ?_); clear hK K; refine nz 53 ?_; refine oneZ 7 (some 54) #[true, true, true, true, true, true, true, true, false, false] (o1 HT_) fun K hK => ?_; refine gz Tryz.func19 #[.int .i64 t620, .int .i64 t621] ?_
      with_reducible refine (Lw_both.calls t620 t621 t622 _ A17.out).mono ?_
      rintro e w' ⟨rfl, ⟨nd, rfl⟩⟩; refine ⟨_, rfl, ?_⟩; refine hK.out _ _ cz (fun hH => ?_); clear hK K; refine nz 54 ?_; refine oneZ 8 (some 55) #[true, true, true, true, true, true, true, true, true, false] (o1 HT_) fun K hK => ?_; refine gz Tryz.func19 #[.int .i64 t619, .int .i64 t622] ?_
      with_reducible refine (Lw_both.calls t619 t622 t623 _ A18.out).mono ?_
      rintro e w' ⟨rfl, ⟨nd, rfl⟩⟩; refine ⟨_, rfl, ?_⟩; refine hK.out _ _ cz (fun hH => ?_); clear hK K; refine nz 55 ?_; refine pZ 9 (some 14) #[true, true, true, true, true, true, true, true, true, true] HT_ ?_; refine done_ (done_of HT_.out (by kernel_rfl)) ?_
      go_upto_region 10 with (fail)
      go_cut [66] (fun v66 wc => ∃ (kq : Nat) (x66_18 : Bool), v66 = .bool x66_18 ∧ Aside0 (Lw_CloudSeeing.j0 kq l0 t603 t604 t608 t611 t615 t618 t619 t623 x66_18 a1_0 a1_1 a1_2 a1_3 a1_4 a1_5 a2_0 a2_1 a2_2 a2_3 = some r) ∧ Aside0 (kq ≤ k) ∧ Aside0 (Kd.R k40 40 wc w.heap.size (fun k_ => some k_ ≠ (v616 : Value).ownBlock) v609 t608) ∧ Aside0 (Kd.R k40 40 wc w.heap.size (fun k_ => some k_ ≠ (v609 : Value).ownBlock) v616 t615) ∧ Aside0 (wc.heap[gb596]? = some (.cells #[.int .i64 a1_0, .int .i64 a1_1, .int .i64 a1_2, .int .i64 a1_3, .int .i64 a1_4, .int .i64 a1_5] 28 (0, 0))) ∧ Aside0 (wc.heap[gb597]? = some (.cells #[.int .i64 a2_0, .int .i64 a2_1, .int .i64 a2_2, .int .i64 a2_3] 48 (0, 0))) ∧ Aside0 (Below w.heap.size w wc))
      case first =>
        have H := HC19.out; clear HC19
        by_cases c37 : t623 = 0
        · rw [if_pos c37] at H; have c37b0 := beq_iff_eq.mpr c37; have c37b1 := bne_eq_false_iff_eq.mpr c37; clear c37
          (first | rw [c37b0] | (simp only [i64_w, i32_w]; rw [c37b0]) | skip)
          replace H := oa H; obtain ⟨t624, A38, H⟩ := H; (try dsimp only at H); have H' := m0 H; clear H; have hnb39 := NB596_597.out; have hnc39 := NB597_596.out; obtain ⟨hcz40_0, hcz40_1, hcz40_2, hcz40_3, hcz40_4, hcz40_5, hfz40_0, hfz40_1, hfz40_2, hfz40_3, hfz40_4, hfz40_5⟩ := b6 BK596
          go_wp2_with (first | (go_at_call 16; (with_reducible refine (Rf_Rest.calls k _ _ l0 a1_0 (l0.length : Int) t624 _ ?side1 ?side2 A38.out).mono ?_); (case side1 => exact cb HR0 HB); (case side2 => exact HC0.out); rintro e w' ⟨rfl, ⟨nd, rfl⟩⟩))
          go_meet
          case rel => exact ⟨_, (decide (t624 < 0)), rz, H', ⟨by first | omega | exact Nat.le_refl _⟩, ⟨by (with_reducible repeat (first | apply Kd.R_alloc | apply Kd.R_drewN | apply Kd.R_drew)); exact Kd.R_mono HO610.out (fun _ hk => by first | exact hk.2 | exact hk)⟩, ⟨by (with_reducible repeat (first | apply Kd.R_alloc | apply Kd.R_drewN | apply Kd.R_drew)); exact Kd.R_mono HO617.out (fun _ hk => by first | exact hk.2 | exact hk)⟩, ⟨bk BK596.out⟩, ⟨bk BK597.out⟩, ⟨bz⟩⟩
        · rw [if_neg c37] at H; have c37b0 := beq_eq_false_iff_ne.mpr c37; have c37b1 := bne_iff_ne.mpr c37
          (first | rw [c37b0] | (simp only [i64_w, i32_w]; rw [c37b0]) | skip)
          have H' := m0 H; clear H
          go_wp2
          go_meet
          case rel => exact ⟨_, (false), rz, H', ⟨by first | omega | exact Nat.le_refl _⟩, ⟨by (with_reducible repeat (first | apply Kd.R_alloc | apply Kd.R_drewN | apply Kd.R_drew)); exact Kd.R_mono HO610.out (fun _ hk => by first | exact hk.2 | exact hk)⟩, ⟨by (with_reducible repeat (first | apply Kd.R_alloc | apply Kd.R_drewN | apply Kd.R_drew)); exact Kd.R_mono HO617.out (fun _ hk => by first | exact hk.2 | exact hk)⟩, ⟨bk BK596.out⟩, ⟨bk BK597.out⟩, ⟨bz⟩⟩
      case rest =>
        clear HC19
        try clear hcz40_0
        try clear hcz40_1
        try clear hcz40_2
        try clear hcz40_3
        try clear hcz40_4
        try clear hcz40_5
        try clear hfz40_0
        try clear hfz40_1
        try clear hfz40_2
        try clear hfz40_3
        try clear hfz40_4
        try clear hfz40_5
        obtain ⟨kq, x66_18, rfl, HA, HJ18, HO_9, HO_11, BK596, BK597, HB⟩ := hcut
        cases kq with
        | zero => exact absurd HA.out (by simp [Lw_CloudSeeing.j0])
        | succ kj18 =>
          have H := HA.out; clear HA; simp only [Lw_CloudSeeing.j0] at H; have HC41 := m0 H; clear H
          go_upto_if 66 with (fail)
          go_cut [14] (fun v14 wc => ∃ (kq : Nat) (x14_40 : Int), v14 = .int .i64 x14_40 ∧ Aside0 (Lw_CloudSeeing.j1 kq l0 t603 t604 t608 t611 t615 t618 t619 x14_40 a1_0 a1_1 a1_2 a1_3 a1_4 a1_5 a2_0 a2_1 a2_2 a2_3 = some r) ∧ Aside0 (kq ≤ kj18) ∧ Aside0 (Kd.R k40 40 wc w.heap.size (fun k_ => some k_ ≠ (v616 : Value).ownBlock) v609 t608) ∧ Aside0 (Kd.R k40 40 wc w.heap.size (fun k_ => some k_ ≠ (v609 : Value).ownBlock) v616 t615) ∧ Aside0 (wc.heap[gb596]? = some (.cells #[.int .i64 a1_0, .int .i64 a1_1, .int .i64 a1_2, .int .i64 a1_3, .int .i64 a1_4, .int .i64 a1_5] 28 (0, 0))) ∧ Aside0 (wc.heap[gb597]? = some (.cells #[.int .i64 a2_0, .int .i64 a2_1, .int .i64 a2_2, .int .i64 a2_3] 48 (0, 0))) ∧ Aside0 (Below w.heap.size w wc))
          case first =>
            have H := HC41.out; clear HC41
            by_cases c42 : x66_18 = true
            · subst c42; rw [if_pos rfl] at H; have H' := m0 H; clear H
              go_wp2
              go_meet
              case rel => exact ⟨_, (20), rz, H', ⟨by have := HJ18.out; first | omega | exact Nat.le_refl _⟩, ⟨br HO_9.out⟩, ⟨br HO_11.out⟩, ⟨bk BK596.out⟩, ⟨bk BK597.out⟩, ⟨bz⟩⟩
            · replace c42 := Bool.eq_false_iff.mpr c42; subst c42; rw [if_neg (show ¬ (false = true) by decide)] at H; have H' := m0 H; clear H
              go_wp2
              go_meet
              case rel => exact ⟨_, (t623), rz, H', ⟨by have := HJ18.out; first | omega | exact Nat.le_refl _⟩, ⟨br HO_9.out⟩, ⟨br HO_11.out⟩, ⟨bk BK596.out⟩, ⟨bk BK597.out⟩, ⟨bz⟩⟩
          case rest =>
            clear HC41
            try clear hcz40_0
            try clear hcz40_1
            try clear hcz40_2
            try clear hcz40_3
            try clear hcz40_4
            try clear hcz40_5
            try clear hfz40_0
            try clear hfz40_1
            try clear hfz40_2
            try clear hfz40_3
            try clear hfz40_4
            try clear hfz40_5
            obtain ⟨kq, x14_40, rfl, HA, HJ40, HO_9, HO_11, BK596, BK597, HB⟩ := hcut
            cases kq with
            | zero => exact absurd HA.out (by simp [Lw_CloudSeeing.j1])
            | succ kj40 =>
              have H := HA.out; clear HA; simp only [Lw_CloudSeeing.j1] at H; have HC43 := m0 H; clear H
              go_upto_region 12 with (fail)
              go_cut [95] (fun v95 wc => ∃ (kq : Nat) (x95_42 : Bool), v95 = .bool x95_42 ∧ Aside0 (Lw_CloudSeeing.j2 kq l0 t608 t611 t615 t618 t619 x95_42 a1_0 a1_1 a1_2 a1_3 a1_4 a1_5 a2_0 a2_1 a2_2 a2_3 = some r) ∧ Aside0 (kq ≤ kj40) ∧ Aside0 (Kd.R k40 40 wc w.heap.size (fun k_ => some k_ ≠ (v616 : Value).ownBlock) v609 t608) ∧ Aside0 (Kd.R k40 40 wc w.heap.size (fun k_ => some k_ ≠ (v609 : Value).ownBlock) v616 t615) ∧ Aside0 (wc.heap[gb596]? = some (.cells #[.int .i64 a1_0, .int .i64 a1_1, .int .i64 a1_2, .int .i64 a1_3, .int .i64 a1_4, .int .i64 a1_5] 28 (0, 0))) ∧ Aside0 (wc.heap[gb597]? = some (.cells #[.int .i64 a2_0, .int .i64 a2_1, .int .i64 a2_2, .int .i64 a2_3] 48 (0, 0))) ∧ Aside0 (Below w.heap.size w wc))
              case first =>
                have H := HC43.out; clear HC43
                by_cases c44 : x14_40 = 0
                · rw [if_pos c44] at H; have c44b0 := beq_iff_eq.mpr c44; have c44b1 := bne_eq_false_iff_eq.mpr c44; clear c44
                  (first | rw [c44b0] | (simp only [i64_w, i32_w]; rw [c44b0]) | skip)
                  by_cases c45 : t604 = 0
                  · rw [if_pos c45] at H; have c45b0 := beq_iff_eq.mpr c45; have c45b1 := bne_eq_false_iff_eq.mpr c45; clear c45; replace H := oa H; obtain ⟨t625, A46, H⟩ := H; (try dsimp only at H); have H' := m0 H; clear H; have hnb47 := NB596_597.out; have hnc47 := NB597_596.out; obtain ⟨hcz48_0, hcz48_1, hcz48_2, hcz48_3, hcz48_4, hcz48_5, hfz48_0, hfz48_1, hfz48_2, hfz48_3, hfz48_4, hfz48_5⟩ := b6 BK596
                    go_wp2_with (first | (go_at_call 20; (with_reducible refine (Rf_Visibility.calls kj40 _ _ l0 a1_0 a1_1 a1_2 t625 _ ?side1 ?side2 A46.out).mono ?_); (case side1 => exact cb HR0 HB); (case side2 => exact HC0.out); rintro e w49 ⟨rfl, hb⟩; replace HO_9 := rb HO_9 hb; replace HO_11 := rb HO_11 hb; replace BK596 := bb BK596 hb; replace BK597 := bb BK597 hb; replace HB := sb HB hb; (try clear hb)))
                    go_meet
                    case rel => exact ⟨_, ((t603 != t625)), rz, H', ⟨by have := HJ18.out; have := HJ40.out; first | omega | exact Nat.le_refl _⟩, ⟨br HO_9.out⟩, ⟨br HO_11.out⟩, ⟨bk BK596.out⟩, ⟨bk BK597.out⟩, ⟨bz⟩⟩
                  · rw [if_neg c45] at H; exact absurd H (by simp)
                · rw [if_neg c44] at H; have c44b0 := beq_eq_false_iff_ne.mpr c44; have c44b1 := bne_iff_ne.mpr c44
                  (first | rw [c44b0] | (simp only [i64_w, i32_w]; rw [c44b0]) | skip)
                  by_cases c50 : t604 = x14_40
                  · rw [if_pos c50] at H; have c50b0 := beq_iff_eq.mpr c50; have c50b1 := bne_eq_false_iff_eq.mpr c50; clear c50
                    by_cases c51 : t603 = 0
                    · rw [if_pos c51] at H; have c51b0 := beq_iff_eq.mpr c51; have c51b1 := bne_eq_false_iff_eq.mpr c51; clear c51; have H' := m0 H; clear H
                      go_wp2
                      go_meet
                      case rel => exact ⟨_, (false), rz, H', ⟨by have := HJ18.out; have := HJ40.out; first | omega | exact Nat.le_refl _⟩, ⟨br HO_9.out⟩, ⟨br HO_11.out⟩, ⟨bk BK596.out⟩, ⟨bk BK597.out⟩, ⟨bz⟩⟩
                    · rw [if_neg c51] at H; exact absurd H (by simp)
                  · rw [if_neg c50] at H; exact absurd H (by simp)
              case rest =>
                clear HC43
                try clear hcz40_0
                try clear hcz40_1
                try clear hcz40_2
                try clear hcz40_3
                try clear hcz40_4
                try clear hcz40_5
                try clear hcz48_0
                try clear hcz48_1
                try clear hcz48_2
                try clear hcz48_3
                try clear hcz48_4
                try clear hcz48_5
                try clear hfz40_0
                try clear hfz40_1
                try clear hfz40_2
                try clear hfz40_3
                try clear hfz40_4
                try clear hfz40_5
                try clear hfz48_0
                try clear hfz48_1
                try clear hfz48_2
                try clear hfz48_3
                try clear hfz48_4
                try clear hfz48_5
                obtain ⟨kq, x95_42, rfl, HA, HJ42, HO_9, HO_11, BK596, BK597, HB⟩ := hcut
                cases kq with
                | zero => exact absurd HA.out (by simp [Lw_CloudSeeing.j2])
                | succ kj42 =>
                  have H := HA.out; clear HA; simp only [Lw_CloudSeeing.j2] at H
                  by_cases c52 : x95_42 = true
                  · subst c52; rw [if_pos rfl] at H; exact absurd H (by simp)
                  · replace c52 := Bool.eq_false_iff.mpr c52; subst c52; rw [if_neg (show ¬ (false = true) by decide)] at H; replace H := oa H; obtain ⟨t626, A53, H⟩ := H; (try dsimp only at H); replace H := oa H; obtain ⟨t627, A54, H⟩ := H; (try dsimp only at H); have HC55 := m0 H; clear H; have hnb56 := NB597_596.out; have hnc56 := NB596_597.out; obtain ⟨hcz57_0, hcz57_1, hcz57_2, hcz57_3, hfz57_0, hfz57_1, hfz57_2, hfz57_3⟩ := b4 BK597
                    go_upto_region 15 with (first | ((with_reducible refine gc 21 rfl ?_); refine gl (some 98) Tryz.func21 #[.agg #[.int .i64 a2_0, .int .i64 a2_1, .int .i64 a2_2, .int .i64 a2_3]] ?_; (with_reducible refine (Rf_BlindErr.calls kj42 a2_0 a2_1 a2_2 a2_3 t626 _ A53.out).mono ?_); rintro e w58 ⟨rfl, hb⟩; refine ⟨_, rfl, ?_⟩; replace HO_9 := rb HO_9 hb; replace HO_11 := rb HO_11 hb; replace BK596 := bb BK596 hb; replace BK597 := bb BK597 hb; replace HB := sb HB hb; (try clear hb)) | ((with_reducible refine gc 19 rfl ?_); refine gl (some 99) Tryz.func19 #[.int .i64 t619, .int .i64 t626] ?_; (with_reducible refine (Lw_both.calls t619 t626 t627 _ A54.out).mono ?_); rintro e w' ⟨rfl, ⟨nd, rfl⟩⟩; refine ⟨_, rfl, ?_⟩))
                    (try simp only [Act.put, List.setIfInBounds_toArray, List.set_cons_zero, List.set_cons_succ])
                    go_cut [127] (fun v127 wc => ∃ (kq : Nat) (x127_54 : Bool), v127 = .bool x127_54 ∧ Aside0 (Lw_CloudSeeing.j3 kq l0 t615 t618 t619 x127_54 a1_0 a1_1 a1_2 a1_3 a1_4 a1_5 = some r) ∧ Aside0 (kq ≤ kj42) ∧ Aside0 (Kd.R k40 40 wc w.heap.size (fun _ => True) v616 t615) ∧ Aside0 (wc.heap[gb596]? = some (.cells #[.int .i64 a1_0, .int .i64 a1_1, .int .i64 a1_2, .int .i64 a1_3, .int .i64 a1_4, .int .i64 a1_5] 28 (0, 0))) ∧ Aside0 (wc.heap[gb597]? = some (.cells #[.int .i64 a2_0, .int .i64 a2_1, .int .i64 a2_2, .int .i64 a2_3] 48 (0, 0))) ∧ Aside0 (Below w.heap.size w wc))
                    case first =>
                      have H := HC55.out; clear HC55
                      by_cases c59 : t627 = 0
                      · rw [if_pos c59] at H; have c59b0 := beq_iff_eq.mpr c59; have c59b1 := bne_eq_false_iff_eq.mpr c59; clear c59
                        (first | rw [c59b0] | (simp only [i64_w, i32_w]; rw [c59b0]) | skip)
                        by_cases c60 : t611 = 0
                        · rw [if_pos c60] at H; have c60b0 := beq_iff_eq.mpr c60; have c60b1 := bne_eq_false_iff_eq.mpr c60; clear c60; replace H := oa H; obtain ⟨t628, A61, H⟩ := H; (try dsimp only at H); replace H := oa H; obtain ⟨t631, A62, H⟩ := H; (try dsimp only at H); have H' := m0 H; clear H; have hnb63 := NB597_596.out; have hnc63 := NB596_597.out; obtain ⟨hcz64_0, hcz64_1, hcz64_2, hcz64_3, hfz64_0, hfz64_1, hfz64_2, hfz64_3⟩ := b4 BK597
                          go_wp2_with (first | (go_at_call 23; (with_reducible refine (Rf_Blind.calls kj42 _ _ l0 a2_0 a2_1 a2_2 a2_3 t628 _ ?side1 ?side2 A61.out).mono ?_); (case side1 => exact cb HR0 HB); (case side2 => exact HC0.out); rintro e w65 ⟨v629, rfl, ho0, hb⟩; have HO630 := m0 (Kd.R_lower (Kd.R_new' (Kd.R_new' ho0 (Kd.R_lt (br HO_9.out))) (Kd.R_lt (br HO_11.out))) (below_size bz)); replace HO_9 := m0 (Kd.R_elder' (br HO_9.out) (Kd.R_base ho0) hb); replace HO_11 := m0 (Kd.R_elder' (br HO_11.out) (Kd.R_base ho0) hb); replace BK596 := bb BK596 hb; replace BK597 := bb BK597 hb; replace HB := sb HB hb; (try clear hb); (try clear ho0); obtain ⟨Ao66, co66, eo66⟩ := Kd.R_slice HO_9.out; subst eo66; obtain ⟨Ao67, co67, eo67⟩ := Kd.R_slice HO630.out; subst eo67) | (go_at_call 22; (with_reducible refine (Bs_Ranges.calls kj42 _ _ t608 _ _ t628 t631 _ ?side1 ?side2 ?side3 ?side4 A62.out).mono ?_); (case side1 => exact bc (Kd.R_reads' HO_9.out).2.2); (case side2 => exact (Kd.R_reads' HO_9.out).2.1); (case side3 => exact bc (Kd.R_reads' HO630.out).2.2); (case side4 => exact (Kd.R_reads' HO630.out).2.1); rintro e w' ⟨rfl, ⟨nd, rfl⟩⟩))
                          go_meet
                          case rel => exact ⟨_, (!t631), rz, H', ⟨by have := HJ18.out; have := HJ40.out; have := HJ42.out; first | omega | exact Nat.le_refl _⟩, ⟨by (with_reducible repeat (first | apply Kd.R_alloc | apply Kd.R_drewN | apply Kd.R_drew)); exact Kd.R_mono HO_11.out (fun _ hk => trivial)⟩, ⟨bk BK596.out⟩, ⟨bk BK597.out⟩, ⟨bz⟩⟩
                        · rw [if_neg c60] at H; exact absurd H (by simp)
                      · rw [if_neg c59] at H; have c59b0 := beq_eq_false_iff_ne.mpr c59; have c59b1 := bne_iff_ne.mpr c59
                        (first | rw [c59b0] | (simp only [i64_w, i32_w]; rw [c59b0]) | skip)
                        by_cases c68 : t611 = t627
                        · rw [if_pos c68] at H; have c68b0 := beq_iff_eq.mpr c68; have c68b1 := bne_eq_false_iff_eq.mpr c68; clear c68
                          by_cases c69 : (t608.length : Int) = 0
                          · rw [if_pos c69] at H; have c69b0 := beq_iff_eq.mpr c69; have c69b1 := bne_eq_false_iff_eq.mpr c69; clear c69; have H' := m0 H; clear H; obtain ⟨Ao70, co70, eo70⟩ := Kd.R_slice HO_9.out; subst eo70
                            go_wp2
                            go_meet
                            case rel => exact ⟨_, (false), rz, H', ⟨by have := HJ18.out; have := HJ40.out; have := HJ42.out; first | omega | exact Nat.le_refl _⟩, ⟨by (with_reducible repeat (first | apply Kd.R_alloc | apply Kd.R_drewN | apply Kd.R_drew)); exact Kd.R_mono HO_11.out (fun _ hk => trivial)⟩, ⟨bk BK596.out⟩, ⟨bk BK597.out⟩, ⟨bz⟩⟩
                          · rw [if_neg c69] at H; exact absurd H (by simp)
                        · rw [if_neg c68] at H; exact absurd H (by simp)
                    case rest =>
                      clear HC55
                      try clear hcz40_0
                      try clear hcz40_1
                      try clear hcz40_2
                      try clear hcz40_3
                      try clear hcz40_4
                      try clear hcz40_5
                      try clear hcz48_0
                      try clear hcz48_1
                      try clear hcz48_2
                      try clear hcz48_3
                      try clear hcz48_4
                      try clear hcz48_5
                      try clear hcz57_0
                      try clear hcz57_1
                      try clear hcz57_2
                      try clear hcz57_3
                      try clear hcz64_0
                      try clear hcz64_1
                      try clear hcz64_2
                      try clear hcz64_3
                      try clear hfz40_0
                      try clear hfz40_1
                      try clear hfz40_2
                      try clear hfz40_3
                      try clear hfz40_4
                      try clear hfz40_5
                      try clear hfz48_0
                      try clear hfz48_1
                      try clear hfz48_2
                      try clear hfz48_3
                      try clear hfz48_4
                      try clear hfz48_5
                      try clear hfz57_0
                      try clear hfz57_1
                      try clear hfz57_2
                      try clear hfz57_3
                      try clear hfz64_0
                      try clear hfz64_1
                      try clear hfz64_2
                      try clear hfz64_3
                      obtain ⟨kq, x127_54, rfl, HA, HJ54, HO_11, BK596, BK597, HB⟩ := hcut
                      cases kq with
                      | zero => exact absurd HA.out (by simp [Lw_CloudSeeing.j3])
                      | succ kj54 =>
                        have H := HA.out; clear HA; simp only [Lw_CloudSeeing.j3] at H
                        by_cases c71 : x127_54 = true
                        · subst c71; rw [if_pos rfl] at H; exact absurd H (by simp)
                        · replace c71 := Bool.eq_false_iff.mpr c71; subst c71; rw [if_neg (show ¬ (false = true) by decide)] at H; replace H := oa H; obtain ⟨t632, A72, H⟩ := H; (try dsimp only at H); replace H := oa H; obtain ⟨t633, A73, H⟩ := H; (try dsimp only at H)
                          by_cases c74 : t633 = 0
                          · rw [if_pos c74] at H; have c74b0 := beq_iff_eq.mpr c74; have c74b1 := bne_eq_false_iff_eq.mpr c74; clear c74
                            by_cases c75 : t618 = 0
                            · rw [if_pos c75] at H; have c75b0 := beq_iff_eq.mpr c75; have c75b1 := bne_eq_false_iff_eq.mpr c75; clear c75; replace H := oa H; obtain ⟨t634, A76, H⟩ := H; (try dsimp only at H); replace H := oa H; obtain ⟨t637, A77, H⟩ := H; (try dsimp only at H); obtain rfl := Option.some.inj H; have hnb78 := NB596_597.out; have hnc78 := NB597_596.out; obtain ⟨_, _, _, _, _, _, _, _, _, _, _, _⟩ := b6 BK596
                              go_wp2_with (first | ((with_reducible refine gc 10 rfl ?_); refine gl (some 131) Tryz.func10 #[.agg #[.int .i64 a1_3, .int .i64 a1_4, .int .i64 a1_5]] ?_; (with_reducible refine (Rf_RuleErr.calls a1_3 a1_4 a1_5 t632 _ A72.out).mono ?_); rintro e w80 ⟨rfl, hb⟩; refine ⟨_, rfl, ?_⟩; replace HO_11 := rb HO_11 hb; replace BK596 := bb BK596 hb; replace BK597 := bb BK597 hb; replace HB := sb HB hb; (try clear hb)) | ((with_reducible refine gc 19 rfl ?_); refine gl (some 132) Tryz.func19 #[.int .i64 t619, .int .i64 t632] ?_; (with_reducible refine (Lw_both.calls t619 t632 t633 _ A73.out).mono ?_); rintro e w' ⟨rfl, ⟨nd, rfl⟩⟩; refine ⟨_, rfl, ?_⟩; obtain ⟨_, _, _, _, _, _, _, _, _, _, _, _⟩ := b6 BK596) | (go_at_call 24; (with_reducible refine (Rf_Layers.calls kj54 _ _ l0 a1_3 a1_4 a1_5 t634 _ ?side1 ?side2 A76.out).mono ?_); (case side1 => repeat (first | exact (Kd.C_below HR0.out bz) | (with_reducible refine Kd.C_alloc ?_ _) | (with_reducible refine Kd.C_drewN ?_ _) | (with_reducible refine Kd.C_drew ?_))); (case side2 => exact HC0.out); rintro e w82 ⟨v635, rfl, ho0, hb⟩; have HO636 := m0 (Kd.R_lower (Kd.R_new' ho0 (Kd.R_lt (br HO_11.out))) (below_size bz)); replace HO_11 := m0 (Kd.R_elder' (br HO_11.out) (Kd.R_base ho0) hb); replace BK596 := bb BK596 hb; replace BK597 := bb BK597 hb; replace HB := sb HB hb; (try clear hb); (try clear ho0); obtain ⟨Ao83, co83, eo83⟩ := Kd.R_slice HO_11.out; subst eo83; obtain ⟨Ao84, co84, eo84⟩ := Kd.R_slice HO636.out; subst eo84) | (go_at_call 22; (with_reducible refine (Bs_Ranges.calls kj54 _ _ t615 _ _ t634 t637 _ ?side1 ?side2 ?side3 ?side4 A77.out).mono ?_); (case side1 => exact bc (Kd.R_reads' HO_11.out).2.2); (case side2 => exact (Kd.R_reads' HO_11.out).2.1); (case side3 => exact bc (Kd.R_reads' HO636.out).2.2); (case side4 => exact (Kd.R_reads' HO636.out).2.1); rintro e w' ⟨rfl, ⟨nd, rfl⟩⟩))
                              go_ret
                              exact ez
                            · rw [if_neg c75] at H; exact absurd H (by simp)
                          · rw [if_neg c74] at H; have c74b0 := beq_eq_false_iff_ne.mpr c74; have c74b1 := bne_iff_ne.mpr c74
                            by_cases c85 : t618 = t633
                            · rw [if_pos c85] at H; have c85b0 := beq_iff_eq.mpr c85; have c85b1 := bne_eq_false_iff_eq.mpr c85; clear c85; obtain rfl := Option.some.inj H; have hnb86 := NB596_597.out; have hnc86 := NB597_596.out; obtain ⟨_, _, _, _, _, _, _, _, _, _, _, _⟩ := b6 BK596
                              go_wp2_with (first | ((with_reducible refine gc 10 rfl ?_); refine gl (some 131) Tryz.func10 #[.agg #[.int .i64 a1_3, .int .i64 a1_4, .int .i64 a1_5]] ?_; (with_reducible refine (Rf_RuleErr.calls a1_3 a1_4 a1_5 t632 _ A72.out).mono ?_); rintro e w88 ⟨rfl, hb⟩; refine ⟨_, rfl, ?_⟩; replace HO_11 := rb HO_11 hb; replace BK596 := bb BK596 hb; replace BK597 := bb BK597 hb; replace HB := sb HB hb; (try clear hb)) | ((with_reducible refine gc 19 rfl ?_); refine gl (some 132) Tryz.func19 #[.int .i64 t619, .int .i64 t632] ?_; (with_reducible refine (Lw_both.calls t619 t632 t633 _ A73.out).mono ?_); rintro e w' ⟨rfl, ⟨nd, rfl⟩⟩; refine ⟨_, rfl, ?_⟩; obtain ⟨Ao89, co89, eo89⟩ := Kd.R_slice HO_11.out; subst eo89))
                              go_ret
                              exact ez
                            · rw [if_neg c85] at H; exact absurd H (by simp)
    · replace c7 := Bool.eq_false_iff.mpr c7; subst c7; rw [if_neg (show ¬ (false = true) by decide)] at H; obtain rfl := Option.some.inj H; go_enter Tryz.func4, Tryz.ntmps4
      go_wp2_with (first | ((with_reducible refine ga 4 rfl ?_); (try (refine gate_guard (by rfl) ?_; dsimp only)); refine be 4 28 #[.int .i64 a1_0, .int .i64 a1_1, .int .i64 a1_2, .int .i64 a1_3, .int .i64 a1_4, .int .i64 a1_5] ?_; intro gb596 hg w90 hbox hb; have BK596 := m0 hbox; have GE596 := gw w hg; replace HB := sb HB hb; clear hb hbox hg) | ((with_reducible refine ga 5 rfl ?_); (try (refine gate_guard (by rfl) ?_; dsimp only)); refine be 5 48 #[.int .i64 a2_0, .int .i64 a2_1, .int .i64 a2_2, .int .i64 a2_3] ?_; intro gb597 hg w91 hbox hb; have BK597 := m0 hbox; have GE597 := gw w hg; replace HB := sb HB hb; have NB596_597 := nl BK596 hg; have NB597_596 := ng (nl BK596 hg); replace BK596 := bb BK596 hb; clear hb hbox hg) | ((with_reducible refine gc 7 rfl ?_); refine gl (some 15) Tryz.func7 #[] ?_; (with_reducible refine (Lw_awake.calls k  true _ A4.out).mono ?_); rintro e w92 ⟨rfl, hb⟩; refine ⟨_, rfl, ?_⟩; replace BK596 := bb BK596 hb; replace BK597 := bb BK597 hb; replace HB := sb HB hb; (try clear hb)) | ((with_reducible refine gc 8 rfl ?_); refine gl (some 18) Tryz.func8 #[.slice A0 l0.length c0] ?_; (with_reducible refine (Lw_few.calls _ _ l0 false _ ?side1 ?side2 A6.out).mono ?_); (case side1 => exact cb HR0 HB); (case side2 => exact HC0.out); rintro e w' ⟨rfl, ⟨nd, rfl⟩⟩; refine ⟨_, rfl, ?_⟩))
      go_ret
      exact ez
  · replace c5 := Bool.eq_false_iff.mpr c5; subst c5; rw [if_neg (show ¬ (false = true) by decide)] at H; exact absurd H (by simp)
end Go.Proofs.YteiafijbgjgiaaaGreat.A
