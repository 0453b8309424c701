/- Walks of the program's functions (printed, made shorter), each with what it computes. -/
import Derived.Test.YtjnkphmcndaijaaDoorErr04
import Derived.Test.YtjnkphmcndaijaaDoorErr09
import Derived.Test.YtjnkphmcndaijaaDoorErr10
import Derived.Test.YtjnkphmcndaijaaDoorErr13
import Derived.Test.YtjnkphmcndaijaaDoorErr14
import Derived.Test.YtjnkphmcndaijaaDoorErr17
import Derived.Test.YtjnkphmcndaijaaDoorErr03
namespace Go.Proofs.YtjnkphmcndaijaaDoor.A
open Go.RowKit Go.Proofs.YtjnkphmcndaijaaDoorW.PrintWords Go.Proofs.YtjnkphmcndaijaaDoorW.PrintLast Go.Proofs.YtjnkphmcndaijaaDoorW.PrintMore
attribute [local go_sem] max2_int min2_int max_two min_two max_three min_three max_four min_four
set_option linter.unusedVariables false
set_option linter.unusedSimpArgs false
attribute [local go_sem high] eqA26 eqA36
mutual
def glidepathlaw02_LineErrors.j0 : Nat → Int → Int → Int → Int → List Int → List Int → Int → Int → Int → Int → Int → Int → Int → Option (Bool)
  | 0, _, _, _, _, _, _, _, _, _, _, _, _, _ => none
  | k + 1, x1, x6, x8, x9, x546000, x546001, x546002, x546003, x560000, x560001, x573000, x573001, x573002 => if x9 = 0 then (if x8 = 0 then ((glidepathref02_Worst.f k x546000 x546001 x546002 x546003 x1).bind fun bt575 => (glidepathlaw02_LineErrors.j1 k x1 x6 ((!(x573000 == bt575.1) || (!(x573001 == bt575.2.1))) || (!(x573002 == bt575.2.2))) x546000 x546001 x546002 x546003 x560000 x560001)) else (glidepathlaw02_LineErrors.j1 k x1 x6 true x546000 x546001 x546002 x546003 x560000 x560001)) else (if x6 = x9 then (if x8 = x9 then (if (x560000 == 0 && (x560001 == 0)) = true then (some ((x573000 == 0 && (x573001 == 0)) && (x573002 == 0))) else (some false)) else (some false)) else (some false))
def glidepathlaw02_LineErrors.j1 : Nat → Int → Int → Bool → List Int → List Int → Int → Int → Int → Int → Option (Bool)
  | 0, _, _, _, _, _, _, _, _, _ => none
  | k + 1, x1, x6, x63, x546000, x546001, x546002, x546003, x560000, x560001 => if x63 = true then (some false) else (if x1 = 0 then (if x6 = 0 then ((glidepathref02_Bias.f k x546000 x546001 x546002 x546003 x1).bind fun bt578 => (some (x560000 == bt578.1 && (x560001 == bt578.2)))) else (some false)) else (if x1 = 3 then (if x6 = 0 then ((glidepathref02_Bias.f k x546000 x546001 x546002 x546003 x1).bind fun bt580 => (some (x560000 == bt580.1 && (x560001 == bt580.2)))) else (some false)) else (if x6 = 14 then (some (x560000 == 0 && (x560001 == 0))) else (some false))))
end
def glidepathlaw02_LineErrors.f (k : Nat) (l0_0 : List Int) (l0_1 : List Int) (a0_2 : Int) (a0_3 : Int) (a1 : Int) : Option (Bool) := (glidepathlaw02_awake.f k).bind fun t546 => (if t546 = true then ((glidepathlaw02_light.f k l0_0 l0_1 a0_2 a0_3).bind fun t547 => (if t547 = true then ((glidepathref02_CopyCase.f l0_0 l0_1 a0_2 a0_3).bind fun bt548 => ((line_BiasOf.f k bt548.1 bt548.2.1 bt548.2.2.1 bt548.2.2.2 a1).bind fun bt556 => ((glidepathref02_CopyCase.f l0_0 l0_1 a0_2 a0_3).bind fun bt560 => ((line_WorstOf.f k bt560.1 bt560.2.1 bt560.2.2.1 bt560.2.2.2 a1).bind fun bt568 => ((glidepathref02_CaseErr.f k l0_0 l0_1 a0_2 a0_3).bind fun t573 => (if t573 = 0 then ((glidepathref02_KindErr.f a1).bind fun t574 => (glidepathlaw02_LineErrors.j0 k a1 bt556.2.2 bt568.2.2.2 t574 l0_0 l0_1 a0_2 a0_3 bt556.1 bt556.2.1 bt568.1 bt568.2.1 bt568.2.2.1)) else (glidepathlaw02_LineErrors.j0 k a1 bt556.2.2 bt568.2.2.2 t573 l0_0 l0_1 a0_2 a0_3 bt556.1 bt556.2.1 bt568.1 bt568.2.1 bt568.2.2.1))))))) else (some true))) else (some false))
theorem glidepathlaw02_LineErrors.mono_l : ∀ k, (∀ y0 y1 y2 y3 y4 y5 y6 y7 y8 y9 y10 y11 y12, LeO (glidepathlaw02_LineErrors.j0 k y0 y1 y2 y3 y4 y5 y6 y7 y8 y9 y10 y11 y12) (glidepathlaw02_LineErrors.j0 (k + 1) y0 y1 y2 y3 y4 y5 y6 y7 y8 y9 y10 y11 y12)) ∧ (∀ y0 y1 y2 y3 y4 y5 y6 y7 y8, LeO (glidepathlaw02_LineErrors.j1 k y0 y1 y2 y3 y4 y5 y6 y7 y8) (glidepathlaw02_LineErrors.j1 (k + 1) y0 y1 y2 y3 y4 y5 y6 y7 y8))
  | 0 => ⟨fun _ _ _ _ _ _ _ _ _ _ _ _ _ r h => by simp [glidepathlaw02_LineErrors.j0] at h, fun _ _ _ _ _ _ _ _ _ r h => by simp [glidepathlaw02_LineErrors.j1] at h⟩
  | k + 1 => by
    obtain ⟨ih0, ih1⟩ := glidepathlaw02_LineErrors.mono_l k
    refine ⟨?_, ?_⟩
    · intro y0 y1 y2 y3 y4 y5 y6 y7 y8 y9 y10 y11 y12
      unfold glidepathlaw02_LineErrors.j0
      repeat' first
      | (with_reducible exact ih0 _ _ _ _ _ _ _ _ _ _ _ _ _)
      | (with_reducible exact ih1 _ _ _ _ _ _ _ _ _)
      | (with_reducible exact glidepathlaw02_awake.mono _)
      | (with_reducible exact glidepathlaw02_light.mono _ _ _ _ _)
      | (with_reducible exact glidepathref02_Bias.mono _ _ _ _ _ _)
      | (with_reducible exact glidepathref02_CaseErr.mono _ _ _ _ _)
      | (with_reducible exact glidepathref02_Worst.mono _ _ _ _ _ _)
      | (with_reducible exact line_BiasOf.mono _ _ _ _ _ _)
      | (with_reducible exact line_WorstOf.mono _ _ _ _ _ _)
      | (with_reducible exact LeO.refl _)
      | (with_reducible exact LeO.none _)
      | (with_reducible refine LeO.ite ?_ ?_)
      | (with_reducible refine LeO.bind ?_ (fun _ => ?_))
      | exact ih0 _ _ _ _ _ _ _ _ _ _ _ _ _
      | exact ih1 _ _ _ _ _ _ _ _ _
      | exact glidepathlaw02_awake.mono _
      | exact glidepathlaw02_light.mono _ _ _ _ _
      | exact glidepathref02_Bias.mono _ _ _ _ _ _
      | exact glidepathref02_CaseErr.mono _ _ _ _ _
      | exact glidepathref02_Worst.mono _ _ _ _ _ _
      | exact line_BiasOf.mono _ _ _ _ _ _
      | exact line_WorstOf.mono _ _ _ _ _ _
      | exact LeO.none _
      | refine LeO.ite ?_ ?_
      | refine LeO.bind ?_ (fun _ => ?_)
    · intro y0 y1 y2 y3 y4 y5 y6 y7 y8
      unfold glidepathlaw02_LineErrors.j1
      repeat' first
      | (with_reducible exact ih0 _ _ _ _ _ _ _ _ _ _ _ _ _)
      | (with_reducible exact ih1 _ _ _ _ _ _ _ _ _)
      | (with_reducible exact glidepathlaw02_awake.mono _)
      | (with_reducible exact glidepathlaw02_light.mono _ _ _ _ _)
      | (with_reducible exact glidepathref02_Bias.mono _ _ _ _ _ _)
      | (with_reducible exact glidepathref02_CaseErr.mono _ _ _ _ _)
      | (with_reducible exact glidepathref02_Worst.mono _ _ _ _ _ _)
      | (with_reducible exact line_BiasOf.mono _ _ _ _ _ _)
      | (with_reducible exact line_WorstOf.mono _ _ _ _ _ _)
      | (with_reducible exact LeO.refl _)
      | (with_reducible exact LeO.none _)
      | (with_reducible refine LeO.ite ?_ ?_)
      | (with_reducible refine LeO.bind ?_ (fun _ => ?_))
      | exact ih0 _ _ _ _ _ _ _ _ _ _ _ _ _
      | exact ih1 _ _ _ _ _ _ _ _ _
      | exact glidepathlaw02_awake.mono _
      | exact glidepathlaw02_light.mono _ _ _ _ _
      | exact glidepathref02_Bias.mono _ _ _ _ _ _
      | exact glidepathref02_CaseErr.mono _ _ _ _ _
      | exact glidepathref02_Worst.mono _ _ _ _ _ _
      | exact line_BiasOf.mono _ _ _ _ _ _
      | exact line_WorstOf.mono _ _ _ _ _ _
      | exact LeO.none _
      | refine LeO.ite ?_ ?_
      | refine LeO.bind ?_ (fun _ => ?_)
theorem glidepathlaw02_LineErrors.mono : ∀ a0 a1 a2 a3 a4 k, LeO (glidepathlaw02_LineErrors.f k a0 a1 a2 a3 a4) (glidepathlaw02_LineErrors.f (k + 1) a0 a1 a2 a3 a4) := by
  intro a0 a1 a2 a3 a4 k
  obtain ⟨ih0, ih1⟩ := glidepathlaw02_LineErrors.mono_l k
  unfold glidepathlaw02_LineErrors.f
  repeat' first
      | (with_reducible exact ih0 _ _ _ _ _ _ _ _ _ _ _ _ _)
      | (with_reducible exact ih1 _ _ _ _ _ _ _ _ _)
      | (with_reducible exact glidepathlaw02_awake.mono _)
      | (with_reducible exact glidepathlaw02_light.mono _ _ _ _ _)
      | (with_reducible exact glidepathref02_Bias.mono _ _ _ _ _ _)
      | (with_reducible exact glidepathref02_CaseErr.mono _ _ _ _ _)
      | (with_reducible exact glidepathref02_Worst.mono _ _ _ _ _ _)
      | (with_reducible exact line_BiasOf.mono _ _ _ _ _ _)
      | (with_reducible exact line_WorstOf.mono _ _ _ _ _ _)
      | (with_reducible exact LeO.refl _)
      | (with_reducible exact LeO.none _)
      | (with_reducible refine LeO.ite ?_ ?_)
      | (with_reducible refine LeO.bind ?_ (fun _ => ?_))
      | exact ih0 _ _ _ _ _ _ _ _ _ _ _ _ _
      | exact ih1 _ _ _ _ _ _ _ _ _
      | exact glidepathlaw02_awake.mono _
      | exact glidepathlaw02_light.mono _ _ _ _ _
      | exact glidepathref02_Bias.mono _ _ _ _ _ _
      | exact glidepathref02_CaseErr.mono _ _ _ _ _
      | exact glidepathref02_Worst.mono _ _ _ _ _ _
      | exact line_BiasOf.mono _ _ _ _ _ _
      | exact line_WorstOf.mono _ _ _ _ _ _
      | exact LeO.none _
      | refine LeO.ite ?_ ?_
      | refine LeO.bind ?_ (fun _ => ?_)
def glidepathlaw02_LineErrors.T12 : Bool × List (List Nat × List Nat) := (true, [([], []), ([0], [0]), ([1], [1]), ([2], [2]), ([2], [2]), ([2], [2]), ([4, 5, 2, 2], [2, 4, 5]), ([3, 6, 2], [2, 3, 6]), ([2, 7], [2, 7])])
def glidepathlaw02_LineErrors.B12 : List Nat := [0, 1, 3, 7, 7, 7, 55, 127, 255]
theorem glidepathlaw02_LineErrors.tab12 : rtab .any (opsOf Tryd.f3 12) = glidepathlaw02_LineErrors.T12 := by kernel_rfl
theorem glidepathlaw02_LineErrors.bits12 : waitsOk glidepathlaw02_LineErrors.T12.2 glidepathlaw02_LineErrors.B12 = true := by kernel_rfl
def glidepathlaw02_LineErrors.T16 : Bool × List (List Nat × List Nat) := (true, [([], []), ([0], [0]), ([1], [1]), ([2], [2]), ([2], [2]), ([2], [2]), ([4, 5, 2, 2], [2, 4, 5]), ([3, 6, 2], [2, 3, 6]), ([2, 7], [2, 7]), ([8, 6, 0, 1, 2, 3, 4, 5, 6, 7, 8], [8])])
def glidepathlaw02_LineErrors.B16 : List Nat := [0, 1, 3, 7, 7, 7, 55, 127, 255, 511]
theorem glidepathlaw02_LineErrors.tab16 : rtab .any (opsOf Tryd.f3 16) = glidepathlaw02_LineErrors.T16 := by kernel_rfl
theorem glidepathlaw02_LineErrors.bits16 : waitsOk glidepathlaw02_LineErrors.T16.2 glidepathlaw02_LineErrors.B16 = true := by kernel_rfl
set_option maxHeartbeats 8000000 in
set_option maxRecDepth 100000 in
theorem glidepathlaw02_LineErrors.calls (k : Nat) (A0_0 : Option Addr) (c0_0 : Nat) (l0_0 : List Int) (A0_1 : Option Addr) (c0_1 : Nat) (l0_1 : List Int) (a0_2 : Int) (a0_3 : Int) (a1 : Int) (r : Bool) (w : World) (hr0_0 : Kd.C (Kd.int .i64) w A0_0 l0_0.length l0_0) (hc0_0 : l0_0.length ≤ c0_0) (hr0_1 : Kd.C (Kd.int .i64) w A0_1 l0_1.length l0_1) (hc0_1 : l0_1.length ≤ c0_1) (hG : EstG w) (h : glidepathlaw02_LineErrors.f k l0_0 l0_1 a0_2 a0_3 a1 = some r) :
    Calls Tryd.prog 3 #[.agg #[.slice A0_0 l0_0.length c0_0, .slice A0_1 l0_1.length c0_1, .int .i64 a0_2, .int .i64 a0_3], .int .i64 a1] w fun e w' => e = .returned (.bool r) ∧ Below w.heap.size w w' := by
  have hu28 := Tryd.underlying28
  have hu26 := Tryd.underlying26
  have hu36 := Tryd.underlying36
  have HG := Aside0.mk hG
  clear hG
  have HR0_0 := Aside0.mk hr0_0
  have HC0_0 := Aside0.mk hc0_0
  clear hr0_0 hc0_0
  have HR0_1 := Aside0.mk hr0_1
  have HC0_1 := Aside0.mk hc0_1
  clear hr0_1 hc0_1
  have HB := Aside0.mk (Below.refl w.heap.size w)
  have H : ((glidepathlaw02_awake.f k).bind fun t546 => (if t546 = true then ((glidepathlaw02_light.f k l0_0 l0_1 a0_2 a0_3).bind fun t547 => (if t547 = true then ((glidepathref02_CopyCase.f l0_0 l0_1 a0_2 a0_3).bind fun bt548 => ((line_BiasOf.f k bt548.1 bt548.2.1 bt548.2.2.1 bt548.2.2.2 a1).bind fun bt556 => ((glidepathref02_CopyCase.f l0_0 l0_1 a0_2 a0_3).bind fun bt560 => ((line_WorstOf.f k bt560.1 bt560.2.1 bt560.2.2.1 bt560.2.2.2 a1).bind fun bt568 => ((glidepathref02_CaseErr.f k l0_0 l0_1 a0_2 a0_3).bind fun t573 => (if t573 = 0 then ((glidepathref02_KindErr.f a1).bind fun t574 => (glidepathlaw02_LineErrors.j0 k a1 bt556.2.2 bt568.2.2.2 t574 l0_0 l0_1 a0_2 a0_3 bt556.1 bt556.2.1 bt568.1 bt568.2.1 bt568.2.2.1)) else (glidepathlaw02_LineErrors.j0 k a1 bt556.2.2 bt568.2.2.2 t573 l0_0 l0_1 a0_2 a0_3 bt556.1 bt556.2.1 bt568.1 bt568.2.1 bt568.2.2.1))))))) else (some true))) else (some false))) = some r := h
  clear h
  replace H := Option.bind_eq_some_iff.mp H
  obtain ⟨t546, A30, H⟩ := H
  (try dsimp only at H)
  have A3 := Aside0.mk A30
  clear A30
  by_cases c4 : t546 = true
  · subst c4
    rw [if_pos rfl] at H
    replace H := Option.bind_eq_some_iff.mp H
    obtain ⟨t547, A50, H⟩ := H
    (try dsimp only at H)
    have A5 := Aside0.mk A50
    clear A50
    by_cases c6 : t547 = true
    · subst c6
      rw [if_pos rfl] at H
      replace H := Option.bind_eq_some_iff.mp H
      obtain ⟨⟨t548, t551, t554, t555⟩, A70, H⟩ := H
      (try dsimp only at H)
      have A7 := Aside0.mk A70
      clear A70
      replace H := Option.bind_eq_some_iff.mp H
      obtain ⟨⟨t556, t557, t558⟩, A80, H⟩ := H
      (try dsimp only at H)
      have A8 := Aside0.mk A80
      clear A80
      replace H := Option.bind_eq_some_iff.mp H
      obtain ⟨⟨t560, t563, t566, t567⟩, A90, H⟩ := H
      (try dsimp only at H)
      have A9 := Aside0.mk A90
      clear A90
      replace H := Option.bind_eq_some_iff.mp H
      obtain ⟨⟨t568, t569, t570, t571⟩, A100, H⟩ := H
      (try dsimp only at H)
      have A10 := Aside0.mk A100
      clear A100
      replace H := Option.bind_eq_some_iff.mp H
      obtain ⟨t573, A110, H⟩ := H
      (try dsimp only at H)
      have A11 := Aside0.mk A110
      clear A110
      have HC12 := Aside0.mk H
      clear H
      go_enter Tryd.func3, Tryd.ntmps3
      go_upto_if 32 with (first | ((with_reducible refine gate_dst (N := 2) rfl ?_); refine be 2 28 #[.slice A0_0 l0_0.length c0_0, .slice A0_1 l0_1.length c0_1, .int .i64 a0_2, .int .i64 a0_3] ?_; intro gb545 hg w13 hbox hb; have BK545 := Aside0.mk hbox; have GW545 := Aside0.mk (bg (n := w.heap.size) hg); have GE545 := Aside0.mk (bg (n := w.heap.size) hg); replace HB := sb HB hb; clear hb hbox hg) | ((with_reducible refine gate_callee (f := 18) rfl ?_); refine gl (some 10) Tryd.func18 #[] ?_; (with_reducible refine (glidepathlaw02_awake.calls k  true _ ?side1 A3.out).mono ?_); (case side1 => exact EstG.below HG.out bz); rintro e w14 ⟨rfl, hb⟩; refine ⟨_, rfl, ?_⟩; replace BK545 := bb BK545 hb; replace HB := sb HB hb; (try clear hb); obtain ⟨hcz15_0, hcz15_1, hcz15_2, hcz15_3, hfz15_0, hfz15_1, hfz15_2, hfz15_3⟩ := b4 BK545) | ((with_reducible refine gate_callee (f := 19) rfl ?_); refine gl (some 13) Tryd.func19 #[.agg #[.slice A0_0 l0_0.length c0_0, .slice A0_1 l0_1.length c0_1, .int .i64 a0_2, .int .i64 a0_3]] ?_; (with_reducible refine (glidepathlaw02_light.calls k _ _ l0_0 _ _ l0_1 a0_2 a0_3 true _ ?side1 ?side2 ?side3 ?side4 A5.out).mono ?_); (case side1 => exact bc (Kd.C_below HR0_0.out HB.out)); (case side2 => exact HC0_0.out); (case side3 => exact bc (Kd.C_below HR0_1.out HB.out)); (case side4 => exact HC0_1.out); rintro e w16 ⟨rfl, hb⟩; refine ⟨_, rfl, ?_⟩; replace BK545 := bb BK545 hb; replace HB := sb HB hb; (try clear hb); obtain ⟨hcz17_0, hcz17_1, hcz17_2, hcz17_3, hfz17_0, hfz17_1, hfz17_2, hfz17_3⟩ := b4 BK545) | ((with_reducible refine gate_callee (f := 21) rfl ?_); refine gl (some 17) Tryd.func21 #[.agg #[.slice A0_0 l0_0.length c0_0, .slice A0_1 l0_1.length c0_1, .int .i64 a0_2, .int .i64 a0_3]] ?_; (with_reducible refine (glidepathref02_CopyCase.calls _ _ l0_0 _ _ l0_1 a0_2 a0_3 t548 t551 t554 t555 _ ?side1 ?side2 ?side3 ?side4 A7.out).mono ?_); (case side1 => exact bc (Kd.C_below HR0_0.out HB.out)); (case side2 => exact HC0_0.out); (case side3 => exact bc (Kd.C_below HR0_1.out HB.out)); (case side4 => exact HC0_1.out); rintro e w18 ⟨v549, v552, rfl, ho0, ho1, hb⟩; refine ⟨_, rfl, ?_⟩; have HO550 := Aside0.mk (Kd.R_lower ho0 (below_size bz)); have HO553 := Aside0.mk (Kd.R_lower ho1 (below_size bz)); replace BK545 := bb BK545 hb; replace HB := sb HB hb; (try clear hb); (try clear ho0); (try clear ho1); obtain ⟨Ao19, co19, eo19⟩ := Kd.R_slice HO550.out; subst eo19; obtain ⟨Ao20, co20, eo20⟩ := Kd.R_slice HO553.out; subst eo20) | ((with_reducible refine gate_callee (f := 20) rfl ?_); refine gl (some 19) Tryd.func20 #[.agg #[.slice Ao19 t548.length co19, .slice Ao20 t551.length co20, .int .i64 t554, .int .i64 t555], .int .i64 a1] ?_; (with_reducible refine (line_BiasOf.calls k _ _ t548 _ _ t551 t554 t555 a1 t556 t557 t558 _ ?side1 ?side2 ?side3 ?side4 ?side5 A8.out).mono ?_); (case side1 => exact bc (Kd.R_reads' HO550.out).2.2); (case side2 => exact (Kd.R_reads' HO550.out).2.1); (case side3 => exact bc (Kd.R_reads' HO553.out).2.2); (case side4 => exact (Kd.R_reads' HO553.out).2.1); (case side5 => exact EstG.below HG.out bz); rintro e w21 ⟨rfl, hb⟩; refine ⟨_, rfl, ?_⟩; replace HO550 := rb HO550 hb; replace HO553 := rb HO553 hb; replace BK545 := bb BK545 hb; replace HB := sb HB hb; (try clear hb)) | ((with_reducible refine gate_dst (N := 5) rfl ?_); refine be 5 26 #[.int .i64 0, .int .i64 0] ?_; intro gb559 hg w22 hbox hb; replace HO550 := rb HO550 hb; replace HO553 := rb HO553 hb; have BK559 := Aside0.mk hbox; have GW559 := Aside0.mk (bg (n := w.heap.size) hg); have GE559 := Aside0.mk (bg (n := w.heap.size) hg); replace HB := sb HB hb; have NB545_559 := nl BK545 hg; have NB559_545 := ng (nl BK545 hg); replace BK545 := bb BK545 hb; clear hb hbox hg; have hnb23 := NB559_545.out; have hnc23 := NB545_559.out; obtain ⟨hcz24_0, hcz24_1, hfz24_0, hfz24_1⟩ := b2 BK559; obtain ⟨hcz25_0, hcz25_1, hcz25_2, hcz25_3, hfz25_0, hfz25_1, hfz25_2, hfz25_3⟩ := b4 BK545) | ((with_reducible refine gate_callee (f := 21) rfl ?_); refine gl (some 24) Tryd.func21 #[.agg #[.slice A0_0 l0_0.length c0_0, .slice A0_1 l0_1.length c0_1, .int .i64 a0_2, .int .i64 a0_3]] ?_; (with_reducible refine (glidepathref02_CopyCase.calls _ _ l0_0 _ _ l0_1 a0_2 a0_3 t560 t563 t566 t567 _ ?side1 ?side2 ?side3 ?side4 A9.out).mono ?_); (case side1 => exact Kd.C_below HR0_0.out bz); (case side2 => exact HC0_0.out); (case side3 => exact Kd.C_below HR0_1.out bz); (case side4 => exact HC0_1.out); rintro e w26 ⟨v561, v564, rfl, ho0, ho1, hb⟩; refine ⟨_, rfl, ?_⟩; have HO562 := Aside0.mk (Kd.R_lower (Kd.R_new' (Kd.R_new' ho0 (Kd.R_lt (by (with_reducible repeat (first | apply Kd.R_alloc | apply Kd.R_drewN | apply Kd.R_drew)); exact (Kd.R_mono (Kd.R_far (p := ⟨gb559, 1, none⟩) (Kd.R_far (p := ⟨gb559, 0, none⟩) (Kd.R_types HO550.out BK559.out (by decide)) (fun _ hk => hk.2) (.int .i64 t556)) (fun _ hk => hk.2) (.int .i64 t557)) (fun _ h_ => h_.1))))) (Kd.R_lt (by (with_reducible repeat (first | apply Kd.R_alloc | apply Kd.R_drewN | apply Kd.R_drew)); exact (Kd.R_mono (Kd.R_far (p := ⟨gb559, 1, none⟩) (Kd.R_far (p := ⟨gb559, 0, none⟩) (Kd.R_types HO553.out BK559.out (by decide)) (fun _ hk => hk.2) (.int .i64 t556)) (fun _ hk => hk.2) (.int .i64 t557)) (fun _ h_ => h_.1))))) (below_size bz)); have HO565 := Aside0.mk (Kd.R_lower (Kd.R_new' (Kd.R_new' ho1 (Kd.R_lt (by (with_reducible repeat (first | apply Kd.R_alloc | apply Kd.R_drewN | apply Kd.R_drew)); exact (Kd.R_mono (Kd.R_far (p := ⟨gb559, 1, none⟩) (Kd.R_far (p := ⟨gb559, 0, none⟩) (Kd.R_types HO550.out BK559.out (by decide)) (fun _ hk => hk.2) (.int .i64 t556)) (fun _ hk => hk.2) (.int .i64 t557)) (fun _ h_ => h_.1))))) (Kd.R_lt (by (with_reducible repeat (first | apply Kd.R_alloc | apply Kd.R_drewN | apply Kd.R_drew)); exact (Kd.R_mono (Kd.R_far (p := ⟨gb559, 1, none⟩) (Kd.R_far (p := ⟨gb559, 0, none⟩) (Kd.R_types HO553.out BK559.out (by decide)) (fun _ hk => hk.2) (.int .i64 t556)) (fun _ hk => hk.2) (.int .i64 t557)) (fun _ h_ => h_.1))))) (below_size bz)); replace HO550 := Aside0.mk (Kd.R_mono (Kd.R_told (Kd.R_told (Kd.R_old (by (with_reducible repeat (first | apply Kd.R_alloc | apply Kd.R_drewN | apply Kd.R_drew)); exact (Kd.R_mono (Kd.R_far (p := ⟨gb559, 1, none⟩) (Kd.R_far (p := ⟨gb559, 0, none⟩) (Kd.R_types HO550.out BK559.out (by decide)) (fun _ hk => hk.2) (.int .i64 t556)) (fun _ hk => hk.2) (.int .i64 t557)) (fun _ h_ => h_.1))) hb) (Kd.R_base ho0)) (Kd.R_base ho1)) (fun _ h_ => h_.1)); replace HO553 := Aside0.mk (Kd.R_mono (Kd.R_told (Kd.R_told (Kd.R_old (by (with_reducible repeat (first | apply Kd.R_alloc | apply Kd.R_drewN | apply Kd.R_drew)); exact (Kd.R_mono (Kd.R_far (p := ⟨gb559, 1, none⟩) (Kd.R_far (p := ⟨gb559, 0, none⟩) (Kd.R_types HO553.out BK559.out (by decide)) (fun _ hk => hk.2) (.int .i64 t556)) (fun _ hk => hk.2) (.int .i64 t557)) (fun _ h_ => h_.1))) hb) (Kd.R_base ho0)) (Kd.R_base ho1)) (fun _ h_ => h_.1)); replace BK545 := Aside0.mk (blk_below (g := gb545) (o := .cells #[.slice A0_0 l0_0.length c0_0, .slice A0_1 l0_1.length c0_1, .int .i64 a0_2, .int .i64 a0_3] 28 (0, 0)) (by (with_reducible repeat (first | refine blk_drewN ?_ _ | refine blk_drew ?_ | refine blk_alloc ?_ _)); refine blk_far ?_ NB545_559.out _; (with_reducible repeat (first | refine blk_drewN ?_ _ | refine blk_drew ?_ | refine blk_alloc ?_ _)); refine blk_far ?_ NB545_559.out _; (with_reducible repeat (first | refine blk_drewN ?_ _ | refine blk_drew ?_ | refine blk_alloc ?_ _)); exact BK545.out) hb); replace BK559 := Aside0.mk (blk_below (g := gb559) (o := .cells #[.int .i64 t556, .int .i64 t557] 26 (0, 0)) (by (with_reducible repeat (first | refine blk_drewN ?_ _ | refine blk_drew ?_ | refine blk_alloc ?_ _)); refine blk_put (cs := #[.int .i64 t556, .int .i64 0]) ?_ 1 _ rfl; (with_reducible repeat (first | refine blk_drewN ?_ _ | refine blk_drew ?_ | refine blk_alloc ?_ _)); refine blk_put (cs := #[.int .i64 0, .int .i64 0]) ?_ 0 _ rfl; (with_reducible repeat (first | refine blk_drewN ?_ _ | refine blk_drew ?_ | refine blk_alloc ?_ _)); exact BK559.out) hb); replace HB := sb HB hb; (try clear hb); (try clear ho0); (try clear ho1); obtain ⟨Ao27, co27, eo27⟩ := Kd.R_slice HO562.out; subst eo27; obtain ⟨Ao28, co28, eo28⟩ := Kd.R_slice HO565.out; subst eo28) | ((with_reducible refine gate_callee (f := 22) rfl ?_); refine gl (some 26) Tryd.func22 #[.agg #[.slice Ao27 t560.length co27, .slice Ao28 t563.length co28, .int .i64 t566, .int .i64 t567], .int .i64 a1] ?_; (with_reducible refine (line_WorstOf.calls k _ _ t560 _ _ t563 t566 t567 a1 t568 t569 t570 t571 _ ?side1 ?side2 ?side3 ?side4 ?side5 A10.out).mono ?_); (case side1 => exact bc (Kd.R_reads' HO562.out).2.2); (case side2 => exact (Kd.R_reads' HO562.out).2.1); (case side3 => exact bc (Kd.R_reads' HO565.out).2.2); (case side4 => exact (Kd.R_reads' HO565.out).2.1); (case side5 => exact EstG.below HG.out bz); rintro e w29 ⟨rfl, hb⟩; refine ⟨_, rfl, ?_⟩; replace HO550 := rb HO550 hb; replace HO553 := rb HO553 hb; replace HO562 := rb HO562 hb; replace HO565 := rb HO565 hb; replace BK545 := bb BK545 hb; replace BK559 := bb BK559 hb; replace HB := sb HB hb; (try clear hb)) | ((with_reducible refine gate_dst (N := 7) rfl ?_); refine be 7 36 #[.int .i64 0, .int .i64 0, .int .i64 0] ?_; intro gb572 hg w30 hbox hb; replace HO550 := rb HO550 hb; replace HO553 := rb HO553 hb; replace HO562 := rb HO562 hb; replace HO565 := rb HO565 hb; have BK572 := Aside0.mk hbox; have GW572 := Aside0.mk (bg (n := w.heap.size) hg); have GE572 := Aside0.mk (bg (n := w.heap.size) hg); replace HB := sb HB hb; have NB545_572 := nl BK545 hg; have NB572_545 := ng (nl BK545 hg); replace BK545 := bb BK545 hb; have NB559_572 := nl BK559 hg; have NB572_559 := ng (nl BK559 hg); replace BK559 := bb BK559 hb; clear hb hbox hg; have hnb31 := NB572_545.out; have hnc31 := NB545_572.out; have hnb32 := NB572_559.out; have hnc32 := NB559_572.out; obtain ⟨hcz33_0, hcz33_1, hcz33_2, hfz33_0, hfz33_1, hfz33_2⟩ := b3 BK572; obtain ⟨hcz34_0, hcz34_1, hcz34_2, hcz34_3, hfz34_0, hfz34_1, hfz34_2, hfz34_3⟩ := b4 BK545) | ((with_reducible refine gate_callee (f := 23) rfl ?_); refine gl (some 30) Tryd.func23 #[.agg #[.slice A0_0 l0_0.length c0_0, .slice A0_1 l0_1.length c0_1, .int .i64 a0_2, .int .i64 a0_3]] ?_; (with_reducible refine (glidepathref02_CaseErr.calls k _ _ l0_0 _ _ l0_1 a0_2 a0_3 t573 _ ?side1 ?side2 ?side3 ?side4 A11.out).mono ?_); (case side1 => exact Kd.C_below HR0_0.out bz); (case side2 => exact HC0_0.out); (case side3 => exact Kd.C_below HR0_1.out bz); (case side4 => exact HC0_1.out); rintro e w35 ⟨rfl, hb⟩; refine ⟨_, rfl, ?_⟩; replace HO550 := Aside0.mk (Kd.R_below (by (with_reducible repeat (first | apply Kd.R_alloc | apply Kd.R_drewN | apply Kd.R_drew)); exact (Kd.R_mono (Kd.R_far (p := ⟨gb572, 2, none⟩) (Kd.R_far (p := ⟨gb572, 1, none⟩) (Kd.R_far (p := ⟨gb572, 0, none⟩) (Kd.R_types HO550.out BK572.out (by decide)) (fun _ hk => hk.2) (.int .i64 t568)) (fun _ hk => hk.2) (.int .i64 t569)) (fun _ hk => hk.2) (.int .i64 t570)) (fun _ h_ => h_.1))) hb); replace HO553 := Aside0.mk (Kd.R_below (by (with_reducible repeat (first | apply Kd.R_alloc | apply Kd.R_drewN | apply Kd.R_drew)); exact (Kd.R_mono (Kd.R_far (p := ⟨gb572, 2, none⟩) (Kd.R_far (p := ⟨gb572, 1, none⟩) (Kd.R_far (p := ⟨gb572, 0, none⟩) (Kd.R_types HO553.out BK572.out (by decide)) (fun _ hk => hk.2) (.int .i64 t568)) (fun _ hk => hk.2) (.int .i64 t569)) (fun _ hk => hk.2) (.int .i64 t570)) (fun _ h_ => h_.1))) hb); replace HO562 := Aside0.mk (Kd.R_below (by (with_reducible repeat (first | apply Kd.R_alloc | apply Kd.R_drewN | apply Kd.R_drew)); exact (Kd.R_mono (Kd.R_far (p := ⟨gb572, 2, none⟩) (Kd.R_far (p := ⟨gb572, 1, none⟩) (Kd.R_far (p := ⟨gb572, 0, none⟩) (Kd.R_types HO562.out BK572.out (by decide)) (fun _ hk => hk.2) (.int .i64 t568)) (fun _ hk => hk.2) (.int .i64 t569)) (fun _ hk => hk.2) (.int .i64 t570)) (fun _ h_ => h_.1))) hb); replace HO565 := Aside0.mk (Kd.R_below (by (with_reducible repeat (first | apply Kd.R_alloc | apply Kd.R_drewN | apply Kd.R_drew)); exact (Kd.R_mono (Kd.R_far (p := ⟨gb572, 2, none⟩) (Kd.R_far (p := ⟨gb572, 1, none⟩) (Kd.R_far (p := ⟨gb572, 0, none⟩) (Kd.R_types HO565.out BK572.out (by decide)) (fun _ hk => hk.2) (.int .i64 t568)) (fun _ hk => hk.2) (.int .i64 t569)) (fun _ hk => hk.2) (.int .i64 t570)) (fun _ h_ => h_.1))) hb); replace BK545 := Aside0.mk (blk_below (g := gb545) (o := .cells #[.slice A0_0 l0_0.length c0_0, .slice A0_1 l0_1.length c0_1, .int .i64 a0_2, .int .i64 a0_3] 28 (0, 0)) (by (with_reducible repeat (first | refine blk_drewN ?_ _ | refine blk_drew ?_ | refine blk_alloc ?_ _)); refine blk_far ?_ NB545_572.out _; (with_reducible repeat (first | refine blk_drewN ?_ _ | refine blk_drew ?_ | refine blk_alloc ?_ _)); refine blk_far ?_ NB545_572.out _; (with_reducible repeat (first | refine blk_drewN ?_ _ | refine blk_drew ?_ | refine blk_alloc ?_ _)); refine blk_far ?_ NB545_572.out _; (with_reducible repeat (first | refine blk_drewN ?_ _ | refine blk_drew ?_ | refine blk_alloc ?_ _)); exact BK545.out) hb); replace BK559 := Aside0.mk (blk_below (g := gb559) (o := .cells #[.int .i64 t556, .int .i64 t557] 26 (0, 0)) (by (with_reducible repeat (first | refine blk_drewN ?_ _ | refine blk_drew ?_ | refine blk_alloc ?_ _)); refine blk_far ?_ NB559_572.out _; (with_reducible repeat (first | refine blk_drewN ?_ _ | refine blk_drew ?_ | refine blk_alloc ?_ _)); refine blk_far ?_ NB559_572.out _; (with_reducible repeat (first | refine blk_drewN ?_ _ | refine blk_drew ?_ | refine blk_alloc ?_ _)); refine blk_far ?_ NB559_572.out _; (with_reducible repeat (first | refine blk_drewN ?_ _ | refine blk_drew ?_ | refine blk_alloc ?_ _)); exact BK559.out) hb); replace BK572 := Aside0.mk (blk_below (g := gb572) (o := .cells #[.int .i64 t568, .int .i64 t569, .int .i64 t570] 36 (0, 0)) (by (with_reducible repeat (first | refine blk_drewN ?_ _ | refine blk_drew ?_ | refine blk_alloc ?_ _)); refine blk_put (cs := #[.int .i64 t568, .int .i64 t569, .int .i64 0]) ?_ 2 _ rfl; (with_reducible repeat (first | refine blk_drewN ?_ _ | refine blk_drew ?_ | refine blk_alloc ?_ _)); refine blk_put (cs := #[.int .i64 t568, .int .i64 0, .int .i64 0]) ?_ 1 _ rfl; (with_reducible repeat (first | refine blk_drewN ?_ _ | refine blk_drew ?_ | refine blk_alloc ?_ _)); refine blk_put (cs := #[.int .i64 0, .int .i64 0, .int .i64 0]) ?_ 0 _ rfl; (with_reducible repeat (first | refine blk_drewN ?_ _ | refine blk_drew ?_ | refine blk_alloc ?_ _)); exact BK572.out) hb); replace HB := sb HB hb; (try clear hb)))
      (try simp only [Act.put, List.setIfInBounds_toArray, List.set_cons_zero, List.set_cons_succ])
      go_cut [9] (fun v9 wc => ∃ (kq : Nat) (x9_11 : Int), v9 = .int .i64 x9_11 ∧ Aside0 (glidepathlaw02_LineErrors.j0 kq a1 t558 t571 x9_11 l0_0 l0_1 a0_2 a0_3 t556 t557 t568 t569 t570 = some r) ∧ Aside0 (kq ≤ k) ∧ Aside0 (wc.heap[gb545]? = some (.cells #[(.slice A0_0 l0_0.length c0_0), (.slice A0_1 l0_1.length c0_1), .int .i64 a0_2, .int .i64 a0_3] 28 (0, 0))) ∧ Aside0 (wc.heap[gb559]? = some (.cells #[.int .i64 t556, .int .i64 t557] 26 (0, 0))) ∧ Aside0 (wc.heap[gb572]? = some (.cells #[.int .i64 t568, .int .i64 t569, .int .i64 t570] 36 (0, 0))) ∧ Aside0 (Below w.heap.size w wc))
      case first =>
        have H := HC12.out
        clear HC12
        by_cases c36 : t573 = 0
        · rw [if_pos c36] at H
          have c36b0 := beq_iff_eq.mpr c36
          have c36b1 := bne_eq_false_iff_eq.mpr c36
          clear c36
          (first | rw [c36b0] | (simp only [i64_w, i32_w]; rw [c36b0]) | skip)
          replace H := Option.bind_eq_some_iff.mp H
          obtain ⟨t574, A370, H⟩ := H
          (try dsimp only at H)
          have A37 := Aside0.mk A370
          clear A370
          have H' := Aside0.mk H
          clear H
          go_wp2_with (first | ((with_reducible refine gate_callee (f := 24) rfl ?_); refine gl (some 34) Tryd.func24 #[.int .i64 a1] ?_; (with_reducible refine (glidepathref02_KindErr.calls a1 t574 _ A37.out).mono ?_); rintro e w' ⟨rfl, ⟨nd, rfl⟩⟩; refine ⟨_, rfl, ?_⟩))
          go_meet
          case rel => exact ⟨_, (t574), (by first | rfl | (simp; done) | (simp [*]; done)), H', ⟨by first | omega | exact Nat.le_refl _⟩, ⟨by (with_reducible repeat (first | refine blk_drewN ?_ _ | refine blk_drew ?_ | refine blk_alloc ?_ _)); exact BK545.out⟩, ⟨by (with_reducible repeat (first | refine blk_drewN ?_ _ | refine blk_drew ?_ | refine blk_alloc ?_ _)); exact BK559.out⟩, ⟨by (with_reducible repeat (first | refine blk_drewN ?_ _ | refine blk_drew ?_ | refine blk_alloc ?_ _)); exact BK572.out⟩, ⟨by repeat (first | (with_reducible first | exact HB.out | apply below_alloc | apply pw_below_drewN | apply below_drew1 | refine below_set ?_ GE545.out | refine below_set ?_ GE559.out | refine below_set ?_ GE572.out) | exact HB.out)⟩⟩
        · rw [if_neg c36] at H
          have c36b0 := beq_eq_false_iff_ne.mpr c36
          have c36b1 := bne_iff_ne.mpr c36
          (first | rw [c36b0] | (simp only [i64_w, i32_w]; rw [c36b0]) | skip)
          have H' := Aside0.mk H
          clear H
          go_wp2
          go_meet
          case rel => exact ⟨_, (t573), (by first | rfl | (simp; done) | (simp [*]; done)), H', ⟨by first | omega | exact Nat.le_refl _⟩, ⟨by (with_reducible repeat (first | refine blk_drewN ?_ _ | refine blk_drew ?_ | refine blk_alloc ?_ _)); exact BK545.out⟩, ⟨by (with_reducible repeat (first | refine blk_drewN ?_ _ | refine blk_drew ?_ | refine blk_alloc ?_ _)); exact BK559.out⟩, ⟨by (with_reducible repeat (first | refine blk_drewN ?_ _ | refine blk_drew ?_ | refine blk_alloc ?_ _)); exact BK572.out⟩, ⟨by repeat (first | (with_reducible first | exact HB.out | apply below_alloc | apply pw_below_drewN | apply below_drew1 | refine below_set ?_ GE545.out | refine below_set ?_ GE559.out | refine below_set ?_ GE572.out) | exact HB.out)⟩⟩
      case rest =>
        clear HC12
        try clear c1
        try clear c2
        try clear p2
        try clear c3
        try clear c4
        try clear c6
        try clear c18
        try clear c19
        try clear c20
        try clear c21
        try clear c22
        try clear c23
        try clear c24
        try clear c31
        try clear c32
        try clear c36
        try clear c36b0
        try clear c36b1
        try clear hcz15_0
        try clear hcz15_1
        try clear hcz15_2
        try clear hcz15_3
        try clear hcz17_0
        try clear hcz17_1
        try clear hcz17_2
        try clear hcz17_3
        try clear hcz24_0
        try clear hcz24_1
        try clear hcz25_0
        try clear hcz25_1
        try clear hcz25_2
        try clear hcz25_3
        try clear hcz33_0
        try clear hcz33_1
        try clear hcz33_2
        try clear hcz34_0
        try clear hcz34_1
        try clear hcz34_2
        try clear hcz34_3
        try clear hfz15_0
        try clear hfz15_1
        try clear hfz15_2
        try clear hfz15_3
        try clear hfz17_0
        try clear hfz17_1
        try clear hfz17_2
        try clear hfz17_3
        try clear hfz24_0
        try clear hfz24_1
        try clear hfz25_0
        try clear hfz25_1
        try clear hfz25_2
        try clear hfz25_3
        try clear hfz33_0
        try clear hfz33_1
        try clear hfz33_2
        try clear hfz34_0
        try clear hfz34_1
        try clear hfz34_2
        try clear hfz34_3
        obtain ⟨kq, x9_11, rfl, HA, HJ11, BK545, BK559, BK572, HB⟩ := hcut
        cases kq with
        | zero => exact absurd HA.out (by simp [glidepathlaw02_LineErrors.j0])
        | succ kj11 =>
          have H := HA.out
          clear HA
          simp only [glidepathlaw02_LineErrors.j0] at H
          by_cases c38 : x9_11 = 0
          · rw [if_pos c38] at H
            have c38b0 := beq_iff_eq.mpr c38
            have c38b1 := bne_eq_false_iff_eq.mpr c38
            clear c38
            have HC39 := Aside0.mk H
            clear H
            go_upto_region 12 with (fail)
            go_cut [63] (fun v63 wc => ∃ (kq : Nat) (x63_38 : Bool), v63 = .bool x63_38 ∧ Aside0 (glidepathlaw02_LineErrors.j1 kq a1 t558 x63_38 l0_0 l0_1 a0_2 a0_3 t556 t557 = some r) ∧ Aside0 (kq ≤ kj11) ∧ Aside0 (wc.heap[gb545]? = some (.cells #[(.slice A0_0 l0_0.length c0_0), (.slice A0_1 l0_1.length c0_1), .int .i64 a0_2, .int .i64 a0_3] 28 (0, 0))) ∧ Aside0 (wc.heap[gb559]? = some (.cells #[.int .i64 t556, .int .i64 t557] 26 (0, 0))) ∧ Aside0 (wc.heap[gb572]? = some (.cells #[.int .i64 t568, .int .i64 t569, .int .i64 t570] 36 (0, 0))) ∧ Aside0 (Below w.heap.size w wc))
            case first =>
              have H := HC39.out
              clear HC39
              by_cases c40 : t571 = 0
              · rw [if_pos c40] at H
                have c40b0 := beq_iff_eq.mpr c40
                have c40b1 := bne_eq_false_iff_eq.mpr c40
                clear c40
                (first | rw [c40b0] | (simp only [i64_w, i32_w]; rw [c40b0]) | skip)
                replace H := Option.bind_eq_some_iff.mp H
                obtain ⟨⟨t575, t576, t577⟩, A410, H⟩ := H
                (try dsimp only at H)
                have A41 := Aside0.mk A410
                clear A410
                have H' := Aside0.mk H
                clear H
                try go_wp2
                replace BK545 := Aside0.mk (blk_drew BK545.out); replace BK559 := Aside0.mk (blk_drew BK559.out); replace BK572 := Aside0.mk (blk_drew BK572.out); replace HB := Aside0.mk (below_drew1 HB.out)
                refine start_ (n := 9) (S := fun w' => w'.cell? ⟨gb572, 0, none⟩ = some (.int .i64 t568) ∧ w'.cell? ⟨gb572, 1, none⟩ = some (.int .i64 t569) ∧ w'.cell? ⟨gb572, 2, none⟩ = some (.int .i64 t570) ∧ w'.cell? ⟨gb545, 0, none⟩ = some (.slice A0_0 l0_0.length c0_0) ∧ w'.cell? ⟨gb545, 1, none⟩ = some (.slice A0_1 l0_1.length c0_1) ∧ w'.cell? ⟨gb545, 2, none⟩ = some (.int .i64 a0_2) ∧ w'.cell? ⟨gb545, 3, none⟩ = some (.int .i64 a0_3)) (ds := []) #[false, false, false, false, false, false, false, false, false] (by kernel_rfl) rfl rfl ⟨(blk_cell BK572.out 0).trans rfl, (blk_cell BK572.out 1).trans rfl, (blk_cell BK572.out 2).trans rfl, (blk_cell BK545.out 0).trans rfl, (blk_cell BK545.out 1).trans rfl, (blk_cell BK545.out 2).trans rfl, (blk_cell BK545.out 3).trans rfl⟩ (fun hHeld => ?_); refine with_tabW glidepathlaw02_LineErrors.tab12 glidepathlaw02_LineErrors.bits12 (fun HT_ HW_ => ?_)
                generalize wc.drew = w42 at BK545 BK559 BK572 HB hHeld ⊢
                refine pureZ (i := 0) (N := some 55) #[true, false, false, false, false, false, false, false, false] HT_ ?_
                refine pureZ (i := 1) (N := some 56) #[true, true, false, false, false, false, false, false, false] HT_ ?_
                refine pureZ (i := 2) (N := some 57) #[true, true, true, false, false, false, false, false, false] HT_ ?_
                refine pureZ (i := 5) (N := some 60) #[true, true, true, false, false, true, false, false, false] HT_ ?_
                refine take_ (i := 3) (N := some 58) (v := ?_) (a' := ?_) #[true, true, true, true, false, true, false, false, false] rfl rfl (take_ofW HT_.out HW_.out (by kernel_rfl)) (fun _ _ _ h => h) (Or.inl ⟨by rfl, ?_⟩) hHeld ?_ ?_
                rotate_left
                · rintro w' ⟨s0, s1, s2, s3, s4, s5, s6⟩
                  go_simp
                  with_reducible rfl
                rotate_left
                · exact pz
                refine take_ (i := 4) (N := some 59) (v := ?_) (a' := ?_) #[true, true, true, true, true, true, false, false, false] rfl rfl (take_ofW HT_.out HW_.out (by kernel_rfl)) (fun _ _ _ h => h) (Or.inl ⟨by rfl, ?_⟩) hHeld ?_ ?_
                rotate_left
                · rintro w' ⟨s0, s1, s2, s3, s4, s5, s6⟩
                  go_simp
                  with_reducible rfl
                rotate_left
                · exact pz
                refine one_ (i := 6) (N := some 61) #[true, true, true, true, true, true, true, false, false] rfl rfl (one_of HT_.out (by kernel_rfl)) (by decide) (fun K hK => ?_)
                refine goes_ Tryd.func25 (by kernel_rfl) rfl #[.agg #[.slice A0_0 l0_0.length c0_0, .slice A0_1 l0_1.length c0_1, .int .i64 a0_2, .int .i64 a0_3], .int .i64 a1] (by rfl) rfl rfl mz ?_
                with_reducible refine (glidepathref02_Worst.calls kj11 _ _ l0_0 _ _ l0_1 a0_2 a0_3 a1 t575 t576 t577 _ ?side1 ?side2 ?side3 ?side4 A41.out).mono ?_
                (case side1 => exact bc (Kd.C_below HR0_0.out HB.out))
                (case side2 => exact HC0_0.out)
                (case side3 => exact bc (Kd.C_below HR0_1.out HB.out))
                (case side4 => exact HC0_1.out)
                rintro e w43 ⟨rfl, hb⟩
                refine ⟨_, rfl, ?_⟩
                replace BK545 := bb BK545 hb; replace BK559 := bb BK559 hb; replace BK572 := bb BK572 hb; replace HB := sb HB hb
                (try clear hb)
                (try clear hb2)
                (try clear hk)
                (try clear hi)
                refine hK.out _ _ ⟨(blk_cell BK572.out 0).trans rfl, (blk_cell BK572.out 1).trans rfl, (blk_cell BK572.out 2).trans rfl, (blk_cell BK545.out 0).trans rfl, (blk_cell BK545.out 1).trans rfl, (blk_cell BK545.out 2).trans rfl, (blk_cell BK545.out 3).trans rfl⟩ (fun hHeld => ?_)
                clear hK K
                refine norm_ (a' := ?_) ?_ ?_
                rotate_left
                · show Act.put _ (some 61) _ = _
                  exact pz
                refine pureZ (i := 7) (N := some 62) #[true, true, true, true, true, true, true, true, false] HT_ ?_
                refine pureZ (i := 8) (N := some 63) #[true, true, true, true, true, true, true, true, true] HT_ ?_
                refine done_ (done_of HT_.out (by kernel_rfl)) ?_
                try go_wp2
                go_meet
                case rel => exact ⟨_, (((!(t568 == t575) || (!(t569 == t576))) || (!(t570 == t577)))), (by first | rfl | (simp; done) | (simp [*]; done)), H', ⟨by have := HJ11.out; first | omega | exact Nat.le_refl _⟩, ⟨by (with_reducible repeat (first | refine blk_drewN ?_ _ | refine blk_drew ?_ | refine blk_alloc ?_ _)); exact BK545.out⟩, ⟨by (with_reducible repeat (first | refine blk_drewN ?_ _ | refine blk_drew ?_ | refine blk_alloc ?_ _)); exact BK559.out⟩, ⟨by (with_reducible repeat (first | refine blk_drewN ?_ _ | refine blk_drew ?_ | refine blk_alloc ?_ _)); exact BK572.out⟩, ⟨by repeat (first | (with_reducible first | exact HB.out | apply below_alloc | apply pw_below_drewN | apply below_drew1 | refine below_set ?_ GE545.out | refine below_set ?_ GE559.out | refine below_set ?_ GE572.out) | exact HB.out)⟩⟩
              · rw [if_neg c40] at H
                have c40b0 := beq_eq_false_iff_ne.mpr c40
                have c40b1 := bne_iff_ne.mpr c40
                (first | rw [c40b0] | (simp only [i64_w, i32_w]; rw [c40b0]) | skip)
                have H' := Aside0.mk H
                clear H
                try go_wp2
                replace BK545 := Aside0.mk (blk_drew BK545.out); replace BK559 := Aside0.mk (blk_drew BK559.out); replace BK572 := Aside0.mk (blk_drew BK572.out); replace HB := Aside0.mk (below_drew1 HB.out)
                refine start_ (n := 9) (S := fun w' => True) (ds := []) #[false, false, false, false, false, false, false, false, false] (by kernel_rfl) rfl rfl trivial (fun hHeld => ?_); refine with_tabW glidepathlaw02_LineErrors.tab12 glidepathlaw02_LineErrors.bits12 (fun HT_ HW_ => ?_)
                generalize wc.drew = w44 at BK545 BK559 BK572 HB hHeld ⊢
                refine pureZ (i := 0) (N := some 55) #[true, false, false, false, false, false, false, false, false] HT_ ?_
                refine pureZ (i := 1) (N := some 56) #[true, true, false, false, false, false, false, false, false] HT_ ?_
                refine pureZ (i := 2) (N := some 57) #[true, true, true, false, false, false, false, false, false] HT_ ?_
                refine pure_ (i := 3) (N := some 58) (v := undef) (a' := ?_) #[true, true, true, true, false, false, false, false, false] rfl rfl (any_of HT_.out (by kernel_rfl)) (fun _ _ _ h => h) (Or.inr ⟨by rfl, rfl⟩) ?_ ?_
                rotate_left
                · exact pz
                refine pure_ (i := 4) (N := some 59) (v := undef) (a' := ?_) #[true, true, true, true, true, false, false, false, false] rfl rfl (any_of HT_.out (by kernel_rfl)) (fun _ _ _ h => h) (Or.inr ⟨by rfl, rfl⟩) ?_ ?_
                rotate_left
                · exact pz
                refine pure_ (i := 5) (N := some 60) (v := undef) (a' := ?_) #[true, true, true, true, true, true, false, false, false] rfl rfl (any_of HT_.out (by kernel_rfl)) (fun _ _ _ h => h) (Or.inr ⟨by rfl, rfl⟩) ?_ ?_
                rotate_left
                · exact pz
                refine pure_ (i := 6) (N := some 61) (v := undef) (a' := ?_) #[true, true, true, true, true, true, true, false, false] rfl rfl (any_of HT_.out (by kernel_rfl)) (fun _ _ _ h => h) (Or.inr ⟨by rfl, rfl⟩) ?_ ?_
                rotate_left
                · exact pz
                refine pure_ (i := 7) (N := some 62) (v := undef) (a' := ?_) #[true, true, true, true, true, true, true, true, false] rfl rfl (any_of HT_.out (by kernel_rfl)) (fun _ _ _ h => h) (Or.inr ⟨by rfl, rfl⟩) ?_ ?_
                rotate_left
                · exact pz
                refine pureZ (i := 8) (N := some 63) #[true, true, true, true, true, true, true, true, true] HT_ ?_
                refine done_ (done_of HT_.out (by kernel_rfl)) ?_
                try go_wp2
                go_meet
                case rel => exact ⟨_, (true), (by first | rfl | (simp; done) | (simp [*]; done)), H', ⟨by have := HJ11.out; first | omega | exact Nat.le_refl _⟩, ⟨by (with_reducible repeat (first | refine blk_drewN ?_ _ | refine blk_drew ?_ | refine blk_alloc ?_ _)); exact BK545.out⟩, ⟨by (with_reducible repeat (first | refine blk_drewN ?_ _ | refine blk_drew ?_ | refine blk_alloc ?_ _)); exact BK559.out⟩, ⟨by (with_reducible repeat (first | refine blk_drewN ?_ _ | refine blk_drew ?_ | refine blk_alloc ?_ _)); exact BK572.out⟩, ⟨by repeat (first | (with_reducible first | exact HB.out | apply below_alloc | apply pw_below_drewN | apply below_drew1 | refine below_set ?_ GE545.out | refine below_set ?_ GE559.out | refine below_set ?_ GE572.out) | exact HB.out)⟩⟩
            case rest =>
              clear HC39
              try clear c1
              try clear c2
              try clear p2
              try clear c3
              try clear c4
              try clear c6
              try clear c18
              try clear c19
              try clear c20
              try clear c21
              try clear c22
              try clear c23
              try clear c24
              try clear c25
              try clear c31
              try clear c32
              try clear c36
              try clear c36b0
              try clear c36b1
              try clear c38
              try clear c38b0
              try clear c38b1
              try clear c40
              try clear c40b0
              try clear c40b1
              try clear hcz15_0
              try clear hcz15_1
              try clear hcz15_2
              try clear hcz15_3
              try clear hcz17_0
              try clear hcz17_1
              try clear hcz17_2
              try clear hcz17_3
              try clear hcz24_0
              try clear hcz24_1
              try clear hcz25_0
              try clear hcz25_1
              try clear hcz25_2
              try clear hcz25_3
              try clear hcz33_0
              try clear hcz33_1
              try clear hcz33_2
              try clear hcz34_0
              try clear hcz34_1
              try clear hcz34_2
              try clear hcz34_3
              try clear hfz15_0
              try clear hfz15_1
              try clear hfz15_2
              try clear hfz15_3
              try clear hfz17_0
              try clear hfz17_1
              try clear hfz17_2
              try clear hfz17_3
              try clear hfz24_0
              try clear hfz24_1
              try clear hfz25_0
              try clear hfz25_1
              try clear hfz25_2
              try clear hfz25_3
              try clear hfz33_0
              try clear hfz33_1
              try clear hfz33_2
              try clear hfz34_0
              try clear hfz34_1
              try clear hfz34_2
              try clear hfz34_3
              try clear p2
              obtain ⟨kq, x63_38, rfl, HA, HJ38, BK545, BK559, BK572, HB⟩ := hcut
              cases kq with
              | zero => exact absurd HA.out (by simp [glidepathlaw02_LineErrors.j1])
              | succ kj38 =>
                have H := HA.out
                clear HA
                simp only [glidepathlaw02_LineErrors.j1] at H
                by_cases c45 : x63_38 = true
                · subst c45
                  rw [if_pos rfl] at H
                  obtain rfl := Option.some.inj H
                  go_wp2
                  go_ret
                  exact ez
                · replace c45 := Bool.eq_false_iff.mpr c45
                  subst c45
                  rw [if_neg (show ¬ (false = true) by decide)] at H
                  by_cases c46 : a1 = 0
                  · rw [if_pos c46] at H
                    have c46b0 := beq_iff_eq.mpr c46
                    have c46b1 := bne_eq_false_iff_eq.mpr c46
                    clear c46
                    by_cases c47 : t558 = 0
                    · rw [if_pos c47] at H
                      have c47b0 := beq_iff_eq.mpr c47
                      have c47b1 := bne_eq_false_iff_eq.mpr c47
                      clear c47
                      replace H := Option.bind_eq_some_iff.mp H
                      obtain ⟨⟨t578, t579⟩, A480, H⟩ := H
                      (try dsimp only at H)
                      have A48 := Aside0.mk A480
                      clear A480
                      obtain rfl := Option.some.inj H
                      try go_wp2
                      replace BK545 := Aside0.mk (blk_drew BK545.out); replace BK559 := Aside0.mk (blk_drew BK559.out); replace BK572 := Aside0.mk (blk_drew BK572.out); replace HB := Aside0.mk (below_drew1 HB.out)
                      refine start_ (n := 10) (S := fun w' => w'.cell? ⟨gb559, 0, none⟩ = some (.int .i64 t556) ∧ w'.cell? ⟨gb559, 1, none⟩ = some (.int .i64 t557) ∧ w'.cell? ⟨gb545, 0, none⟩ = some (.slice A0_0 l0_0.length c0_0) ∧ w'.cell? ⟨gb545, 1, none⟩ = some (.slice A0_1 l0_1.length c0_1) ∧ w'.cell? ⟨gb545, 2, none⟩ = some (.int .i64 a0_2) ∧ w'.cell? ⟨gb545, 3, none⟩ = some (.int .i64 a0_3)) (ds := []) #[false, false, false, false, false, false, false, false, false, false] (by kernel_rfl) rfl rfl ⟨(blk_cell BK559.out 0).trans rfl, (blk_cell BK559.out 1).trans rfl, (blk_cell BK545.out 0).trans rfl, (blk_cell BK545.out 1).trans rfl, (blk_cell BK545.out 2).trans rfl, (blk_cell BK545.out 3).trans rfl⟩ (fun hHeld => ?_); refine with_tabW glidepathlaw02_LineErrors.tab16 glidepathlaw02_LineErrors.bits16 (fun HT_ HW_ => ?_)
                      generalize wc.drew = w49 at BK545 BK559 BK572 HB hHeld ⊢
                      refine pureZ (i := 0) (N := some 77) #[true, false, false, false, false, false, false, false, false, false] HT_ ?_
                      refine pureZ (i := 1) (N := some 78) #[true, true, false, false, false, false, false, false, false, false] HT_ ?_
                      refine pureZ (i := 2) (N := some 79) #[true, true, true, false, false, false, false, false, false, false] HT_ ?_
                      refine pureZ (i := 5) (N := some 82) #[true, true, true, false, false, true, false, false, false, false] HT_ ?_
                      refine take_ (i := 3) (N := some 80) (v := ?_) (a' := ?_) #[true, true, true, true, false, true, false, false, false, false] rfl rfl (take_ofW HT_.out HW_.out (by kernel_rfl)) (fun _ _ _ h => h) (Or.inl ⟨by rfl, ?_⟩) hHeld ?_ ?_
                      rotate_left
                      · rintro w' ⟨s0, s1, s2, s3, s4, s5⟩
                        go_simp
                        with_reducible rfl
                      rotate_left
                      · exact pz
                      refine take_ (i := 4) (N := some 81) (v := ?_) (a' := ?_) #[true, true, true, true, true, true, false, false, false, false] rfl rfl (take_ofW HT_.out HW_.out (by kernel_rfl)) (fun _ _ _ h => h) (Or.inl ⟨by rfl, ?_⟩) hHeld ?_ ?_
                      rotate_left
                      · rintro w' ⟨s0, s1, s2, s3, s4, s5⟩
                        go_simp
                        with_reducible rfl
                      rotate_left
                      · exact pz
                      refine one_ (i := 6) (N := some 83) #[true, true, true, true, true, true, true, false, false, false] rfl rfl (one_of HT_.out (by kernel_rfl)) (by decide) (fun K hK => ?_)
                      refine goes_ Tryd.func26 (by kernel_rfl) rfl #[.agg #[.slice A0_0 l0_0.length c0_0, .slice A0_1 l0_1.length c0_1, .int .i64 a0_2, .int .i64 a0_3], .int .i64 a1] (by rfl) rfl rfl mz ?_
                      with_reducible refine (glidepathref02_Bias.calls kj38 _ _ l0_0 _ _ l0_1 a0_2 a0_3 a1 t578 t579 _ ?side1 ?side2 ?side3 ?side4 A48.out).mono ?_
                      (case side1 => exact bc (Kd.C_below HR0_0.out HB.out))
                      (case side2 => exact HC0_0.out)
                      (case side3 => exact bc (Kd.C_below HR0_1.out HB.out))
                      (case side4 => exact HC0_1.out)
                      rintro e w50 ⟨rfl, hb⟩
                      refine ⟨_, rfl, ?_⟩
                      replace BK545 := bb BK545 hb; replace BK559 := bb BK559 hb; replace BK572 := bb BK572 hb; replace HB := sb HB hb
                      (try clear hb)
                      (try clear hb2)
                      (try clear hk)
                      (try clear hi)
                      refine hK.out _ _ ⟨(blk_cell BK559.out 0).trans rfl, (blk_cell BK559.out 1).trans rfl, (blk_cell BK545.out 0).trans rfl, (blk_cell BK545.out 1).trans rfl, (blk_cell BK545.out 2).trans rfl, (blk_cell BK545.out 3).trans rfl⟩ (fun hHeld => ?_)
                      clear hK K
                      refine norm_ (a' := ?_) ?_ ?_
                      rotate_left
                      · show Act.put _ (some 83) _ = _
                        exact pz
                      refine pureZ (i := 7) (N := some 84) #[true, true, true, true, true, true, true, true, false, false] HT_ ?_
                      refine pureZ (i := 8) (N := some 85) #[true, true, true, true, true, true, true, true, true, false] HT_ ?_
                      refine pureZ (i := 9) (N := some 4) #[true, true, true, true, true, true, true, true, true, true] HT_ ?_
                      refine done_ (done_of HT_.out (by kernel_rfl)) ?_
                      try go_wp2
                      go_ret
                      exact ez
                    · rw [if_neg c47] at H
                      have c47b0 := beq_eq_false_iff_ne.mpr c47
                      have c47b1 := bne_iff_ne.mpr c47
                      obtain rfl := Option.some.inj H
                      try go_wp2
                      replace BK545 := Aside0.mk (blk_drew BK545.out); replace BK559 := Aside0.mk (blk_drew BK559.out); replace BK572 := Aside0.mk (blk_drew BK572.out); replace HB := Aside0.mk (below_drew1 HB.out)
                      refine start_ (n := 10) (S := fun w' => True) (ds := []) #[false, false, false, false, false, false, false, false, false, false] (by kernel_rfl) rfl rfl trivial (fun hHeld => ?_); refine with_tabW glidepathlaw02_LineErrors.tab16 glidepathlaw02_LineErrors.bits16 (fun HT_ HW_ => ?_)
                      generalize wc.drew = w51 at BK545 BK559 BK572 HB hHeld ⊢
                      refine pureZ (i := 0) (N := some 77) #[true, false, false, false, false, false, false, false, false, false] HT_ ?_
                      refine pureZ (i := 1) (N := some 78) #[true, true, false, false, false, false, false, false, false, false] HT_ ?_
                      refine pureZ (i := 2) (N := some 79) #[true, true, true, false, false, false, false, false, false, false] HT_ ?_
                      refine pure_ (i := 3) (N := some 80) (v := undef) (a' := ?_) #[true, true, true, true, false, false, false, false, false, false] rfl rfl (any_of HT_.out (by kernel_rfl)) (fun _ _ _ h => h) (Or.inr ⟨by rfl, rfl⟩) ?_ ?_
                      rotate_left
                      · exact pz
                      refine pure_ (i := 4) (N := some 81) (v := undef) (a' := ?_) #[true, true, true, true, true, false, false, false, false, false] rfl rfl (any_of HT_.out (by kernel_rfl)) (fun _ _ _ h => h) (Or.inr ⟨by rfl, rfl⟩) ?_ ?_
                      rotate_left
                      · exact pz
                      refine pure_ (i := 5) (N := some 82) (v := undef) (a' := ?_) #[true, true, true, true, true, true, false, false, false, false] rfl rfl (any_of HT_.out (by kernel_rfl)) (fun _ _ _ h => h) (Or.inr ⟨by rfl, rfl⟩) ?_ ?_
                      rotate_left
                      · exact pz
                      refine pure_ (i := 6) (N := some 83) (v := undef) (a' := ?_) #[true, true, true, true, true, true, true, false, false, false] rfl rfl (any_of HT_.out (by kernel_rfl)) (fun _ _ _ h => h) (Or.inr ⟨by rfl, rfl⟩) ?_ ?_
                      rotate_left
                      · exact pz
                      refine pure_ (i := 7) (N := some 84) (v := undef) (a' := ?_) #[true, true, true, true, true, true, true, true, false, false] rfl rfl (any_of HT_.out (by kernel_rfl)) (fun _ _ _ h => h) (Or.inr ⟨by rfl, rfl⟩) ?_ ?_
                      rotate_left
                      · exact pz
                      refine pureZ (i := 8) (N := some 85) #[true, true, true, true, true, true, true, true, true, false] HT_ ?_
                      refine pureZ (i := 9) (N := some 4) #[true, true, true, true, true, true, true, true, true, true] HT_ ?_
                      refine done_ (done_of HT_.out (by kernel_rfl)) ?_
                      try go_wp2
                      go_ret
                      exact ez
                  · rw [if_neg c46] at H
                    have c46b0 := beq_eq_false_iff_ne.mpr c46
                    have c46b1 := bne_iff_ne.mpr c46
                    by_cases c52 : a1 = 3
                    · rw [if_pos c52] at H
                      have c52b0 := beq_iff_eq.mpr c52
                      have c52b1 := bne_eq_false_iff_eq.mpr c52
                      clear c52
                      by_cases c53 : t558 = 0
                      · rw [if_pos c53] at H
                        have c53b0 := beq_iff_eq.mpr c53
                        have c53b1 := bne_eq_false_iff_eq.mpr c53
                        clear c53
                        replace H := Option.bind_eq_some_iff.mp H
                        obtain ⟨⟨t580, t581⟩, A540, H⟩ := H
                        (try dsimp only at H)
                        have A54 := Aside0.mk A540
                        clear A540
                        obtain rfl := Option.some.inj H
                        try go_wp2
                        replace BK545 := Aside0.mk (blk_drew BK545.out); replace BK559 := Aside0.mk (blk_drew BK559.out); replace BK572 := Aside0.mk (blk_drew BK572.out); replace HB := Aside0.mk (below_drew1 HB.out)
                        refine start_ (n := 10) (S := fun w' => w'.cell? ⟨gb559, 0, none⟩ = some (.int .i64 t556) ∧ w'.cell? ⟨gb559, 1, none⟩ = some (.int .i64 t557) ∧ w'.cell? ⟨gb545, 0, none⟩ = some (.slice A0_0 l0_0.length c0_0) ∧ w'.cell? ⟨gb545, 1, none⟩ = some (.slice A0_1 l0_1.length c0_1) ∧ w'.cell? ⟨gb545, 2, none⟩ = some (.int .i64 a0_2) ∧ w'.cell? ⟨gb545, 3, none⟩ = some (.int .i64 a0_3)) (ds := []) #[false, false, false, false, false, false, false, false, false, false] (by kernel_rfl) rfl rfl ⟨(blk_cell BK559.out 0).trans rfl, (blk_cell BK559.out 1).trans rfl, (blk_cell BK545.out 0).trans rfl, (blk_cell BK545.out 1).trans rfl, (blk_cell BK545.out 2).trans rfl, (blk_cell BK545.out 3).trans rfl⟩ (fun hHeld => ?_); refine with_tabW glidepathlaw02_LineErrors.tab16 glidepathlaw02_LineErrors.bits16 (fun HT_ HW_ => ?_)
                        generalize wc.drew = w55 at BK545 BK559 BK572 HB hHeld ⊢
                        refine pureZ (i := 0) (N := some 77) #[true, false, false, false, false, false, false, false, false, false] HT_ ?_
                        refine pureZ (i := 1) (N := some 78) #[true, true, false, false, false, false, false, false, false, false] HT_ ?_
                        refine pureZ (i := 2) (N := some 79) #[true, true, true, false, false, false, false, false, false, false] HT_ ?_
                        refine pureZ (i := 5) (N := some 82) #[true, true, true, false, false, true, false, false, false, false] HT_ ?_
                        refine take_ (i := 3) (N := some 80) (v := ?_) (a' := ?_) #[true, true, true, true, false, true, false, false, false, false] rfl rfl (take_ofW HT_.out HW_.out (by kernel_rfl)) (fun _ _ _ h => h) (Or.inl ⟨by rfl, ?_⟩) hHeld ?_ ?_
                        rotate_left
                        · rintro w' ⟨s0, s1, s2, s3, s4, s5⟩
                          go_simp
                          with_reducible rfl
                        rotate_left
                        · exact pz
                        refine take_ (i := 4) (N := some 81) (v := ?_) (a' := ?_) #[true, true, true, true, true, true, false, false, false, false] rfl rfl (take_ofW HT_.out HW_.out (by kernel_rfl)) (fun _ _ _ h => h) (Or.inl ⟨by rfl, ?_⟩) hHeld ?_ ?_
                        rotate_left
                        · rintro w' ⟨s0, s1, s2, s3, s4, s5⟩
                          go_simp
                          with_reducible rfl
                        rotate_left
                        · exact pz
                        refine one_ (i := 6) (N := some 83) #[true, true, true, true, true, true, true, false, false, false] rfl rfl (one_of HT_.out (by kernel_rfl)) (by decide) (fun K hK => ?_)
                        refine goes_ Tryd.func26 (by kernel_rfl) rfl #[.agg #[.slice A0_0 l0_0.length c0_0, .slice A0_1 l0_1.length c0_1, .int .i64 a0_2, .int .i64 a0_3], .int .i64 a1] (by rfl) rfl rfl mz ?_
                        with_reducible refine (glidepathref02_Bias.calls kj38 _ _ l0_0 _ _ l0_1 a0_2 a0_3 a1 t580 t581 _ ?side1 ?side2 ?side3 ?side4 A54.out).mono ?_
                        (case side1 => exact bc (Kd.C_below HR0_0.out HB.out))
                        (case side2 => exact HC0_0.out)
                        (case side3 => exact bc (Kd.C_below HR0_1.out HB.out))
                        (case side4 => exact HC0_1.out)
                        rintro e w56 ⟨rfl, hb⟩
                        refine ⟨_, rfl, ?_⟩
                        replace BK545 := bb BK545 hb; replace BK559 := bb BK559 hb; replace BK572 := bb BK572 hb; replace HB := sb HB hb
                        (try clear hb)
                        (try clear hb2)
                        (try clear hk)
                        (try clear hi)
                        refine hK.out _ _ ⟨(blk_cell BK559.out 0).trans rfl, (blk_cell BK559.out 1).trans rfl, (blk_cell BK545.out 0).trans rfl, (blk_cell BK545.out 1).trans rfl, (blk_cell BK545.out 2).trans rfl, (blk_cell BK545.out 3).trans rfl⟩ (fun hHeld => ?_)
                        clear hK K
                        refine norm_ (a' := ?_) ?_ ?_
                        rotate_left
                        · show Act.put _ (some 83) _ = _
                          exact pz
                        refine pureZ (i := 7) (N := some 84) #[true, true, true, true, true, true, true, true, false, false] HT_ ?_
                        refine pureZ (i := 8) (N := some 85) #[true, true, true, true, true, true, true, true, true, false] HT_ ?_
                        refine pureZ (i := 9) (N := some 4) #[true, true, true, true, true, true, true, true, true, true] HT_ ?_
                        refine done_ (done_of HT_.out (by kernel_rfl)) ?_
                        try go_wp2
                        go_ret
                        exact ez
                      · rw [if_neg c53] at H
                        have c53b0 := beq_eq_false_iff_ne.mpr c53
                        have c53b1 := bne_iff_ne.mpr c53
                        obtain rfl := Option.some.inj H
                        try go_wp2
                        replace BK545 := Aside0.mk (blk_drew BK545.out); replace BK559 := Aside0.mk (blk_drew BK559.out); replace BK572 := Aside0.mk (blk_drew BK572.out); replace HB := Aside0.mk (below_drew1 HB.out)
                        refine start_ (n := 10) (S := fun w' => True) (ds := []) #[false, false, false, false, false, false, false, false, false, false] (by kernel_rfl) rfl rfl trivial (fun hHeld => ?_); refine with_tabW glidepathlaw02_LineErrors.tab16 glidepathlaw02_LineErrors.bits16 (fun HT_ HW_ => ?_)
                        generalize wc.drew = w57 at BK545 BK559 BK572 HB hHeld ⊢
                        refine pureZ (i := 0) (N := some 77) #[true, false, false, false, false, false, false, false, false, false] HT_ ?_
                        refine pureZ (i := 1) (N := some 78) #[true, true, false, false, false, false, false, false, false, false] HT_ ?_
                        refine pureZ (i := 2) (N := some 79) #[true, true, true, false, false, false, false, false, false, false] HT_ ?_
                        refine pure_ (i := 3) (N := some 80) (v := undef) (a' := ?_) #[true, true, true, true, false, false, false, false, false, false] rfl rfl (any_of HT_.out (by kernel_rfl)) (fun _ _ _ h => h) (Or.inr ⟨by rfl, rfl⟩) ?_ ?_
                        rotate_left
                        · exact pz
                        refine pure_ (i := 4) (N := some 81) (v := undef) (a' := ?_) #[true, true, true, true, true, false, false, false, false, false] rfl rfl (any_of HT_.out (by kernel_rfl)) (fun _ _ _ h => h) (Or.inr ⟨by rfl, rfl⟩) ?_ ?_
                        rotate_left
                        · exact pz
                        refine pure_ (i := 5) (N := some 82) (v := undef) (a' := ?_) #[true, true, true, true, true, true, false, false, false, false] rfl rfl (any_of HT_.out (by kernel_rfl)) (fun _ _ _ h => h) (Or.inr ⟨by rfl, rfl⟩) ?_ ?_
                        rotate_left
                        · exact pz
                        refine pure_ (i := 6) (N := some 83) (v := undef) (a' := ?_) #[true, true, true, true, true, true, true, false, false, false] rfl rfl (any_of HT_.out (by kernel_rfl)) (fun _ _ _ h => h) (Or.inr ⟨by rfl, rfl⟩) ?_ ?_
                        rotate_left
                        · exact pz
                        refine pure_ (i := 7) (N := some 84) (v := undef) (a' := ?_) #[true, true, true, true, true, true, true, true, false, false] rfl rfl (any_of HT_.out (by kernel_rfl)) (fun _ _ _ h => h) (Or.inr ⟨by rfl, rfl⟩) ?_ ?_
                        rotate_left
                        · exact pz
                        refine pureZ (i := 8) (N := some 85) #[true, true, true, true, true, true, true, true, true, false] HT_ ?_
                        refine pureZ (i := 9) (N := some 4) #[true, true, true, true, true, true, true, true, true, true] HT_ ?_
                        refine done_ (done_of HT_.out (by kernel_rfl)) ?_
                        try go_wp2
                        go_ret
                        exact ez
                    · rw [if_neg c52] at H
                      have c52b0 := beq_eq_false_iff_ne.mpr c52
                      have c52b1 := bne_iff_ne.mpr c52
                      by_cases c58 : t558 = 14
                      · rw [if_pos c58] at H
                        have c58b0 := beq_iff_eq.mpr c58
                        have c58b1 := bne_eq_false_iff_eq.mpr c58
                        clear c58
                        obtain rfl := Option.some.inj H
                        have hnb59 := NB559_545.out
                        have hnc59 := NB545_559.out
                        have hnb60 := NB559_572.out
                        have hnc60 := NB572_559.out
                        obtain ⟨_, _, _, _⟩ := b2 BK559
                        go_wp2
                        go_ret
                        exact ez
                      · rw [if_neg c58] at H
                        have c58b0 := beq_eq_false_iff_ne.mpr c58
                        have c58b1 := bne_iff_ne.mpr c58
                        obtain rfl := Option.some.inj H
                        go_wp2
                        go_ret
                        exact ez
          · rw [if_neg c38] at H
            have c38b0 := beq_eq_false_iff_ne.mpr c38
            have c38b1 := bne_iff_ne.mpr c38
            by_cases c62 : t558 = x9_11
            · rw [if_pos c62] at H
              have c62b0 := beq_iff_eq.mpr c62
              have c62b1 := bne_eq_false_iff_eq.mpr c62
              clear c62
              by_cases c63 : t571 = x9_11
              · rw [if_pos c63] at H
                have c63b0 := beq_iff_eq.mpr c63
                have c63b1 := bne_eq_false_iff_eq.mpr c63
                clear c63
                by_cases c64 : (t556 == 0 && (t557 == 0)) = true
                · rw [if_pos c64] at H
                  have c64b0 : (t556 == 0 && (t557 == 0)) = true := c64
                  (try (have c64b1 : decide (t556 = 0 && (t557 == 0)) = true := by simpa using c64))
                  (try (have c64b2 : (t556 == 0 && (t557 == 0)) = true := by simpa using c64))
                  clear c64
                  obtain rfl := Option.some.inj H
                  have hnb65 := NB559_545.out
                  have hnc65 := NB545_559.out
                  have hnb66 := NB559_572.out
                  have hnc66 := NB572_559.out
                  obtain ⟨_, _, _, _⟩ := b2 BK559
                  have hnb68 := NB572_545.out
                  have hnc68 := NB545_572.out
                  obtain ⟨_, _, _, _, _, _⟩ := b3 BK572
                  go_wp2
                  go_ret
                  exact ez
                · rw [if_neg c64] at H
                  have c64b0 : (t556 == 0 && (t557 == 0)) = false := by simpa using c64
                  (try (have c64b1 : decide (t556 = 0 && (t557 == 0)) = false := by simpa using c64))
                  (try (have c64b2 : (t556 == 0 && (t557 == 0)) = false := by simpa using c64))
                  (try (have c64b3 : ¬ (t556 = 0 && (t557 == 0)) := by simpa using c64))
                  clear c64
                  obtain rfl := Option.some.inj H
                  have hnb70 := NB559_545.out
                  have hnc70 := NB545_559.out
                  have hnb71 := NB559_572.out
                  have hnc71 := NB572_559.out
                  obtain ⟨_, _, _, _⟩ := b2 BK559
                  go_wp2
                  go_ret
                  exact ez
              · rw [if_neg c63] at H
                have c63b0 := beq_eq_false_iff_ne.mpr c63
                have c63b1 := bne_iff_ne.mpr c63
                obtain rfl := Option.some.inj H
                go_wp2
                go_ret
                exact ez
            · rw [if_neg c62] at H
              have c62b0 := beq_eq_false_iff_ne.mpr c62
              have c62b1 := bne_iff_ne.mpr c62
              obtain rfl := Option.some.inj H
              go_wp2
              go_ret
              exact ez
    · replace c6 := Bool.eq_false_iff.mpr c6
      subst c6
      rw [if_neg (show ¬ (false = true) by decide)] at H
      obtain rfl := Option.some.inj H
      go_enter Tryd.func3, Tryd.ntmps3
      go_wp2_with (first | ((with_reducible refine gate_dst (N := 2) rfl ?_); refine be 2 28 #[.slice A0_0 l0_0.length c0_0, .slice A0_1 l0_1.length c0_1, .int .i64 a0_2, .int .i64 a0_3] ?_; intro gb545 hg w73 hbox hb; have BK545 := Aside0.mk hbox; have GW545 := Aside0.mk (bg (n := w.heap.size) hg); have GE545 := Aside0.mk (bg (n := w.heap.size) hg); replace HB := sb HB hb; clear hb hbox hg) | ((with_reducible refine gate_callee (f := 18) rfl ?_); refine gl (some 10) Tryd.func18 #[] ?_; (with_reducible refine (glidepathlaw02_awake.calls k  true _ ?side1 A3.out).mono ?_); (case side1 => exact EstG.below HG.out bz); rintro e w74 ⟨rfl, hb⟩; refine ⟨_, rfl, ?_⟩; replace BK545 := bb BK545 hb; replace HB := sb HB hb; (try clear hb); obtain ⟨_, _, _, _, _, _, _, _⟩ := b4 BK545) | ((with_reducible refine gate_callee (f := 19) rfl ?_); refine gl (some 13) Tryd.func19 #[.agg #[.slice A0_0 l0_0.length c0_0, .slice A0_1 l0_1.length c0_1, .int .i64 a0_2, .int .i64 a0_3]] ?_; (with_reducible refine (glidepathlaw02_light.calls k _ _ l0_0 _ _ l0_1 a0_2 a0_3 false _ ?side1 ?side2 ?side3 ?side4 A5.out).mono ?_); (case side1 => exact bc (Kd.C_below HR0_0.out HB.out)); (case side2 => exact HC0_0.out); (case side3 => exact bc (Kd.C_below HR0_1.out HB.out)); (case side4 => exact HC0_1.out); rintro e w76 ⟨rfl, hb⟩; refine ⟨_, rfl, ?_⟩; replace BK545 := bb BK545 hb; replace HB := sb HB hb; (try clear hb)))
      go_ret
      exact ez
  · replace c4 := Bool.eq_false_iff.mpr c4
    subst c4
    rw [if_neg (show ¬ (false = true) by decide)] at H
    obtain rfl := Option.some.inj H
    go_enter Tryd.func3, Tryd.ntmps3
    go_wp2_with (first | ((with_reducible refine gate_dst (N := 2) rfl ?_); refine be 2 28 #[.slice A0_0 l0_0.length c0_0, .slice A0_1 l0_1.length c0_1, .int .i64 a0_2, .int .i64 a0_3] ?_; intro gb545 hg w77 hbox hb; have BK545 := Aside0.mk hbox; have GW545 := Aside0.mk (bg (n := w.heap.size) hg); have GE545 := Aside0.mk (bg (n := w.heap.size) hg); replace HB := sb HB hb; clear hb hbox hg) | ((with_reducible refine gate_callee (f := 18) rfl ?_); refine gl (some 10) Tryd.func18 #[] ?_; (with_reducible refine (glidepathlaw02_awake.calls k  false _ ?side1 A3.out).mono ?_); (case side1 => exact EstG.below HG.out bz); rintro e w78 ⟨rfl, hb⟩; refine ⟨_, rfl, ?_⟩; replace BK545 := bb BK545 hb; replace HB := sb HB hb; (try clear hb)))
    go_ret
    exact ez
end Go.Proofs.YtjnkphmcndaijaaDoor.A
