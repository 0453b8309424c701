/- Walks of the program's functions (printed, made shorter), each with what it computes. -/
import Derived.Test.YtjnkphmcndaijaaDoorCas04
import Derived.Test.YtjnkphmcndaijaaDoorCas13
import Derived.Test.YtjnkphmcndaijaaDoorCas14
import Derived.Test.YtjnkphmcndaijaaDoorCas03
namespace Go.Proofs.YtjnkphmcndaijaaDoor.A
open Go.RowKit Go.Proofs.YtjnkphmcndaijaaDoorW.PrintWords Go.Proofs.YtjnkphmcndaijaaDoorW.PrintLast Go.Proofs.YtjnkphmcndaijaaDoorW.PrintMore
attribute [local go_sem] max2_int min2_int max_two min_two max_three min_three max_four min_four
set_option linter.unusedVariables false
set_option linter.unusedSimpArgs false
mutual
def glidepathlaw02_LineCases.j0 : Nat → Int → Bool → List Int → List Int → Int → Int → Option (Bool)
  | 0, _, _, _, _, _, _ => none
  | k + 1, x1, x24, x1060000, x1060001, x1060002, x1060003 => if x24 = true then (some true) else ((glidepathref02_CopyNoise.f x1060001).bind fun t1063 => ((line_CheckNoise.f t1063).bind fun bt1066 => ((glidepathref02_CopyCase.f x1060000 x1060001 x1060002 x1060003).bind fun bt1068 => ((line_CheckCase.f k bt1068.1 bt1068.2.1 bt1068.2.2.1 bt1068.2.2.2).bind fun t1076 => ((glidepathref02_CopyCase.f x1060000 x1060001 x1060002 x1060003).bind fun bt1077 => ((line_Noisy.f k bt1077.1 bt1077.2.1 bt1077.2.2.1 bt1077.2.2.2 x1).bind fun bt1085 => ((glidepathref02_CheckNoise.f k x1060001).bind fun bt1089 => (if bt1066.2 = bt1089.2 then (glidepathlaw02_LineCases.j1 k x1 t1076 bt1085.1 bt1085.2 (bt1066.1 != bt1089.1) x1060000 x1060001 x1060002 x1060003) else (glidepathlaw02_LineCases.j1 k x1 t1076 bt1085.1 bt1085.2 true x1060000 x1060001 x1060002 x1060003)))))))))
def glidepathlaw02_LineCases.j1 : Nat → Int → Int → List Int → Int → Bool → List Int → List Int → Int → Int → Option (Bool)
  | 0, _, _, _, _, _, _, _, _, _ => none
  | k + 1, x1, x7, x8, x9, x55, x1060000, x1060001, x1060002, x1060003 => if x55 = true then (some false) else ((glidepathref02_CaseErr.f k x1060000 x1060001 x1060002 x1060003).bind fun t1091 => (if x7 = t1091 then (if t1091 = 0 then ((glidepathref02_Cases.f k x1060001 (x1060000.length : Int)).bind fun t1092 => ((glidepathbase_Within.f x1 0 (wrap64 (t1092 - 1))).bind fun t1093 => (glidepathlaw02_LineCases.j2 k x1 x8 x9 t1091 (!t1093) x1060000 x1060001 x1060002 x1060003))) else (glidepathlaw02_LineCases.j2 k x1 x8 x9 t1091 false x1060000 x1060001 x1060002 x1060003)) else (some false)))
def glidepathlaw02_LineCases.j2 : Nat → Int → List Int → Int → Int → Bool → List Int → List Int → Int → Int → Option (Bool)
  | 0, _, _, _, _, _, _, _, _, _ => none
  | k + 1, x1, x8, x9, x11, x74, x1060000, x1060001, x1060002, x1060003 => if x74 = true then (glidepathlaw02_LineCases.j3 k x1 x8 x9 6 x1060000 x1060001 x1060002 x1060003) else (glidepathlaw02_LineCases.j3 k x1 x8 x9 x11 x1060000 x1060001 x1060002 x1060003)
def glidepathlaw02_LineCases.j3 : Nat → Int → List Int → Int → Int → List Int → List Int → Int → Int → Option (Bool)
  | 0, _, _, _, _, _, _, _, _ => none
  | k + 1, x1, x8, x9, x11, x1060000, x1060001, x1060002, x1060003 => if x11 = 0 then (if x9 = 0 then ((glidepathref02_Noisy.f k x1060000 x1060001 x1).bind fun t1094 => ((glidepathbase_Ints.f k x8 t1094).bind fun t1097 => (some t1097))) else (some false)) else (if x9 = x11 then (some ((x8.length : Int) == 0)) else (some false))
end
def glidepathlaw02_LineCases.f (k : Nat) (l0_0 : List Int) (l0_1 : List Int) (a0_2 : Int) (a0_3 : Int) (a1 : Int) : Option (Bool) := (glidepathlaw02_awake.f k).bind fun t1060 => (if t1060 = true then ((glidepathlaw02_short.f l0_0).bind fun t1061 => (if t1061 = true then ((glidepathlaw02_short.f l0_1).bind fun t1062 => (glidepathlaw02_LineCases.j0 k a1 (!t1062) l0_0 l0_1 a0_2 a0_3)) else (glidepathlaw02_LineCases.j0 k a1 true l0_0 l0_1 a0_2 a0_3))) else (some false))
theorem glidepathlaw02_LineCases.mono_l : ∀ k, (∀ y0 y1 y2 y3 y4 y5, LeO (glidepathlaw02_LineCases.j0 k y0 y1 y2 y3 y4 y5) (glidepathlaw02_LineCases.j0 (k + 1) y0 y1 y2 y3 y4 y5)) ∧ (∀ y0 y1 y2 y3 y4 y5 y6 y7 y8, LeO (glidepathlaw02_LineCases.j1 k y0 y1 y2 y3 y4 y5 y6 y7 y8) (glidepathlaw02_LineCases.j1 (k + 1) y0 y1 y2 y3 y4 y5 y6 y7 y8)) ∧ (∀ y0 y1 y2 y3 y4 y5 y6 y7 y8, LeO (glidepathlaw02_LineCases.j2 k y0 y1 y2 y3 y4 y5 y6 y7 y8) (glidepathlaw02_LineCases.j2 (k + 1) y0 y1 y2 y3 y4 y5 y6 y7 y8)) ∧ (∀ y0 y1 y2 y3 y4 y5 y6 y7, LeO (glidepathlaw02_LineCases.j3 k y0 y1 y2 y3 y4 y5 y6 y7) (glidepathlaw02_LineCases.j3 (k + 1) y0 y1 y2 y3 y4 y5 y6 y7))
  | 0 => ⟨fun _ _ _ _ _ _ r h => by simp [glidepathlaw02_LineCases.j0] at h, fun _ _ _ _ _ _ _ _ _ r h => by simp [glidepathlaw02_LineCases.j1] at h, fun _ _ _ _ _ _ _ _ _ r h => by simp [glidepathlaw02_LineCases.j2] at h, fun _ _ _ _ _ _ _ _ r h => by simp [glidepathlaw02_LineCases.j3] at h⟩
  | k + 1 => by
    obtain ⟨ih0, ih1, ih2, ih3⟩ := glidepathlaw02_LineCases.mono_l k
    refine ⟨?_, ?_, ?_, ?_⟩
    · intro y0 y1 y2 y3 y4 y5
      unfold glidepathlaw02_LineCases.j0
      repeat' first
      | (with_reducible exact ih0 _ _ _ _ _ _)
      | (with_reducible exact ih1 _ _ _ _ _ _ _ _ _)
      | (with_reducible exact ih2 _ _ _ _ _ _ _ _ _)
      | (with_reducible exact ih3 _ _ _ _ _ _ _ _)
      | (with_reducible exact glidepathbase_Ints.mono _ _ _)
      | (with_reducible exact glidepathlaw02_awake.mono _)
      | (with_reducible exact glidepathref02_CaseErr.mono _ _ _ _ _)
      | (with_reducible exact glidepathref02_Cases.mono _ _ _)
      | (with_reducible exact glidepathref02_CheckNoise.mono _ _)
      | (with_reducible exact glidepathref02_Noisy.mono _ _ _ _)
      | (with_reducible exact line_CheckCase.mono _ _ _ _ _)
      | (with_reducible exact line_Noisy.mono _ _ _ _ _ _)
      | (with_reducible exact LeO.refl _)
      | (with_reducible exact LeO.none _)
      | (with_reducible refine LeO.ite ?_ ?_)
      | (with_reducible refine LeO.bind ?_ (fun _ => ?_))
      | exact ih0 _ _ _ _ _ _
      | exact ih1 _ _ _ _ _ _ _ _ _
      | exact ih2 _ _ _ _ _ _ _ _ _
      | exact ih3 _ _ _ _ _ _ _ _
      | exact glidepathbase_Ints.mono _ _ _
      | exact glidepathlaw02_awake.mono _
      | exact glidepathref02_CaseErr.mono _ _ _ _ _
      | exact glidepathref02_Cases.mono _ _ _
      | exact glidepathref02_CheckNoise.mono _ _
      | exact glidepathref02_Noisy.mono _ _ _ _
      | exact line_CheckCase.mono _ _ _ _ _
      | exact line_Noisy.mono _ _ _ _ _ _
      | exact LeO.none _
      | refine LeO.ite ?_ ?_
      | refine LeO.bind ?_ (fun _ => ?_)
    · intro y0 y1 y2 y3 y4 y5 y6 y7 y8
      unfold glidepathlaw02_LineCases.j1
      repeat' first
      | (with_reducible exact ih0 _ _ _ _ _ _)
      | (with_reducible exact ih1 _ _ _ _ _ _ _ _ _)
      | (with_reducible exact ih2 _ _ _ _ _ _ _ _ _)
      | (with_reducible exact ih3 _ _ _ _ _ _ _ _)
      | (with_reducible exact glidepathbase_Ints.mono _ _ _)
      | (with_reducible exact glidepathlaw02_awake.mono _)
      | (with_reducible exact glidepathref02_CaseErr.mono _ _ _ _ _)
      | (with_reducible exact glidepathref02_Cases.mono _ _ _)
      | (with_reducible exact glidepathref02_CheckNoise.mono _ _)
      | (with_reducible exact glidepathref02_Noisy.mono _ _ _ _)
      | (with_reducible exact line_CheckCase.mono _ _ _ _ _)
      | (with_reducible exact line_Noisy.mono _ _ _ _ _ _)
      | (with_reducible exact LeO.refl _)
      | (with_reducible exact LeO.none _)
      | (with_reducible refine LeO.ite ?_ ?_)
      | (with_reducible refine LeO.bind ?_ (fun _ => ?_))
      | exact ih0 _ _ _ _ _ _
      | exact ih1 _ _ _ _ _ _ _ _ _
      | exact ih2 _ _ _ _ _ _ _ _ _
      | exact ih3 _ _ _ _ _ _ _ _
      | exact glidepathbase_Ints.mono _ _ _
      | exact glidepathlaw02_awake.mono _
      | exact glidepathref02_CaseErr.mono _ _ _ _ _
      | exact glidepathref02_Cases.mono _ _ _
      | exact glidepathref02_CheckNoise.mono _ _
      | exact glidepathref02_Noisy.mono _ _ _ _
      | exact line_CheckCase.mono _ _ _ _ _
      | exact line_Noisy.mono _ _ _ _ _ _
      | exact LeO.none _
      | refine LeO.ite ?_ ?_
      | refine LeO.bind ?_ (fun _ => ?_)
    · intro y0 y1 y2 y3 y4 y5 y6 y7 y8
      unfold glidepathlaw02_LineCases.j2
      repeat' first
      | (with_reducible exact ih0 _ _ _ _ _ _)
      | (with_reducible exact ih1 _ _ _ _ _ _ _ _ _)
      | (with_reducible exact ih2 _ _ _ _ _ _ _ _ _)
      | (with_reducible exact ih3 _ _ _ _ _ _ _ _)
      | (with_reducible exact glidepathbase_Ints.mono _ _ _)
      | (with_reducible exact glidepathlaw02_awake.mono _)
      | (with_reducible exact glidepathref02_CaseErr.mono _ _ _ _ _)
      | (with_reducible exact glidepathref02_Cases.mono _ _ _)
      | (with_reducible exact glidepathref02_CheckNoise.mono _ _)
      | (with_reducible exact glidepathref02_Noisy.mono _ _ _ _)
      | (with_reducible exact line_CheckCase.mono _ _ _ _ _)
      | (with_reducible exact line_Noisy.mono _ _ _ _ _ _)
      | (with_reducible exact LeO.refl _)
      | (with_reducible exact LeO.none _)
      | (with_reducible refine LeO.ite ?_ ?_)
      | (with_reducible refine LeO.bind ?_ (fun _ => ?_))
      | exact ih0 _ _ _ _ _ _
      | exact ih1 _ _ _ _ _ _ _ _ _
      | exact ih2 _ _ _ _ _ _ _ _ _
      | exact ih3 _ _ _ _ _ _ _ _
      | exact glidepathbase_Ints.mono _ _ _
      | exact glidepathlaw02_awake.mono _
      | exact glidepathref02_CaseErr.mono _ _ _ _ _
      | exact glidepathref02_Cases.mono _ _ _
      | exact glidepathref02_CheckNoise.mono _ _
      | exact glidepathref02_Noisy.mono _ _ _ _
      | exact line_CheckCase.mono _ _ _ _ _
      | exact line_Noisy.mono _ _ _ _ _ _
      | exact LeO.none _
      | refine LeO.ite ?_ ?_
      | refine LeO.bind ?_ (fun _ => ?_)
    · intro y0 y1 y2 y3 y4 y5 y6 y7
      unfold glidepathlaw02_LineCases.j3
      repeat' first
      | (with_reducible exact ih0 _ _ _ _ _ _)
      | (with_reducible exact ih1 _ _ _ _ _ _ _ _ _)
      | (with_reducible exact ih2 _ _ _ _ _ _ _ _ _)
      | (with_reducible exact ih3 _ _ _ _ _ _ _ _)
      | (with_reducible exact glidepathbase_Ints.mono _ _ _)
      | (with_reducible exact glidepathlaw02_awake.mono _)
      | (with_reducible exact glidepathref02_CaseErr.mono _ _ _ _ _)
      | (with_reducible exact glidepathref02_Cases.mono _ _ _)
      | (with_reducible exact glidepathref02_CheckNoise.mono _ _)
      | (with_reducible exact glidepathref02_Noisy.mono _ _ _ _)
      | (with_reducible exact line_CheckCase.mono _ _ _ _ _)
      | (with_reducible exact line_Noisy.mono _ _ _ _ _ _)
      | (with_reducible exact LeO.refl _)
      | (with_reducible exact LeO.none _)
      | (with_reducible refine LeO.ite ?_ ?_)
      | (with_reducible refine LeO.bind ?_ (fun _ => ?_))
      | exact ih0 _ _ _ _ _ _
      | exact ih1 _ _ _ _ _ _ _ _ _
      | exact ih2 _ _ _ _ _ _ _ _ _
      | exact ih3 _ _ _ _ _ _ _ _
      | exact glidepathbase_Ints.mono _ _ _
      | exact glidepathlaw02_awake.mono _
      | exact glidepathref02_CaseErr.mono _ _ _ _ _
      | exact glidepathref02_Cases.mono _ _ _
      | exact glidepathref02_CheckNoise.mono _ _
      | exact glidepathref02_Noisy.mono _ _ _ _
      | exact line_CheckCase.mono _ _ _ _ _
      | exact line_Noisy.mono _ _ _ _ _ _
      | exact LeO.none _
      | refine LeO.ite ?_ ?_
      | refine LeO.bind ?_ (fun _ => ?_)
theorem glidepathlaw02_LineCases.mono : ∀ a0 a1 a2 a3 a4 k, LeO (glidepathlaw02_LineCases.f k a0 a1 a2 a3 a4) (glidepathlaw02_LineCases.f (k + 1) a0 a1 a2 a3 a4) := by
  intro a0 a1 a2 a3 a4 k
  obtain ⟨ih0, ih1, ih2, ih3⟩ := glidepathlaw02_LineCases.mono_l k
  unfold glidepathlaw02_LineCases.f
  repeat' first
      | (with_reducible exact ih0 _ _ _ _ _ _)
      | (with_reducible exact ih1 _ _ _ _ _ _ _ _ _)
      | (with_reducible exact ih2 _ _ _ _ _ _ _ _ _)
      | (with_reducible exact ih3 _ _ _ _ _ _ _ _)
      | (with_reducible exact glidepathbase_Ints.mono _ _ _)
      | (with_reducible exact glidepathlaw02_awake.mono _)
      | (with_reducible exact glidepathref02_CaseErr.mono _ _ _ _ _)
      | (with_reducible exact glidepathref02_Cases.mono _ _ _)
      | (with_reducible exact glidepathref02_CheckNoise.mono _ _)
      | (with_reducible exact glidepathref02_Noisy.mono _ _ _ _)
      | (with_reducible exact line_CheckCase.mono _ _ _ _ _)
      | (with_reducible exact line_Noisy.mono _ _ _ _ _ _)
      | (with_reducible exact LeO.refl _)
      | (with_reducible exact LeO.none _)
      | (with_reducible refine LeO.ite ?_ ?_)
      | (with_reducible refine LeO.bind ?_ (fun _ => ?_))
      | exact ih0 _ _ _ _ _ _
      | exact ih1 _ _ _ _ _ _ _ _ _
      | exact ih2 _ _ _ _ _ _ _ _ _
      | exact ih3 _ _ _ _ _ _ _ _
      | exact glidepathbase_Ints.mono _ _ _
      | exact glidepathlaw02_awake.mono _
      | exact glidepathref02_CaseErr.mono _ _ _ _ _
      | exact glidepathref02_Cases.mono _ _ _
      | exact glidepathref02_CheckNoise.mono _ _
      | exact glidepathref02_Noisy.mono _ _ _ _
      | exact line_CheckCase.mono _ _ _ _ _
      | exact line_Noisy.mono _ _ _ _ _ _
      | exact LeO.none _
      | refine LeO.ite ?_ ?_
      | refine LeO.bind ?_ (fun _ => ?_)
set_option maxHeartbeats 8000000 in
set_option maxRecDepth 100000 in
theorem glidepathlaw02_LineCases.calls (k : Nat) (A0_0 : Option Addr) (c0_0 : Nat) (l0_0 : List Int) (A0_1 : Option Addr) (c0_1 : Nat) (l0_1 : List Int) (a0_2 : Int) (a0_3 : Int) (a1 : Int) (r : Bool) (w : World) (hr0_0 : Kd.C (Kd.int .i64) w A0_0 l0_0.length l0_0) (hc0_0 : l0_0.length ≤ c0_0) (hr0_1 : Kd.C (Kd.int .i64) w A0_1 l0_1.length l0_1) (hc0_1 : l0_1.length ≤ c0_1) (hG : EstG w) (h : glidepathlaw02_LineCases.f k l0_0 l0_1 a0_2 a0_3 a1 = some r) :
    Calls Tryd.prog 8 #[.agg #[.slice A0_0 l0_0.length c0_0, .slice A0_1 l0_1.length c0_1, .int .i64 a0_2, .int .i64 a0_3], .int .i64 a1] w fun e w' => e = .returned (.bool r) ∧ Below w.heap.size w w' := by
  have hu28 := Tryd.underlying28
  have hu24 := Tryd.underlying24
  have HG := Aside0.mk hG
  clear hG
  have HR0_0 := Aside0.mk hr0_0
  have HC0_0 := Aside0.mk hc0_0
  clear hr0_0 hc0_0
  have HR0_1 := Aside0.mk hr0_1
  have HC0_1 := Aside0.mk hc0_1
  clear hr0_1 hc0_1
  have HB := Aside0.mk (Below.refl w.heap.size w)
  have H : ((glidepathlaw02_awake.f k).bind fun t1060 => (if t1060 = true then ((glidepathlaw02_short.f l0_0).bind fun t1061 => (if t1061 = true then ((glidepathlaw02_short.f l0_1).bind fun t1062 => (glidepathlaw02_LineCases.j0 k a1 (!t1062) l0_0 l0_1 a0_2 a0_3)) else (glidepathlaw02_LineCases.j0 k a1 true l0_0 l0_1 a0_2 a0_3))) else (some false))) = some r := h
  clear h
  replace H := Option.bind_eq_some_iff.mp H
  obtain ⟨t1060, A30, H⟩ := H
  (try dsimp only at H)
  have A3 := Aside0.mk A30
  clear A30
  by_cases c4 : t1060 = true
  · subst c4
    rw [if_pos rfl] at H
    have HC5 := Aside0.mk H
    clear H
    go_enter Tryd.func8, Tryd.ntmps8
    go_upto_region 3 with (first | ((with_reducible refine gate_dst (N := 2) rfl ?_); (try (refine gate_guard (by rfl) ?_; dsimp only)); refine be 2 28 #[.slice A0_0 l0_0.length c0_0, .slice A0_1 l0_1.length c0_1, .int .i64 a0_2, .int .i64 a0_3] ?_; intro gb1059 hg w6 hbox hb; have BK1059 := Aside0.mk hbox; have GW1059 := Aside0.mk (bg (n := w.heap.size) hg); have GE1059 := Aside0.mk (bg (n := w.heap.size) hg); replace HB := sb HB hb; clear hb hbox hg) | ((with_reducible refine gate_callee (f := 18) rfl ?_); refine gl (some 12) Tryd.func18 #[] ?_; (with_reducible refine (glidepathlaw02_awake.calls k  true _ ?side1 A3.out).mono ?_); (case side1 => exact EstG.below HG.out bz); rintro e w7 ⟨rfl, hb⟩; refine ⟨_, rfl, ?_⟩; replace BK1059 := bb BK1059 hb; replace HB := sb HB hb; (try clear hb)))
    (try simp only [Act.put, List.setIfInBounds_toArray, List.set_cons_zero, List.set_cons_succ])
    go_cut [24] (fun v24 wc => ∃ (kq : Nat) (x24_4 : Bool), v24 = .bool x24_4 ∧ Aside0 (glidepathlaw02_LineCases.j0 kq a1 x24_4 l0_0 l0_1 a0_2 a0_3 = some r) ∧ Aside0 (kq ≤ k) ∧ Aside0 (wc.heap[gb1059]? = some (.cells #[(.slice A0_0 l0_0.length c0_0), (.slice A0_1 l0_1.length c0_1), .int .i64 a0_2, .int .i64 a0_3] 28 (0, 0))) ∧ Aside0 (Below w.heap.size w wc))
    case first =>
      have H := HC5.out
      clear HC5
      replace H := Option.bind_eq_some_iff.mp H
      obtain ⟨t1061, A80, H⟩ := H
      (try dsimp only at H)
      have A8 := Aside0.mk A80
      clear A80
      by_cases c9 : t1061 = true
      · subst c9
        rw [if_pos rfl] at H
        replace H := Option.bind_eq_some_iff.mp H
        obtain ⟨t1062, A100, H⟩ := H
        (try dsimp only at H)
        have A10 := Aside0.mk A100
        clear A100
        have H' := Aside0.mk H
        clear H
        obtain ⟨hcz11_0, hcz11_1, hcz11_2, hcz11_3, hfz11_0, hfz11_1, hfz11_2, hfz11_3⟩ := b4 BK1059
        go_wp2_with (first | ((with_reducible refine gate_callee (f := 50) rfl ?_); refine gl (some 16) Tryd.func50 #[.slice A0_0 l0_0.length c0_0] ?_; (with_reducible refine (glidepathlaw02_short.calls _ _ l0_0 true _ ?side1 ?side2 A8.out).mono ?_); (case side1 => exact bc (Kd.C_below HR0_0.out HB.out)); (case side2 => exact HC0_0.out); rintro e w' ⟨rfl, ⟨nd, rfl⟩⟩; refine ⟨_, rfl, ?_⟩) | (go_at_call 50; (with_reducible refine (glidepathlaw02_short.calls _ _ l0_1 t1062 _ ?side1 ?side2 A10.out).mono ?_); (case side1 => repeat (first | exact (Kd.C_below HR0_1.out bz) | (with_reducible refine Kd.C_alloc ?_ _) | (with_reducible refine Kd.C_drewN ?_ _) | (with_reducible refine Kd.C_drew ?_))); (case side2 => exact HC0_1.out); rintro e w' ⟨rfl, ⟨nd, rfl⟩⟩))
        go_meet
        case rel => exact ⟨_, (!t1062), (by first | rfl | (simp; done) | (simp [*]; done)), H', ⟨by first | omega | exact Nat.le_refl _⟩, ⟨by (with_reducible repeat (first | refine blk_drewN ?_ _ | refine blk_drew ?_ | refine blk_alloc ?_ _)); exact BK1059.out⟩, ⟨by repeat (first | (with_reducible first | exact HB.out | apply below_alloc | apply pw_below_drewN | apply below_drew1 | refine below_set ?_ GE1059.out) | exact HB.out)⟩⟩
      · replace c9 := Bool.eq_false_iff.mpr c9
        subst c9
        rw [if_neg (show ¬ (false = true) by decide)] at H
        have H' := Aside0.mk H
        clear H
        obtain ⟨hcz12_0, hcz12_1, hcz12_2, hcz12_3, hfz12_0, hfz12_1, hfz12_2, hfz12_3⟩ := b4 BK1059
        go_wp2_with (first | ((with_reducible refine gate_callee (f := 50) rfl ?_); refine gl (some 16) Tryd.func50 #[.slice A0_0 l0_0.length c0_0] ?_; (with_reducible refine (glidepathlaw02_short.calls _ _ l0_0 false _ ?side1 ?side2 A8.out).mono ?_); (case side1 => exact bc (Kd.C_below HR0_0.out HB.out)); (case side2 => exact HC0_0.out); rintro e w' ⟨rfl, ⟨nd, rfl⟩⟩; refine ⟨_, rfl, ?_⟩))
        go_meet
        case rel => exact ⟨_, (true), (by first | rfl | (simp; done) | (simp [*]; done)), H', ⟨by first | omega | exact Nat.le_refl _⟩, ⟨by (with_reducible repeat (first | refine blk_drewN ?_ _ | refine blk_drew ?_ | refine blk_alloc ?_ _)); exact BK1059.out⟩, ⟨by repeat (first | (with_reducible first | exact HB.out | apply below_alloc | apply pw_below_drewN | apply below_drew1 | refine below_set ?_ GE1059.out) | exact HB.out)⟩⟩
    case rest =>
      clear HC5
      try clear c1
      try clear p2
      try clear c4
      try clear c5
      try clear c8
      try clear c9
      try clear hcz11_0
      try clear hcz11_1
      try clear hcz11_2
      try clear hcz11_3
      try clear hcz12_0
      try clear hcz12_1
      try clear hcz12_2
      try clear hcz12_3
      try clear hfz11_0
      try clear hfz11_1
      try clear hfz11_2
      try clear hfz11_3
      try clear hfz12_0
      try clear hfz12_1
      try clear hfz12_2
      try clear hfz12_3
      obtain ⟨kq, x24_4, rfl, HA, HJ4, BK1059, HB⟩ := hcut
      cases kq with
      | zero => exact absurd HA.out (by simp [glidepathlaw02_LineCases.j0])
      | succ kj4 =>
        have H := HA.out
        clear HA
        simp only [glidepathlaw02_LineCases.j0] at H
        by_cases c13 : x24_4 = true
        · subst c13
          rw [if_pos rfl] at H
          obtain rfl := Option.some.inj H
          go_wp2
          go_ret
          exact ez
        · replace c13 := Bool.eq_false_iff.mpr c13
          subst c13
          rw [if_neg (show ¬ (false = true) by decide)] at H
          replace H := Option.bind_eq_some_iff.mp H
          obtain ⟨t1063, A140, H⟩ := H
          (try dsimp only at H)
          have A14 := Aside0.mk A140
          clear A140
          replace H := Option.bind_eq_some_iff.mp H
          obtain ⟨⟨t1066, t1067⟩, A150, H⟩ := H
          (try dsimp only at H)
          have A15 := Aside0.mk A150
          clear A150
          replace H := Option.bind_eq_some_iff.mp H
          obtain ⟨⟨t1068, t1071, t1074, t1075⟩, A160, H⟩ := H
          (try dsimp only at H)
          have A16 := Aside0.mk A160
          clear A160
          replace H := Option.bind_eq_some_iff.mp H
          obtain ⟨t1076, A170, H⟩ := H
          (try dsimp only at H)
          have A17 := Aside0.mk A170
          clear A170
          replace H := Option.bind_eq_some_iff.mp H
          obtain ⟨⟨t1077, t1080, t1083, t1084⟩, A180, H⟩ := H
          (try dsimp only at H)
          have A18 := Aside0.mk A180
          clear A180
          replace H := Option.bind_eq_some_iff.mp H
          obtain ⟨⟨t1085, t1088⟩, A190, H⟩ := H
          (try dsimp only at H)
          have A19 := Aside0.mk A190
          clear A190
          replace H := Option.bind_eq_some_iff.mp H
          obtain ⟨⟨t1089, t1090⟩, A200, H⟩ := H
          (try dsimp only at H)
          have A20 := Aside0.mk A200
          clear A200
          have HC21 := Aside0.mk H
          clear H
          obtain ⟨hcz22_0, hcz22_1, hcz22_2, hcz22_3, hfz22_0, hfz22_1, hfz22_2, hfz22_3⟩ := b4 BK1059
          go_upto_region 9 with (first | ((with_reducible refine gate_callee (f := 52) rfl ?_); refine gl (some 28) Tryd.func52 #[.agg #[.slice A0_1 l0_1.length c0_1]] ?_; (with_reducible refine (glidepathref02_CopyNoise.calls _ _ l0_1 t1063 _ ?side1 ?side2 A14.out).mono ?_); (case side1 => exact bc (Kd.C_below HR0_1.out HB.out)); (case side2 => exact HC0_1.out); rintro e w23 ⟨v1064, rfl, ho0, hb⟩; refine ⟨_, rfl, ?_⟩; have HO1065 := Aside0.mk (Kd.R_lower ho0 (below_size bz)); replace BK1059 := bb BK1059 hb; replace HB := sb HB hb; (try clear hb); (try clear ho0); obtain ⟨Ao24, co24, eo24⟩ := Kd.R_slice HO1065.out; subst eo24) | ((with_reducible refine gate_callee (f := 51) rfl ?_); refine gl (some 29) Tryd.func51 #[.agg #[.slice Ao24 t1063.length co24]] ?_; (with_reducible refine (line_CheckNoise.calls _ _ t1063 t1066 t1067 _ ?side1 ?side2 A15.out).mono ?_); (case side1 => exact bc (Kd.R_reads' HO1065.out).2.2); (case side2 => exact (Kd.R_reads' HO1065.out).2.1); rintro e w25 ⟨rfl, hb⟩; refine ⟨_, rfl, ?_⟩; replace HO1065 := rb HO1065 hb; replace BK1059 := bb BK1059 hb; replace HB := sb HB hb; (try clear hb); obtain ⟨hcz26_0, hcz26_1, hcz26_2, hcz26_3, hfz26_0, hfz26_1, hfz26_2, hfz26_3⟩ := b4 BK1059) | ((with_reducible refine gate_callee (f := 21) rfl ?_); refine gl (some 33) Tryd.func21 #[.agg #[.slice A0_0 l0_0.length c0_0, .slice A0_1 l0_1.length c0_1, .int .i64 a0_2, .int .i64 a0_3]] ?_; (with_reducible refine (glidepathref02_CopyCase.calls _ _ l0_0 _ _ l0_1 a0_2 a0_3 t1068 t1071 t1074 t1075 _ ?side1 ?side2 ?side3 ?side4 A16.out).mono ?_); (case side1 => exact bc (Kd.C_below HR0_0.out HB.out)); (case side2 => exact HC0_0.out); (case side3 => exact bc (Kd.C_below HR0_1.out HB.out)); (case side4 => exact HC0_1.out); rintro e w27 ⟨v1069, v1072, rfl, ho0, ho1, hb⟩; refine ⟨_, rfl, ?_⟩; have HO1070 := Aside0.mk (Kd.R_lower (Kd.R_new' ho0 (Kd.R_lt (br HO1065.out))) (below_size bz)); have HO1073 := Aside0.mk (Kd.R_lower (Kd.R_new' ho1 (Kd.R_lt (br HO1065.out))) (below_size bz)); replace HO1065 := Aside0.mk (Kd.R_mono (Kd.R_told (Kd.R_told (Kd.R_old (br HO1065.out) hb) (Kd.R_base ho0)) (Kd.R_base ho1)) (fun _ h_ => h_.1)); replace BK1059 := bb BK1059 hb; replace HB := sb HB hb; (try clear hb); (try clear ho0); (try clear ho1); obtain ⟨Ao28, co28, eo28⟩ := Kd.R_slice HO1070.out; subst eo28; obtain ⟨Ao29, co29, eo29⟩ := Kd.R_slice HO1073.out; subst eo29) | ((with_reducible refine gate_callee (f := 53) rfl ?_); refine gl (some 34) Tryd.func53 #[.agg #[.slice Ao28 t1068.length co28, .slice Ao29 t1071.length co29, .int .i64 t1074, .int .i64 t1075]] ?_; (with_reducible refine (line_CheckCase.calls kj4 _ _ t1068 _ _ t1071 t1074 t1075 t1076 _ ?side1 ?side2 ?side3 ?side4 A17.out).mono ?_); (case side1 => exact bc (Kd.R_reads' HO1070.out).2.2); (case side2 => exact (Kd.R_reads' HO1070.out).2.1); (case side3 => exact bc (Kd.R_reads' HO1073.out).2.2); (case side4 => exact (Kd.R_reads' HO1073.out).2.1); rintro e w30 ⟨rfl, hb⟩; refine ⟨_, rfl, ?_⟩; replace HO1065 := rb HO1065 hb; replace HO1070 := rb HO1070 hb; replace HO1073 := rb HO1073 hb; replace BK1059 := bb BK1059 hb; replace HB := sb HB hb; (try clear hb); obtain ⟨hcz31_0, hcz31_1, hcz31_2, hcz31_3, hfz31_0, hfz31_1, hfz31_2, hfz31_3⟩ := b4 BK1059) | ((with_reducible refine gate_callee (f := 21) rfl ?_); refine gl (some 37) Tryd.func21 #[.agg #[.slice A0_0 l0_0.length c0_0, .slice A0_1 l0_1.length c0_1, .int .i64 a0_2, .int .i64 a0_3]] ?_; (with_reducible refine (glidepathref02_CopyCase.calls _ _ l0_0 _ _ l0_1 a0_2 a0_3 t1077 t1080 t1083 t1084 _ ?side1 ?side2 ?side3 ?side4 A18.out).mono ?_); (case side1 => exact bc (Kd.C_below HR0_0.out HB.out)); (case side2 => exact HC0_0.out); (case side3 => exact bc (Kd.C_below HR0_1.out HB.out)); (case side4 => exact HC0_1.out); rintro e w32 ⟨v1078, v1081, rfl, ho0, ho1, hb⟩; refine ⟨_, rfl, ?_⟩; have HO1079 := Aside0.mk (Kd.R_lower (Kd.R_new' (Kd.R_new' (Kd.R_new' ho0 (Kd.R_lt (br HO1065.out))) (Kd.R_lt (br HO1070.out))) (Kd.R_lt (br HO1073.out))) (below_size bz)); have HO1082 := Aside0.mk (Kd.R_lower (Kd.R_new' (Kd.R_new' (Kd.R_new' ho1 (Kd.R_lt (br HO1065.out))) (Kd.R_lt (br HO1070.out))) (Kd.R_lt (br HO1073.out))) (below_size bz)); replace HO1065 := Aside0.mk (Kd.R_mono (Kd.R_told (Kd.R_told (Kd.R_old (br HO1065.out) hb) (Kd.R_base ho0)) (Kd.R_base ho1)) (fun _ h_ => h_.1)); replace HO1070 := Aside0.mk (Kd.R_mono (Kd.R_told (Kd.R_told (Kd.R_old (br HO1070.out) hb) (Kd.R_base ho0)) (Kd.R_base ho1)) (fun _ h_ => h_.1)); replace HO1073 := Aside0.mk (Kd.R_mono (Kd.R_told (Kd.R_told (Kd.R_old (br HO1073.out) hb) (Kd.R_base ho0)) (Kd.R_base ho1)) (fun _ h_ => h_.1)); replace BK1059 := bb BK1059 hb; replace HB := sb HB hb; (try clear hb); (try clear ho0); (try clear ho1); obtain ⟨Ao33, co33, eo33⟩ := Kd.R_slice HO1079.out; subst eo33; obtain ⟨Ao34, co34, eo34⟩ := Kd.R_slice HO1082.out; subst eo34) | ((with_reducible refine gate_callee (f := 54) rfl ?_); refine gl (some 39) Tryd.func54 #[.agg #[.slice Ao33 t1077.length co33, .slice Ao34 t1080.length co34, .int .i64 t1083, .int .i64 t1084], .int .i64 a1] ?_; (with_reducible refine (line_Noisy.calls kj4 _ _ t1077 _ _ t1080 t1083 t1084 a1 t1085 t1088 _ ?side1 ?side2 ?side3 ?side4 A19.out).mono ?_); (case side1 => exact bc (Kd.R_reads' HO1079.out).2.2); (case side2 => exact (Kd.R_reads' HO1079.out).2.1); (case side3 => exact bc (Kd.R_reads' HO1082.out).2.2); (case side4 => exact (Kd.R_reads' HO1082.out).2.1); rintro e w35 ⟨v1086, rfl, ho0, hb⟩; refine ⟨_, rfl, ?_⟩; have HO1087 := Aside0.mk (Kd.R_lower (Kd.R_new' (Kd.R_new' (Kd.R_new' (Kd.R_new' (Kd.R_new' ho0 (Kd.R_lt (br HO1065.out))) (Kd.R_lt (br HO1070.out))) (Kd.R_lt (br HO1073.out))) (Kd.R_lt (br HO1079.out))) (Kd.R_lt (br HO1082.out))) (below_size bz)); replace HO1065 := Aside0.mk (Kd.R_elder' (br HO1065.out) (Kd.R_base ho0) hb); replace HO1070 := Aside0.mk (Kd.R_elder' (br HO1070.out) (Kd.R_base ho0) hb); replace HO1073 := Aside0.mk (Kd.R_elder' (br HO1073.out) (Kd.R_base ho0) hb); replace HO1079 := Aside0.mk (Kd.R_elder' (br HO1079.out) (Kd.R_base ho0) hb); replace HO1082 := Aside0.mk (Kd.R_elder' (br HO1082.out) (Kd.R_base ho0) hb); replace BK1059 := bb BK1059 hb; replace HB := sb HB hb; (try clear hb); (try clear ho0); obtain ⟨hcz36_0, hcz36_1, hcz36_2, hcz36_3, hfz36_0, hfz36_1, hfz36_2, hfz36_3⟩ := b4 BK1059) | ((with_reducible refine gate_callee (f := 55) rfl ?_); refine gl (some 45) Tryd.func55 #[.agg #[.slice A0_1 l0_1.length c0_1]] ?_; (with_reducible refine (glidepathref02_CheckNoise.calls kj4 _ _ l0_1 t1089 t1090 _ ?side1 ?side2 A20.out).mono ?_); (case side1 => exact bc (Kd.C_below HR0_1.out HB.out)); (case side2 => exact HC0_1.out); rintro e w37 ⟨rfl, hb⟩; refine ⟨_, rfl, ?_⟩; replace HO1065 := rb HO1065 hb; replace HO1070 := rb HO1070 hb; replace HO1073 := rb HO1073 hb; replace HO1079 := rb HO1079 hb; replace HO1082 := rb HO1082 hb; replace HO1087 := rb HO1087 hb; replace BK1059 := bb BK1059 hb; replace HB := sb HB hb; (try clear hb)))
          (try simp only [Act.put, List.setIfInBounds_toArray, List.set_cons_zero, List.set_cons_succ])
          go_cut [55] (fun v55 wc => ∃ (kq : Nat) (x55_20 : Bool), v55 = .bool x55_20 ∧ Aside0 (glidepathlaw02_LineCases.j1 kq a1 t1076 t1085 t1088 x55_20 l0_0 l0_1 a0_2 a0_3 = some r) ∧ Aside0 (kq ≤ kj4) ∧ Aside0 (Kd.R (Kd.int .i64) 3 wc w.heap.size (fun _ => True) v1086 t1085) ∧ Aside0 (wc.heap[gb1059]? = some (.cells #[(.slice A0_0 l0_0.length c0_0), (.slice A0_1 l0_1.length c0_1), .int .i64 a0_2, .int .i64 a0_3] 28 (0, 0))) ∧ Aside0 (Below w.heap.size w wc))
          case first =>
            have H := HC21.out
            clear HC21
            by_cases c38 : t1067 = t1090
            · rw [if_pos c38] at H
              have c38b0 := beq_iff_eq.mpr c38
              have c38b1 := bne_eq_false_iff_eq.mpr c38
              clear c38
              (first | rw [c38b0] | (simp only [i64_w, i32_w]; rw [c38b0]) | skip)
              have H' := Aside0.mk H
              clear H
              go_wp2
              go_meet
              case rel => exact ⟨_, ((t1066 != t1089)), (by first | rfl | (simp; done) | (simp [*]; done)), H', ⟨by have := HJ4.out; first | omega | exact Nat.le_refl _⟩, ⟨by (with_reducible repeat (first | apply Kd.R_alloc | apply Kd.R_drewN | apply Kd.R_drew)); exact Kd.R_mono HO1087.out (fun _ hk => trivial)⟩, ⟨by (with_reducible repeat (first | refine blk_drewN ?_ _ | refine blk_drew ?_ | refine blk_alloc ?_ _)); exact BK1059.out⟩, ⟨by repeat (first | (with_reducible first | exact HB.out | apply below_alloc | apply pw_below_drewN | apply below_drew1 | refine below_set ?_ GE1059.out) | exact HB.out)⟩⟩
            · rw [if_neg c38] at H
              have c38b0 := beq_eq_false_iff_ne.mpr c38
              have c38b1 := bne_iff_ne.mpr c38
              (first | rw [c38b0] | (simp only [i64_w, i32_w]; rw [c38b0]) | skip)
              have H' := Aside0.mk H
              clear H
              go_wp2
              go_meet
              case rel => exact ⟨_, (true), (by first | rfl | (simp; done) | (simp [*]; done)), H', ⟨by have := HJ4.out; first | omega | exact Nat.le_refl _⟩, ⟨by (with_reducible repeat (first | apply Kd.R_alloc | apply Kd.R_drewN | apply Kd.R_drew)); exact Kd.R_mono HO1087.out (fun _ hk => trivial)⟩, ⟨by (with_reducible repeat (first | refine blk_drewN ?_ _ | refine blk_drew ?_ | refine blk_alloc ?_ _)); exact BK1059.out⟩, ⟨by repeat (first | (with_reducible first | exact HB.out | apply below_alloc | apply pw_below_drewN | apply below_drew1 | refine below_set ?_ GE1059.out) | exact HB.out)⟩⟩
          case rest =>
            clear HC21
            try clear c1
            try clear c2
            try clear p2
            try clear c3
            try clear c4
            try clear c5
            try clear c8
            try clear c9
            try clear c13
            try clear c18
            try clear c21
            try clear c38
            try clear c38b0
            try clear c38b1
            try clear hcz11_0
            try clear hcz11_1
            try clear hcz11_2
            try clear hcz11_3
            try clear hcz12_0
            try clear hcz12_1
            try clear hcz12_2
            try clear hcz12_3
            try clear hcz22_0
            try clear hcz22_1
            try clear hcz22_2
            try clear hcz22_3
            try clear hcz26_0
            try clear hcz26_1
            try clear hcz26_2
            try clear hcz26_3
            try clear hcz31_0
            try clear hcz31_1
            try clear hcz31_2
            try clear hcz31_3
            try clear hcz36_0
            try clear hcz36_1
            try clear hcz36_2
            try clear hcz36_3
            try clear hfz11_0
            try clear hfz11_1
            try clear hfz11_2
            try clear hfz11_3
            try clear hfz12_0
            try clear hfz12_1
            try clear hfz12_2
            try clear hfz12_3
            try clear hfz22_0
            try clear hfz22_1
            try clear hfz22_2
            try clear hfz22_3
            try clear hfz26_0
            try clear hfz26_1
            try clear hfz26_2
            try clear hfz26_3
            try clear hfz31_0
            try clear hfz31_1
            try clear hfz31_2
            try clear hfz31_3
            try clear hfz36_0
            try clear hfz36_1
            try clear hfz36_2
            try clear hfz36_3
            try clear p2
            obtain ⟨kq, x55_20, rfl, HA, HJ20, HO_8, BK1059, HB⟩ := hcut
            cases kq with
            | zero => exact absurd HA.out (by simp [glidepathlaw02_LineCases.j1])
            | succ kj20 =>
              have H := HA.out
              clear HA
              simp only [glidepathlaw02_LineCases.j1] at H
              by_cases c39 : x55_20 = true
              · subst c39
                rw [if_pos rfl] at H
                obtain rfl := Option.some.inj H
                go_wp2
                go_ret
                exact ez
              · replace c39 := Bool.eq_false_iff.mpr c39
                subst c39
                rw [if_neg (show ¬ (false = true) by decide)] at H
                replace H := Option.bind_eq_some_iff.mp H
                obtain ⟨t1091, A400, H⟩ := H
                (try dsimp only at H)
                have A40 := Aside0.mk A400
                clear A400
                by_cases c41 : t1076 = t1091
                · rw [if_pos c41] at H
                  have c41b0 := beq_iff_eq.mpr c41
                  have c41b1 := bne_eq_false_iff_eq.mpr c41
                  clear c41
                  have HC42 := Aside0.mk H
                  clear H
                  obtain ⟨hcz43_0, hcz43_1, hcz43_2, hcz43_3, hfz43_0, hfz43_1, hfz43_2, hfz43_3⟩ := b4 BK1059
                  go_upto_region 14 with (first | ((with_reducible refine gate_callee (f := 23) rfl ?_); refine gl (some 57) Tryd.func23 #[.agg #[.slice A0_0 l0_0.length c0_0, .slice A0_1 l0_1.length c0_1, .int .i64 a0_2, .int .i64 a0_3]] ?_; (with_reducible refine (glidepathref02_CaseErr.calls kj20 _ _ l0_0 _ _ l0_1 a0_2 a0_3 t1091 _ ?side1 ?side2 ?side3 ?side4 A40.out).mono ?_); (case side1 => exact bc (Kd.C_below HR0_0.out HB.out)); (case side2 => exact HC0_0.out); (case side3 => exact bc (Kd.C_below HR0_1.out HB.out)); (case side4 => exact HC0_1.out); rintro e w44 ⟨rfl, hb⟩; refine ⟨_, rfl, ?_⟩; replace HO_8 := rb HO_8 hb; replace BK1059 := bb BK1059 hb; replace HB := sb HB hb; (try clear hb)))
                  (try simp only [Act.put, List.setIfInBounds_toArray, List.set_cons_zero, List.set_cons_succ])
                  go_cut [74] (fun v74 wc => ∃ (kq : Nat) (x74_41 : Bool), v74 = .bool x74_41 ∧ Aside0 (glidepathlaw02_LineCases.j2 kq a1 t1085 t1088 t1091 x74_41 l0_0 l0_1 a0_2 a0_3 = some r) ∧ Aside0 (kq ≤ kj20) ∧ Aside0 (Kd.R (Kd.int .i64) 3 wc w.heap.size (fun _ => True) v1086 t1085) ∧ Aside0 (wc.heap[gb1059]? = some (.cells #[(.slice A0_0 l0_0.length c0_0), (.slice A0_1 l0_1.length c0_1), .int .i64 a0_2, .int .i64 a0_3] 28 (0, 0))) ∧ Aside0 (Below w.heap.size w wc))
                  case first =>
                    have H := HC42.out
                    clear HC42
                    by_cases c45 : t1091 = 0
                    · rw [if_pos c45] at H
                      have c45b0 := beq_iff_eq.mpr c45
                      have c45b1 := bne_eq_false_iff_eq.mpr c45
                      clear c45
                      (first | rw [c45b0] | (simp only [i64_w, i32_w]; rw [c45b0]) | skip)
                      replace H := Option.bind_eq_some_iff.mp H
                      obtain ⟨t1092, A460, H⟩ := H
                      (try dsimp only at H)
                      have A46 := Aside0.mk A460
                      clear A460
                      replace H := Option.bind_eq_some_iff.mp H
                      obtain ⟨t1093, A470, H⟩ := H
                      (try dsimp only at H)
                      have A47 := Aside0.mk A470
                      clear A470
                      have H' := Aside0.mk H
                      clear H
                      obtain ⟨hcz48_0, hcz48_1, hcz48_2, hcz48_3, hfz48_0, hfz48_1, hfz48_2, hfz48_3⟩ := b4 BK1059
                      go_wp2_with (first | (go_at_call 56; (with_reducible refine (glidepathref02_Cases.calls kj20 _ _ l0_1 (l0_0.length : Int) t1092 _ ?side1 ?side2 A46.out).mono ?_); (case side1 => exact bc (Kd.C_below HR0_1.out HB.out)); (case side2 => exact HC0_1.out); rintro e w49 ⟨rfl, hb⟩; replace HO_8 := rb HO_8 hb; replace BK1059 := bb BK1059 hb; replace HB := sb HB hb; (try clear hb)) | (go_at_call 31; (with_reducible refine (glidepathbase_Within.calls a1 0 (wrap64 (t1092 - 1)) t1093 _ A47.out).mono ?_); rintro e w' ⟨rfl, ⟨nd, rfl⟩⟩))
                      go_meet
                      case rel => exact ⟨_, (!t1093), (by first | rfl | (simp; done) | (simp [*]; done)), H', ⟨by have := HJ4.out; have := HJ20.out; first | omega | exact Nat.le_refl _⟩, ⟨by (with_reducible repeat (first | apply Kd.R_alloc | apply Kd.R_drewN | apply Kd.R_drew)); exact HO_8.out⟩, ⟨by (with_reducible repeat (first | refine blk_drewN ?_ _ | refine blk_drew ?_ | refine blk_alloc ?_ _)); exact BK1059.out⟩, ⟨by repeat (first | (with_reducible first | exact HB.out | apply below_alloc | apply pw_below_drewN | apply below_drew1 | refine below_set ?_ GE1059.out) | exact HB.out)⟩⟩
                    · rw [if_neg c45] at H
                      have c45b0 := beq_eq_false_iff_ne.mpr c45
                      have c45b1 := bne_iff_ne.mpr c45
                      (first | rw [c45b0] | (simp only [i64_w, i32_w]; rw [c45b0]) | skip)
                      have H' := Aside0.mk H
                      clear H
                      go_wp2
                      go_meet
                      case rel => exact ⟨_, (false), (by first | rfl | (simp; done) | (simp [*]; done)), H', ⟨by have := HJ4.out; have := HJ20.out; first | omega | exact Nat.le_refl _⟩, ⟨by (with_reducible repeat (first | apply Kd.R_alloc | apply Kd.R_drewN | apply Kd.R_drew)); exact HO_8.out⟩, ⟨by (with_reducible repeat (first | refine blk_drewN ?_ _ | refine blk_drew ?_ | refine blk_alloc ?_ _)); exact BK1059.out⟩, ⟨by repeat (first | (with_reducible first | exact HB.out | apply below_alloc | apply pw_below_drewN | apply below_drew1 | refine below_set ?_ GE1059.out) | exact HB.out)⟩⟩
                  case rest =>
                    clear HC42
                    try clear c1
                    try clear c2
                    try clear p2
                    try clear c3
                    try clear c4
                    try clear c5
                    try clear p6
                    try clear c8
                    try clear c9
                    try clear c13
                    try clear c18
                    try clear c21
                    try clear c23
                    try clear c38
                    try clear c38b0
                    try clear c38b1
                    try clear c39
                    try clear c41
                    try clear c41b0
                    try clear c41b1
                    try clear c45
                    try clear c45b0
                    try clear c45b1
                    try clear hcz11_0
                    try clear hcz11_1
                    try clear hcz11_2
                    try clear hcz11_3
                    try clear hcz12_0
                    try clear hcz12_1
                    try clear hcz12_2
                    try clear hcz12_3
                    try clear hcz22_0
                    try clear hcz22_1
                    try clear hcz22_2
                    try clear hcz22_3
                    try clear hcz26_0
                    try clear hcz26_1
                    try clear hcz26_2
                    try clear hcz26_3
                    try clear hcz31_0
                    try clear hcz31_1
                    try clear hcz31_2
                    try clear hcz31_3
                    try clear hcz36_0
                    try clear hcz36_1
                    try clear hcz36_2
                    try clear hcz36_3
                    try clear hcz43_0
                    try clear hcz43_1
                    try clear hcz43_2
                    try clear hcz43_3
                    try clear hcz48_0
                    try clear hcz48_1
                    try clear hcz48_2
                    try clear hcz48_3
                    try clear hfz11_0
                    try clear hfz11_1
                    try clear hfz11_2
                    try clear hfz11_3
                    try clear hfz12_0
                    try clear hfz12_1
                    try clear hfz12_2
                    try clear hfz12_3
                    try clear hfz22_0
                    try clear hfz22_1
                    try clear hfz22_2
                    try clear hfz22_3
                    try clear hfz26_0
                    try clear hfz26_1
                    try clear hfz26_2
                    try clear hfz26_3
                    try clear hfz31_0
                    try clear hfz31_1
                    try clear hfz31_2
                    try clear hfz31_3
                    try clear hfz36_0
                    try clear hfz36_1
                    try clear hfz36_2
                    try clear hfz36_3
                    try clear hfz43_0
                    try clear hfz43_1
                    try clear hfz43_2
                    try clear hfz43_3
                    try clear hfz48_0
                    try clear hfz48_1
                    try clear hfz48_2
                    try clear hfz48_3
                    try clear p2
                    obtain ⟨kq, x74_41, rfl, HA, HJ41, HO_8, BK1059, HB⟩ := hcut
                    cases kq with
                    | zero => exact absurd HA.out (by simp [glidepathlaw02_LineCases.j2])
                    | succ kj41 =>
                      have H := HA.out
                      clear HA
                      simp only [glidepathlaw02_LineCases.j2] at H
                      have HC50 := Aside0.mk H
                      clear H
                      go_upto_if 74 with (fail)
                      go_cut [11] (fun v11 wc => ∃ (kq : Nat) (x11_49 : Int), v11 = .int .i64 x11_49 ∧ Aside0 (glidepathlaw02_LineCases.j3 kq a1 t1085 t1088 x11_49 l0_0 l0_1 a0_2 a0_3 = some r) ∧ Aside0 (kq ≤ kj41) ∧ Aside0 (Kd.R (Kd.int .i64) 3 wc w.heap.size (fun _ => True) v1086 t1085) ∧ Aside0 (wc.heap[gb1059]? = some (.cells #[(.slice A0_0 l0_0.length c0_0), (.slice A0_1 l0_1.length c0_1), .int .i64 a0_2, .int .i64 a0_3] 28 (0, 0))) ∧ Aside0 (Below w.heap.size w wc))
                      case first =>
                        have H := HC50.out
                        clear HC50
                        by_cases c51 : x74_41 = true
                        · subst c51
                          rw [if_pos rfl] at H
                          have H' := Aside0.mk H
                          clear H
                          go_wp2
                          go_meet
                          case rel => exact ⟨_, (6), (by first | rfl | (simp; done) | (simp [*]; done)), H', ⟨by have := HJ4.out; have := HJ20.out; have := HJ41.out; first | omega | exact Nat.le_refl _⟩, ⟨by (with_reducible repeat (first | apply Kd.R_alloc | apply Kd.R_drewN | apply Kd.R_drew)); exact HO_8.out⟩, ⟨by (with_reducible repeat (first | refine blk_drewN ?_ _ | refine blk_drew ?_ | refine blk_alloc ?_ _)); exact BK1059.out⟩, ⟨by repeat (first | (with_reducible first | exact HB.out | apply below_alloc | apply pw_below_drewN | apply below_drew1 | refine below_set ?_ GE1059.out) | exact HB.out)⟩⟩
                        · replace c51 := Bool.eq_false_iff.mpr c51
                          subst c51
                          rw [if_neg (show ¬ (false = true) by decide)] at H
                          have H' := Aside0.mk H
                          clear H
                          go_wp2
                          go_meet
                          case rel => exact ⟨_, (t1091), (by first | rfl | (simp; done) | (simp [*]; done)), H', ⟨by have := HJ4.out; have := HJ20.out; have := HJ41.out; first | omega | exact Nat.le_refl _⟩, ⟨by (with_reducible repeat (first | apply Kd.R_alloc | apply Kd.R_drewN | apply Kd.R_drew)); exact HO_8.out⟩, ⟨by (with_reducible repeat (first | refine blk_drewN ?_ _ | refine blk_drew ?_ | refine blk_alloc ?_ _)); exact BK1059.out⟩, ⟨by repeat (first | (with_reducible first | exact HB.out | apply below_alloc | apply pw_below_drewN | apply below_drew1 | refine below_set ?_ GE1059.out) | exact HB.out)⟩⟩
                      case rest =>
                        clear HC50
                        try clear c1
                        try clear c2
                        try clear p2
                        try clear c3
                        try clear c4
                        try clear c5
                        try clear p6
                        try clear c8
                        try clear c9
                        try clear c13
                        try clear c18
                        try clear c21
                        try clear c23
                        try clear c38
                        try clear c38b0
                        try clear c38b1
                        try clear c39
                        try clear c41
                        try clear c41b0
                        try clear c41b1
                        try clear c45
                        try clear c45b0
                        try clear c45b1
                        try clear c50
                        try clear c51
                        try clear hcz11_0
                        try clear hcz11_1
                        try clear hcz11_2
                        try clear hcz11_3
                        try clear hcz12_0
                        try clear hcz12_1
                        try clear hcz12_2
                        try clear hcz12_3
                        try clear hcz22_0
                        try clear hcz22_1
                        try clear hcz22_2
                        try clear hcz22_3
                        try clear hcz26_0
                        try clear hcz26_1
                        try clear hcz26_2
                        try clear hcz26_3
                        try clear hcz31_0
                        try clear hcz31_1
                        try clear hcz31_2
                        try clear hcz31_3
                        try clear hcz36_0
                        try clear hcz36_1
                        try clear hcz36_2
                        try clear hcz36_3
                        try clear hcz43_0
                        try clear hcz43_1
                        try clear hcz43_2
                        try clear hcz43_3
                        try clear hcz48_0
                        try clear hcz48_1
                        try clear hcz48_2
                        try clear hcz48_3
                        try clear hfz11_0
                        try clear hfz11_1
                        try clear hfz11_2
                        try clear hfz11_3
                        try clear hfz12_0
                        try clear hfz12_1
                        try clear hfz12_2
                        try clear hfz12_3
                        try clear hfz22_0
                        try clear hfz22_1
                        try clear hfz22_2
                        try clear hfz22_3
                        try clear hfz26_0
                        try clear hfz26_1
                        try clear hfz26_2
                        try clear hfz26_3
                        try clear hfz31_0
                        try clear hfz31_1
                        try clear hfz31_2
                        try clear hfz31_3
                        try clear hfz36_0
                        try clear hfz36_1
                        try clear hfz36_2
                        try clear hfz36_3
                        try clear hfz43_0
                        try clear hfz43_1
                        try clear hfz43_2
                        try clear hfz43_3
                        try clear hfz48_0
                        try clear hfz48_1
                        try clear hfz48_2
                        try clear hfz48_3
                        try clear p2
                        try clear p6
                        obtain ⟨kq, x11_49, rfl, HA, HJ49, HO_8, BK1059, HB⟩ := hcut
                        cases kq with
                        | zero => exact absurd HA.out (by simp [glidepathlaw02_LineCases.j3])
                        | succ kj49 =>
                          have H := HA.out
                          clear HA
                          simp only [glidepathlaw02_LineCases.j3] at H
                          by_cases c52 : x11_49 = 0
                          · rw [if_pos c52] at H
                            have c52b0 := beq_iff_eq.mpr c52
                            have c52b1 := bne_eq_false_iff_eq.mpr c52
                            clear c52
                            by_cases c53 : t1088 = 0
                            · rw [if_pos c53] at H
                              have c53b0 := beq_iff_eq.mpr c53
                              have c53b1 := bne_eq_false_iff_eq.mpr c53
                              clear c53
                              replace H := Option.bind_eq_some_iff.mp H
                              obtain ⟨t1094, A540, H⟩ := H
                              (try dsimp only at H)
                              have A54 := Aside0.mk A540
                              clear A540
                              replace H := Option.bind_eq_some_iff.mp H
                              obtain ⟨t1097, A550, H⟩ := H
                              (try dsimp only at H)
                              have A55 := Aside0.mk A550
                              clear A550
                              obtain rfl := Option.some.inj H
                              obtain ⟨_, _, _, _, _, _, _, _⟩ := b4 BK1059
                              go_wp2_with (first | (go_at_call 58; (with_reducible refine (glidepathref02_Noisy.calls kj49 _ _ l0_0 _ _ l0_1 a1 t1094 _ ?side1 ?side2 ?side3 ?side4 A54.out).mono ?_); (case side1 => exact bc (Kd.C_below HR0_0.out HB.out)); (case side2 => exact HC0_0.out); (case side3 => exact bc (Kd.C_below HR0_1.out HB.out)); (case side4 => exact HC0_1.out); rintro e w57 ⟨v1095, rfl, ho0, hb⟩; have HO1096 := Aside0.mk (Kd.R_lower (Kd.R_new' ho0 (Kd.R_lt (br HO_8.out))) (below_size bz)); replace HO_8 := Aside0.mk (Kd.R_elder' (br HO_8.out) (Kd.R_base ho0) hb); replace BK1059 := bb BK1059 hb; replace HB := sb HB hb; (try clear hb); (try clear ho0); obtain ⟨Ao58, co58, eo58⟩ := Kd.R_slice HO_8.out; subst eo58; obtain ⟨Ao59, co59, eo59⟩ := Kd.R_slice HO1096.out; subst eo59) | (go_at_call 57; (with_reducible refine (glidepathbase_Ints.calls kj49 _ _ t1085 _ _ t1094 t1097 _ ?side1 ?side2 ?side3 ?side4 A55.out).mono ?_); (case side1 => exact bc (Kd.R_reads' HO_8.out).2.2); (case side2 => exact (Kd.R_reads' HO_8.out).2.1); (case side3 => exact bc (Kd.R_reads' HO1096.out).2.2); (case side4 => exact (Kd.R_reads' HO1096.out).2.1); rintro e w' ⟨rfl, ⟨nd, rfl⟩⟩))
                              go_ret
                              exact ez
                            · rw [if_neg c53] at H
                              have c53b0 := beq_eq_false_iff_ne.mpr c53
                              have c53b1 := bne_iff_ne.mpr c53
                              obtain rfl := Option.some.inj H
                              go_wp2
                              go_ret
                              exact ez
                          · rw [if_neg c52] at H
                            have c52b0 := beq_eq_false_iff_ne.mpr c52
                            have c52b1 := bne_iff_ne.mpr c52
                            by_cases c60 : t1088 = x11_49
                            · rw [if_pos c60] at H
                              have c60b0 := beq_iff_eq.mpr c60
                              have c60b1 := bne_eq_false_iff_eq.mpr c60
                              clear c60
                              obtain rfl := Option.some.inj H
                              obtain ⟨Ao61, co61, eo61⟩ := Kd.R_slice HO_8.out
                              subst eo61
                              go_wp2
                              go_ret
                              exact ez
                            · rw [if_neg c60] at H
                              have c60b0 := beq_eq_false_iff_ne.mpr c60
                              have c60b1 := bne_iff_ne.mpr c60
                              obtain rfl := Option.some.inj H
                              go_wp2
                              go_ret
                              exact ez
                · rw [if_neg c41] at H
                  have c41b0 := beq_eq_false_iff_ne.mpr c41
                  have c41b1 := bne_iff_ne.mpr c41
                  obtain rfl := Option.some.inj H
                  obtain ⟨_, _, _, _, _, _, _, _⟩ := b4 BK1059
                  go_wp2_with (first | ((with_reducible refine gate_callee (f := 23) rfl ?_); refine gl (some 57) Tryd.func23 #[.agg #[.slice A0_0 l0_0.length c0_0, .slice A0_1 l0_1.length c0_1, .int .i64 a0_2, .int .i64 a0_3]] ?_; (with_reducible refine (glidepathref02_CaseErr.calls kj20 _ _ l0_0 _ _ l0_1 a0_2 a0_3 t1091 _ ?side1 ?side2 ?side3 ?side4 A40.out).mono ?_); (case side1 => exact bc (Kd.C_below HR0_0.out HB.out)); (case side2 => exact HC0_0.out); (case side3 => exact bc (Kd.C_below HR0_1.out HB.out)); (case side4 => exact HC0_1.out); rintro e w63 ⟨rfl, hb⟩; refine ⟨_, rfl, ?_⟩; replace HO_8 := rb HO_8 hb; replace BK1059 := bb BK1059 hb; replace HB := sb HB hb; (try clear hb)))
                  go_ret
                  exact ez
  · replace c4 := Bool.eq_false_iff.mpr c4
    subst c4
    rw [if_neg (show ¬ (false = true) by decide)] at H
    obtain rfl := Option.some.inj H
    go_enter Tryd.func8, Tryd.ntmps8
    go_wp2_with (first | ((with_reducible refine gate_dst (N := 2) rfl ?_); (try (refine gate_guard (by rfl) ?_; dsimp only)); refine be 2 28 #[.slice A0_0 l0_0.length c0_0, .slice A0_1 l0_1.length c0_1, .int .i64 a0_2, .int .i64 a0_3] ?_; intro gb1059 hg w64 hbox hb; have BK1059 := Aside0.mk hbox; have GW1059 := Aside0.mk (bg (n := w.heap.size) hg); have GE1059 := Aside0.mk (bg (n := w.heap.size) hg); replace HB := sb HB hb; clear hb hbox hg) | ((with_reducible refine gate_callee (f := 18) rfl ?_); refine gl (some 12) Tryd.func18 #[] ?_; (with_reducible refine (glidepathlaw02_awake.calls k  false _ ?side1 A3.out).mono ?_); (case side1 => exact EstG.below HG.out bz); rintro e w65 ⟨rfl, hb⟩; refine ⟨_, rfl, ?_⟩; replace BK1059 := bb BK1059 hb; replace HB := sb HB hb; (try clear hb)))
    go_ret
    exact ez
end Go.Proofs.YtjnkphmcndaijaaDoor.A
