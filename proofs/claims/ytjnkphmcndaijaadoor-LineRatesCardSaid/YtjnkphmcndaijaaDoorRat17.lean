/- Walks of the program's functions (printed, made shorter), each with what it computes. -/
import Derived.Test.YtjnkphmcndaijaaDoorRat04
import Derived.Test.YtjnkphmcndaijaaDoorRat06
import Derived.Test.YtjnkphmcndaijaaDoorRat13
import Derived.Test.YtjnkphmcndaijaaDoorRat15
import Derived.Test.YtjnkphmcndaijaaDoorRat16
import Derived.Test.YtjnkphmcndaijaaDoorRat03
namespace Go.Proofs.YtjnkphmcndaijaaDoor.A
set_option maxHeartbeats 8000000
set_option maxRecDepth 100000
open Go.RowKit Go.Proofs.YtjnkphmcndaijaaDoorW.PrintWords Go.Proofs.YtjnkphmcndaijaaDoorW.PrintLast Go.Proofs.YtjnkphmcndaijaaDoorW.PrintMore
attribute [local go_sem] max2_int min2_int max_two min_two max_three min_three max_four min_four
set_option linter.unusedVariables false
set_option linter.unusedSimpArgs false
attribute [local go_sem high] eqA26
mutual
def Lw_LineRates.j0 : Nat → Int → Bool → List Int → Int → Int → Option (Bool)
  | 0, _, _, _, _, _ => none
  | k + 1, x1, x33, x1952000, x1953000, x1953001 => if x33 = true then (some true) else ((Rf_CopyNoise.f x1952000).bind fun t1959 => ((line_FalseRate.f k t1959 x1 x1953000).bind fun bt1962 => ((Rf_CopyNoise.f x1952000).bind fun t1966 => ((line_ThresholdFor.f k t1966 x1 x1953001).bind fun bt1969 => ((Rf_NoiseErr.f k x1952000).bind fun t1971 => (if t1971 = 0 then ((Rf_LinesErr.f k x1952000 x1).bind fun t1972 => (Lw_LineRates.j1 k x1 bt1962.2.2 bt1969.1 bt1969.2 t1972 x1952000 x1953000 x1953001 bt1962.1 bt1962.2.1)) else (Lw_LineRates.j1 k x1 bt1962.2.2 bt1969.1 bt1969.2 t1971 x1952000 x1953000 x1953001 bt1962.1 bt1962.2.1)))))))
def Lw_LineRates.j1 : Nat → Int → Int → Int → Int → Int → List Int → Int → Int → Int → Int → Option (Bool)
  | 0, _, _, _, _, _, _, _, _, _, _ => none
  | k + 1, x1, x8, x9, x10, x11, x1952000, x1953000, x1953001, x1966000, x1966001 => if x11 = 0 then ((Rf_ThresholdErr.f x1953000).bind fun t1973 => (if t1973 = 0 then (if x8 = 0 then ((Rf_FalseRate.f k x1952000 x1 x1953000).bind fun bt1974 => (Lw_LineRates.j2 k x1 x9 x10 (!(x1966000 == bt1974.1) || (!(x1966001 == bt1974.2))) x1952000 x1953000 x1953001)) else (Lw_LineRates.j2 k x1 x9 x10 true x1952000 x1953000 x1953001)) else (if x8 = t1973 then (if (!(x1966000 == 0) || (!(x1966001 == 0))) = true then (Lw_LineRates.j2 k x1 x9 x10 true x1952000 x1953000 x1953001) else (Lw_LineRates.j2 k x1 x9 x10 false x1952000 x1953000 x1953001)) else (Lw_LineRates.j2 k x1 x9 x10 true x1952000 x1953000 x1953001)))) else (if x8 = x11 then (if x10 = x11 then (if (x1966000 == 0 && (x1966001 == 0)) = true then (some (x9 == 0)) else (none)) else (none)) else (none))
def Lw_LineRates.j2 : Nat → Int → Int → Int → Bool → List Int → Int → Int → Option (Bool)
  | 0, _, _, _, _, _, _, _ => none
  | k + 1, x1, x9, x10, x109, x1952000, x1953000, x1953001 => if x109 = true then (none) else ((Bs_Within.f x1953001 0 1000).bind fun t1976 => (if t1976 = true then (if x10 = 0 then ((Rf_Threshold.f k x1952000 x1 x1953001).bind fun t1977 => (some (x9 == t1977))) else (none)) else (if x10 = 2 then (some (x9 == 0)) else (none))))
end
def Lw_LineRates.f (k : Nat) (l0_0 : List Int) (a1 : Int) (a2_0 : Int) (a2_1 : Int) : Option (Bool) := (Lw_awake.f k).bind fun t1953 => (if t1953 = true then ((Lw_short.f l0_0).bind fun t1954 => (if t1954 = true then ((Rf_NoiseErr.f k l0_0).bind fun t1955 => (if t1955 = 0 then ((Bs_Within.f a1 1 16).bind fun t1956 => (if t1956 = true then ((Rf_Cases.f k l0_0 a1).bind fun t1957 => ((Bs_Within.f t1957 513 4096).bind fun t1958 => (Lw_LineRates.j0 k a1 t1958 l0_0 a2_0 a2_1))) else (Lw_LineRates.j0 k a1 false l0_0 a2_0 a2_1))) else (Lw_LineRates.j0 k a1 false l0_0 a2_0 a2_1))) else (Lw_LineRates.j0 k a1 true l0_0 a2_0 a2_1))) else (none))
theorem Lw_LineRates.mono_l : ∀ k, (∀ y0 y1 y2 y3 y4, LeO (Lw_LineRates.j0 k y0 y1 y2 y3 y4) (Lw_LineRates.j0 (k + 1) y0 y1 y2 y3 y4)) ∧ (∀ y0 y1 y2 y3 y4 y5 y6 y7 y8 y9, LeO (Lw_LineRates.j1 k y0 y1 y2 y3 y4 y5 y6 y7 y8 y9) (Lw_LineRates.j1 (k + 1) y0 y1 y2 y3 y4 y5 y6 y7 y8 y9)) ∧ (∀ y0 y1 y2 y3 y4 y5 y6, LeO (Lw_LineRates.j2 k y0 y1 y2 y3 y4 y5 y6) (Lw_LineRates.j2 (k + 1) y0 y1 y2 y3 y4 y5 y6))
  | 0 => ⟨fun _ _ _ _ _ r h => by simp [Lw_LineRates.j0] at h, fun _ _ _ _ _ _ _ _ _ _ r h => by simp [Lw_LineRates.j1] at h, fun _ _ _ _ _ _ _ r h => by simp [Lw_LineRates.j2] at h⟩
  | k + 1 => by
    obtain ⟨ih0, ih1, ih2⟩ := Lw_LineRates.mono_l k
    refine ⟨?_, ?_, ?_⟩
    · intro y0 y1 y2 y3 y4
      unfold Lw_LineRates.j0
      repeat' first
      | (with_reducible exact ih0 _ _ _ _ _)
      | (with_reducible exact ih1 _ _ _ _ _ _ _ _ _ _)
      | (with_reducible exact ih2 _ _ _ _ _ _ _)
      | (with_reducible exact Lw_awake.mono _)
      | (with_reducible exact Rf_Cases.mono _ _ _)
      | (with_reducible exact Rf_FalseRate.mono _ _ _ _)
      | (with_reducible exact Rf_LinesErr.mono _ _ _)
      | (with_reducible exact Rf_NoiseErr.mono _ _)
      | (with_reducible exact Rf_Threshold.mono _ _ _ _)
      | (with_reducible exact line_FalseRate.mono _ _ _ _)
      | (with_reducible exact line_ThresholdFor.mono _ _ _ _)
      | (with_reducible exact LeO.refl _)
      | (with_reducible exact LeO.none _)
      | (with_reducible refine LeO.ite ?_ ?_)
      | (with_reducible refine LeO.bind ?_ (fun _ => ?_))
      | exact ih0 _ _ _ _ _
      | exact ih1 _ _ _ _ _ _ _ _ _ _
      | exact ih2 _ _ _ _ _ _ _
      | exact Lw_awake.mono _
      | exact Rf_Cases.mono _ _ _
      | exact Rf_FalseRate.mono _ _ _ _
      | exact Rf_LinesErr.mono _ _ _
      | exact Rf_NoiseErr.mono _ _
      | exact Rf_Threshold.mono _ _ _ _
      | exact line_FalseRate.mono _ _ _ _
      | exact line_ThresholdFor.mono _ _ _ _
      | exact LeO.none _
      | refine LeO.ite ?_ ?_
      | refine LeO.bind ?_ (fun _ => ?_)
    · intro y0 y1 y2 y3 y4 y5 y6 y7 y8 y9
      unfold Lw_LineRates.j1
      repeat' first
      | (with_reducible exact ih0 _ _ _ _ _)
      | (with_reducible exact ih1 _ _ _ _ _ _ _ _ _ _)
      | (with_reducible exact ih2 _ _ _ _ _ _ _)
      | (with_reducible exact Lw_awake.mono _)
      | (with_reducible exact Rf_Cases.mono _ _ _)
      | (with_reducible exact Rf_FalseRate.mono _ _ _ _)
      | (with_reducible exact Rf_LinesErr.mono _ _ _)
      | (with_reducible exact Rf_NoiseErr.mono _ _)
      | (with_reducible exact Rf_Threshold.mono _ _ _ _)
      | (with_reducible exact line_FalseRate.mono _ _ _ _)
      | (with_reducible exact line_ThresholdFor.mono _ _ _ _)
      | (with_reducible exact LeO.refl _)
      | (with_reducible exact LeO.none _)
      | (with_reducible refine LeO.ite ?_ ?_)
      | (with_reducible refine LeO.bind ?_ (fun _ => ?_))
      | exact ih0 _ _ _ _ _
      | exact ih1 _ _ _ _ _ _ _ _ _ _
      | exact ih2 _ _ _ _ _ _ _
      | exact Lw_awake.mono _
      | exact Rf_Cases.mono _ _ _
      | exact Rf_FalseRate.mono _ _ _ _
      | exact Rf_LinesErr.mono _ _ _
      | exact Rf_NoiseErr.mono _ _
      | exact Rf_Threshold.mono _ _ _ _
      | exact line_FalseRate.mono _ _ _ _
      | exact line_ThresholdFor.mono _ _ _ _
      | exact LeO.none _
      | refine LeO.ite ?_ ?_
      | refine LeO.bind ?_ (fun _ => ?_)
    · intro y0 y1 y2 y3 y4 y5 y6
      unfold Lw_LineRates.j2
      repeat' first
      | (with_reducible exact ih0 _ _ _ _ _)
      | (with_reducible exact ih1 _ _ _ _ _ _ _ _ _ _)
      | (with_reducible exact ih2 _ _ _ _ _ _ _)
      | (with_reducible exact Lw_awake.mono _)
      | (with_reducible exact Rf_Cases.mono _ _ _)
      | (with_reducible exact Rf_FalseRate.mono _ _ _ _)
      | (with_reducible exact Rf_LinesErr.mono _ _ _)
      | (with_reducible exact Rf_NoiseErr.mono _ _)
      | (with_reducible exact Rf_Threshold.mono _ _ _ _)
      | (with_reducible exact line_FalseRate.mono _ _ _ _)
      | (with_reducible exact line_ThresholdFor.mono _ _ _ _)
      | (with_reducible exact LeO.refl _)
      | (with_reducible exact LeO.none _)
      | (with_reducible refine LeO.ite ?_ ?_)
      | (with_reducible refine LeO.bind ?_ (fun _ => ?_))
      | exact ih0 _ _ _ _ _
      | exact ih1 _ _ _ _ _ _ _ _ _ _
      | exact ih2 _ _ _ _ _ _ _
      | exact Lw_awake.mono _
      | exact Rf_Cases.mono _ _ _
      | exact Rf_FalseRate.mono _ _ _ _
      | exact Rf_LinesErr.mono _ _ _
      | exact Rf_NoiseErr.mono _ _
      | exact Rf_Threshold.mono _ _ _ _
      | exact line_FalseRate.mono _ _ _ _
      | exact line_ThresholdFor.mono _ _ _ _
      | exact LeO.none _
      | refine LeO.ite ?_ ?_
      | refine LeO.bind ?_ (fun _ => ?_)
theorem Lw_LineRates.mono : ∀ a0 a1 a2 a3 k, LeO (Lw_LineRates.f k a0 a1 a2 a3) (Lw_LineRates.f (k + 1) a0 a1 a2 a3) := by
  intro a0 a1 a2 a3 k
  obtain ⟨ih0, ih1, ih2⟩ := Lw_LineRates.mono_l k
  unfold Lw_LineRates.f
  repeat' first
      | (with_reducible exact ih0 _ _ _ _ _)
      | (with_reducible exact ih1 _ _ _ _ _ _ _ _ _ _)
      | (with_reducible exact ih2 _ _ _ _ _ _ _)
      | (with_reducible exact Lw_awake.mono _)
      | (with_reducible exact Rf_Cases.mono _ _ _)
      | (with_reducible exact Rf_FalseRate.mono _ _ _ _)
      | (with_reducible exact Rf_LinesErr.mono _ _ _)
      | (with_reducible exact Rf_NoiseErr.mono _ _)
      | (with_reducible exact Rf_Threshold.mono _ _ _ _)
      | (with_reducible exact line_FalseRate.mono _ _ _ _)
      | (with_reducible exact line_ThresholdFor.mono _ _ _ _)
      | (with_reducible exact LeO.refl _)
      | (with_reducible exact LeO.none _)
      | (with_reducible refine LeO.ite ?_ ?_)
      | (with_reducible refine LeO.bind ?_ (fun _ => ?_))
      | exact ih0 _ _ _ _ _
      | exact ih1 _ _ _ _ _ _ _ _ _ _
      | exact ih2 _ _ _ _ _ _ _
      | exact Lw_awake.mono _
      | exact Rf_Cases.mono _ _ _
      | exact Rf_FalseRate.mono _ _ _ _
      | exact Rf_LinesErr.mono _ _ _
      | exact Rf_NoiseErr.mono _ _
      | exact Rf_Threshold.mono _ _ _ _
      | exact line_FalseRate.mono _ _ _ _
      | exact line_ThresholdFor.mono _ _ _ _
      | exact LeO.none _
      | refine LeO.ite ?_ ?_
      | refine LeO.bind ?_ (fun _ => ?_)
def Lw_LineRates.T5 : Bool × List (List Nat × List Nat) := (true, [([], []), ([0], [0]), ([], []), ([], []), ([3], [3]), ([1, 2, 4, 1], [1, 2, 4]), ([5], [5]), ([6], [6]), ([6], [6]), ([], []), ([9, 7, 5, 0, 1, 2, 3, 4, 5, 6, 7, 9], [7, 9]), ([8, 10, 0, 1, 2, 3, 4, 5, 6, 7, 8, 9, 10], [8])])
def Lw_LineRates.B5 : List Nat := [0, 1, 0, 0, 8, 31, 63, 127, 127, 0, 767, 2047]
theorem Lw_LineRates.tab5 : rtab .any (opsOf Tryd.f16 5) = Lw_LineRates.T5 := by kernel_rfl
theorem Lw_LineRates.bits5 : waitsOk Lw_LineRates.T5.2 Lw_LineRates.B5 = true := by kernel_rfl
def Lw_LineRates.T6 : Bool × List (List Nat × List Nat) := (true, [([], []), ([0], [0]), ([], []), ([], []), ([3], [3]), ([1, 2, 4, 1], [1, 2, 4]), ([5], [5]), ([6], [6]), ([6], [6]), ([7, 5, 0, 1, 2, 3, 4, 5, 6, 7], [7]), ([8, 9, 0, 1, 2, 3, 4, 5, 6, 7, 8, 9], [8])])
def Lw_LineRates.B6 : List Nat := [0, 1, 0, 0, 8, 31, 63, 127, 127, 255, 1023]
theorem Lw_LineRates.tab6 : rtab .any (opsOf Tryd.f16 6) = Lw_LineRates.T6 := by kernel_rfl
theorem Lw_LineRates.bits6 : waitsOk Lw_LineRates.T6.2 Lw_LineRates.B6 = true := by kernel_rfl
def Lw_LineRates.T13 : Bool × List (List Nat × List Nat) := (true, [([], []), ([0], [0]), ([1], [1]), ([2], [2]), ([2], [2]), ([3, 4, 2], [2, 3, 4]), ([5, 2, 2], [2, 5]), ([6], [6]), ([6], [6]), ([7, 8, 6], [6, 7, 8]), ([6, 9, 2], [2, 6, 9]), ([2, 10], [2, 10]), ([11, 6], [11]), ([12], [12]), ([13, 12], [12, 13]), ([14, 12, 12], [12, 14]), ([15], [15]), ([16, 15], [15, 16]), ([17, 15, 15], [15, 17]), ([18], [18]), ([18], [18]), ([18], [18]), ([18], [18]), ([22, 18], [18, 22]), ([20, 21, 23, 18, 18], [18, 20, 21, 23]), ([19, 24, 18], [18, 19, 24]), ([18, 25, 15], [15, 18, 25]), ([15, 26, 12], [12, 15, 26]), ([12, 27], [12, 27])])
def Lw_LineRates.B13 : List Nat := [0, 1, 3, 7, 7, 31, 63, 127, 127, 511, 1023, 2047, 4095, 8191, 16383, 32767, 65535, 131071, 262143, 524287, 524287, 524287, 524287, 4718591, 16252927, 33554431, 67108863, 134217727, 268435455]
theorem Lw_LineRates.tab13 : rtab .any (opsOf Tryd.f16 13) = Lw_LineRates.T13 := by kernel_rfl
theorem Lw_LineRates.bits13 : waitsOk Lw_LineRates.T13.2 Lw_LineRates.B13 = true := by kernel_rfl
theorem Lw_LineRates.calls (k : Nat) (A0_0 : Option Addr) (c0_0 : Nat) (l0_0 : List Int) (a1 : Int) (a2_0 : Int) (a2_1 : Int) (r : Bool) (w : World) (hr0_0 : Kd.C (Kd.int .i64) w A0_0 l0_0.length l0_0) (hc0_0 : l0_0.length ≤ c0_0) (hG : EstG w) (h : Lw_LineRates.f k l0_0 a1 a2_0 a2_1 = some r) :
    Calls Tryd.prog 16 #[.agg #[.slice A0_0 l0_0.length c0_0], .int .i64 a1, .agg #[.int .i64 a2_0, .int .i64 a2_1]] w fun e w' => e = .returned (.bool r) ∧ Below w.heap.size w w' := by
  have hu24 := Tryd.underlying24
  have hu105 := Tryd.underlying105
  have hu26 := Tryd.underlying26
  have hix105_0 : ∀ (g_ : Nat) (W_ : World), (Instr.indexAt 105 (.pointer (some ⟨g_, 0, none⟩)) (.int .i64 0)).run Tryd.prog W_ = .ok (.pointer (some ⟨g_, 0, none⟩)) W_ := fun _ _ => by kernel_rfl
  have hix105_1 : ∀ (g_ : Nat) (W_ : World), (Instr.indexAt 105 (.pointer (some ⟨g_, 0, none⟩)) (.int .i64 1)).run Tryd.prog W_ = .ok (.pointer (some ⟨g_, 1, none⟩)) W_ := fun _ _ => by kernel_rfl
  have HG := m0 hG
  clear hG
  have HR0_0 := m0 hr0_0
  have HC0_0 := m0 hc0_0
  clear hr0_0 hc0_0
  have HB := m0 (Below.refl w.heap.size w)
  have H : ((Lw_awake.f k).bind fun t1953 => (if t1953 = true then ((Lw_short.f l0_0).bind fun t1954 => (if t1954 = true then ((Rf_NoiseErr.f k l0_0).bind fun t1955 => (if t1955 = 0 then ((Bs_Within.f a1 1 16).bind fun t1956 => (if t1956 = true then ((Rf_Cases.f k l0_0 a1).bind fun t1957 => ((Bs_Within.f t1957 513 4096).bind fun t1958 => (Lw_LineRates.j0 k a1 t1958 l0_0 a2_0 a2_1))) else (Lw_LineRates.j0 k a1 false l0_0 a2_0 a2_1))) else (Lw_LineRates.j0 k a1 false l0_0 a2_0 a2_1))) else (Lw_LineRates.j0 k a1 true l0_0 a2_0 a2_1))) else (none))) = some r := h
  clear h
  replace H := ob H
  obtain ⟨t1953, A40, H⟩ := H
  (try dsimp only at H)
  have A4 := m0 A40
  clear A40
  by_cases c5 : t1953 = true
  · subst c5
    rw [if_pos rfl] at H
    have HC6 := m0 H
    clear H
    go_enter Tryd.func16, Tryd.ntmps16
    go_upto_region 3 with (first | ((with_reducible refine gate_dst (N := 3) rfl ?_); refine be 3 24 #[.slice A0_0 l0_0.length c0_0] ?_; intro gb1951 hg w7 hbox hb; have BK1951 := m0 hbox; have GW1951 := m0 (bg (n := w.heap.size) hg); have GE1951 := m0 (bg (n := w.heap.size) hg); replace HB := sb HB hb; clear hb hbox hg) | ((with_reducible refine gate_dst (N := 5) rfl ?_); refine be 5 105 #[.int .i64 a2_0, .int .i64 a2_1] ?_; intro gb1952 hg w8 hbox hb; have BK1952 := m0 hbox; have GW1952 := m0 (bg (n := w.heap.size) hg); have GE1952 := m0 (bg (n := w.heap.size) hg); replace HB := sb HB hb; have NB1951_1952 := nl BK1951 hg; have NB1952_1951 := ng (nl BK1951 hg); replace BK1951 := bb BK1951 hb; clear hb hbox hg) | ((with_reducible refine gate_callee (f := 18) rfl ?_); refine gl (some 13) Tryd.func18 #[] ?_; (with_reducible refine (Lw_awake.calls k  true _ ?side1 A4.out).mono ?_); (case side1 => exact EstG.below HG.out bz); rintro e w9 ⟨rfl, hb⟩; refine ⟨_, rfl, ?_⟩; replace BK1951 := bb BK1951 hb; replace BK1952 := bb BK1952 hb; replace HB := sb HB hb; (try clear hb)))
    (try simp only [Act.put, List.setIfInBounds_toArray, List.set_cons_zero, List.set_cons_succ])
    go_cut [33] (fun v33 wc => ∃ (kq : Nat) (x33_5 : Bool), v33 = .bool x33_5 ∧ Aside0 (Lw_LineRates.j0 kq a1 x33_5 l0_0 a2_0 a2_1 = some r) ∧ Aside0 (kq ≤ k) ∧ Aside0 (wc.heap[gb1951]? = some (.cells #[(.slice A0_0 l0_0.length c0_0)] 24 (0, 0))) ∧ Aside0 (wc.heap[gb1952]? = some (.cells #[.int .i64 a2_0, .int .i64 a2_1] 105 (0, 0))) ∧ Aside0 (Below w.heap.size w wc))
    case first =>
      have H := HC6.out
      clear HC6
      replace H := ob H
      obtain ⟨t1954, A100, H⟩ := H
      (try dsimp only at H)
      have A10 := m0 A100
      clear A100
      by_cases c11 : t1954 = true
      · subst c11
        rw [if_pos rfl] at H
        replace H := ob H
        obtain ⟨t1955, A120, H⟩ := H
        (try dsimp only at H)
        have A12 := m0 A120
        clear A120
        by_cases c13 : t1955 = 0
        · rw [if_pos c13] at H
          have c13b0 := beq_iff_eq.mpr c13
          have c13b1 := bne_eq_false_iff_eq.mpr c13
          clear c13
          (first | rw [c13b0] | (simp only [i64_w, i32_w]; rw [c13b0]) | skip)
          replace H := ob H
          obtain ⟨t1956, A140, H⟩ := H
          (try dsimp only at H)
          have A14 := m0 A140
          clear A140
          by_cases c15 : t1956 = true
          · subst c15
            rw [if_pos rfl] at H
            replace H := ob H
            obtain ⟨t1957, A160, H⟩ := H
            (try dsimp only at H)
            have A16 := m0 A160
            clear A160
            replace H := ob H
            obtain ⟨t1958, A170, H⟩ := H
            (try dsimp only at H)
            have A17 := m0 A170
            clear A170
            have H' := m0 H
            clear H
            have hnb18 := NB1951_1952.out
            have hnc18 := NB1952_1951.out
            obtain ⟨hcz19_0, hfz19_0⟩ := b1 BK1951
            go_wp2_with (first | ((with_reducible refine gate_callee (f := 50) rfl ?_); refine gl (some 17) Tryd.func50 #[.slice A0_0 l0_0.length c0_0] ?_; (with_reducible refine (Lw_short.calls _ _ l0_0 true _ ?side1 ?side2 A10.out).mono ?_); (case side1 => exact cb HR0_0 HB); (case side2 => exact HC0_0.out); rintro e w' ⟨rfl, ⟨nd, rfl⟩⟩; refine ⟨_, rfl, ?_⟩) | (go_at_call 82; (with_reducible refine (Rf_NoiseErr.calls k _ _ l0_0 t1955 _ ?side1 ?side2 A12.out).mono ?_); (case side1 => repeat (first | exact (Kd.C_below HR0_0.out bz) | (with_reducible refine Kd.C_alloc ?_ _) | (with_reducible refine Kd.C_drewN ?_ _) | (with_reducible refine Kd.C_drew ?_))); (case side2 => exact HC0_0.out); rintro e w20 ⟨rfl, hb⟩; replace BK1951 := bb BK1951 hb; replace BK1952 := bb BK1952 hb; replace HB := sb HB hb; (try clear hb)) | (go_at_call 31; (with_reducible refine (Bs_Within.calls a1 1 16 true _ A14.out).mono ?_); rintro e w' ⟨rfl, ⟨nd, rfl⟩⟩; obtain ⟨hcz21_0, hfz21_0⟩ := b1 BK1951) | (go_at_call 56; (with_reducible refine (Rf_Cases.calls k _ _ l0_0 a1 t1957 _ ?side1 ?side2 A16.out).mono ?_); (case side1 => repeat (first | exact (Kd.C_below HR0_0.out bz) | (with_reducible refine Kd.C_alloc ?_ _) | (with_reducible refine Kd.C_drewN ?_ _) | (with_reducible refine Kd.C_drew ?_))); (case side2 => exact HC0_0.out); rintro e w22 ⟨rfl, hb⟩; replace BK1951 := bb BK1951 hb; replace BK1952 := bb BK1952 hb; replace HB := sb HB hb; (try clear hb)) | (go_at_call 31; (with_reducible refine (Bs_Within.calls t1957 513 4096 t1958 _ A17.out).mono ?_); rintro e w' ⟨rfl, ⟨nd, rfl⟩⟩))
            go_meet
            case rel => exact ⟨_, (t1958), (by first | rfl | (simp; done) | (simp [*]; done)), H', ⟨by first | omega | exact Nat.le_refl _⟩, ⟨bk BK1951.out⟩, ⟨bk BK1952.out⟩, ⟨bz⟩⟩
          · replace c15 := Bool.eq_false_iff.mpr c15
            subst c15
            rw [if_neg (show ¬ (false = true) by decide)] at H
            have H' := m0 H
            clear H
            have hnb23 := NB1951_1952.out
            have hnc23 := NB1952_1951.out
            obtain ⟨hcz24_0, hfz24_0⟩ := b1 BK1951
            go_wp2_with (first | ((with_reducible refine gate_callee (f := 50) rfl ?_); refine gl (some 17) Tryd.func50 #[.slice A0_0 l0_0.length c0_0] ?_; (with_reducible refine (Lw_short.calls _ _ l0_0 true _ ?side1 ?side2 A10.out).mono ?_); (case side1 => exact cb HR0_0 HB); (case side2 => exact HC0_0.out); rintro e w' ⟨rfl, ⟨nd, rfl⟩⟩; refine ⟨_, rfl, ?_⟩) | (go_at_call 82; (with_reducible refine (Rf_NoiseErr.calls k _ _ l0_0 t1955 _ ?side1 ?side2 A12.out).mono ?_); (case side1 => repeat (first | exact (Kd.C_below HR0_0.out bz) | (with_reducible refine Kd.C_alloc ?_ _) | (with_reducible refine Kd.C_drewN ?_ _) | (with_reducible refine Kd.C_drew ?_))); (case side2 => exact HC0_0.out); rintro e w25 ⟨rfl, hb⟩; replace BK1951 := bb BK1951 hb; replace BK1952 := bb BK1952 hb; replace HB := sb HB hb; (try clear hb)) | (go_at_call 31; (with_reducible refine (Bs_Within.calls a1 1 16 false _ A14.out).mono ?_); rintro e w' ⟨rfl, ⟨nd, rfl⟩⟩))
            go_meet
            case rel => exact ⟨_, (false), (by first | rfl | (simp; done) | (simp [*]; done)), H', ⟨by first | omega | exact Nat.le_refl _⟩, ⟨bk BK1951.out⟩, ⟨bk BK1952.out⟩, ⟨bz⟩⟩
        · rw [if_neg c13] at H
          have c13b0 := beq_eq_false_iff_ne.mpr c13
          have c13b1 := bne_iff_ne.mpr c13
          (first | rw [c13b0] | (simp only [i64_w, i32_w]; rw [c13b0]) | skip)
          have H' := m0 H
          clear H
          have hnb26 := NB1951_1952.out
          have hnc26 := NB1952_1951.out
          obtain ⟨hcz27_0, hfz27_0⟩ := b1 BK1951
          go_wp2_with (first | ((with_reducible refine gate_callee (f := 50) rfl ?_); refine gl (some 17) Tryd.func50 #[.slice A0_0 l0_0.length c0_0] ?_; (with_reducible refine (Lw_short.calls _ _ l0_0 true _ ?side1 ?side2 A10.out).mono ?_); (case side1 => exact cb HR0_0 HB); (case side2 => exact HC0_0.out); rintro e w' ⟨rfl, ⟨nd, rfl⟩⟩; refine ⟨_, rfl, ?_⟩) | (go_at_call 82; (with_reducible refine (Rf_NoiseErr.calls k _ _ l0_0 t1955 _ ?side1 ?side2 A12.out).mono ?_); (case side1 => repeat (first | exact (Kd.C_below HR0_0.out bz) | (with_reducible refine Kd.C_alloc ?_ _) | (with_reducible refine Kd.C_drewN ?_ _) | (with_reducible refine Kd.C_drew ?_))); (case side2 => exact HC0_0.out); rintro e w28 ⟨rfl, hb⟩; replace BK1951 := bb BK1951 hb; replace BK1952 := bb BK1952 hb; replace HB := sb HB hb; (try clear hb)))
          go_meet
          case rel => exact ⟨_, (false), (by first | rfl | (simp; done) | (simp [*]; done)), H', ⟨by first | omega | exact Nat.le_refl _⟩, ⟨bk BK1951.out⟩, ⟨bk BK1952.out⟩, ⟨bz⟩⟩
      · replace c11 := Bool.eq_false_iff.mpr c11
        subst c11
        rw [if_neg (show ¬ (false = true) by decide)] at H
        have H' := m0 H
        clear H
        have hnb29 := NB1951_1952.out
        have hnc29 := NB1952_1951.out
        obtain ⟨hcz30_0, hfz30_0⟩ := b1 BK1951
        go_wp2_with (first | ((with_reducible refine gate_callee (f := 50) rfl ?_); refine gl (some 17) Tryd.func50 #[.slice A0_0 l0_0.length c0_0] ?_; (with_reducible refine (Lw_short.calls _ _ l0_0 false _ ?side1 ?side2 A10.out).mono ?_); (case side1 => exact cb HR0_0 HB); (case side2 => exact HC0_0.out); rintro e w' ⟨rfl, ⟨nd, rfl⟩⟩; refine ⟨_, rfl, ?_⟩))
        go_meet
        case rel => exact ⟨_, (true), (by first | rfl | (simp; done) | (simp [*]; done)), H', ⟨by first | omega | exact Nat.le_refl _⟩, ⟨bk BK1951.out⟩, ⟨bk BK1952.out⟩, ⟨bz⟩⟩
    case rest =>
      clear HC6
      try clear c1
      try clear c2
      try clear p2
      try clear c5
      try clear c11
      try clear c13
      try clear c13b0
      try clear c13b1
      try clear c15
      try clear c16
      try clear c18
      try clear c23
      try clear c26
      try clear c29
      try clear hcz19_0
      try clear hcz21_0
      try clear hcz24_0
      try clear hcz27_0
      try clear hcz30_0
      try clear hfz19_0
      try clear hfz21_0
      try clear hfz24_0
      try clear hfz27_0
      try clear hfz30_0
      obtain ⟨kq, x33_5, rfl, HA, HJ5, BK1951, BK1952, HB⟩ := hcut
      cases kq with
      | zero => exact absurd HA.out (by simp [Lw_LineRates.j0])
      | succ kj5 =>
        have H := HA.out
        clear HA
        simp only [Lw_LineRates.j0] at H
        by_cases c31 : x33_5 = true
        · subst c31
          rw [if_pos rfl] at H
          obtain rfl := Option.some.inj H
          go_wp2
          go_ret
          exact ez
        · replace c31 := Bool.eq_false_iff.mpr c31
          subst c31
          rw [if_neg (show ¬ (false = true) by decide)] at H
          replace H := ob H
          obtain ⟨t1959, A320, H⟩ := H
          (try dsimp only at H)
          have A32 := m0 A320
          clear A320
          replace H := ob H
          obtain ⟨⟨t1962, t1963, t1964⟩, A330, H⟩ := H
          (try dsimp only at H)
          have A33 := m0 A330
          clear A330
          replace H := ob H
          obtain ⟨t1966, A340, H⟩ := H
          (try dsimp only at H)
          have A34 := m0 A340
          clear A340
          replace H := ob H
          obtain ⟨⟨t1969, t1970⟩, A350, H⟩ := H
          (try dsimp only at H)
          have A35 := m0 A350
          clear A350
          replace H := ob H
          obtain ⟨t1971, A360, H⟩ := H
          (try dsimp only at H)
          have A36 := m0 A360
          clear A360
          have HC37 := m0 H
          clear H
          try go_wp2
          replace BK1951 := bd BK1951; replace BK1952 := bd BK1952; replace HB := sd HB
          refine start_ (n := 12) (S := fun w' => w'.cell? ⟨gb1951, 0, none⟩ = some (.slice A0_0 l0_0.length c0_0) ∧ w'.cell? ⟨gb1952, 0, none⟩ = some (.int .i64 a2_0) ∧ w'.cell? ⟨gb1952, 1, none⟩ = some (.int .i64 a2_1)) (ds := []) #[false, false, false, false, false, false, false, false, false, false, false, false] (by kernel_rfl) rfl rfl cz (fun hHeld => ?_); refine with_tabW Lw_LineRates.tab5 Lw_LineRates.bits5 (fun HT_ HW_ => ?_)
          generalize wc.drew = w38 at BK1951 BK1952 HB hHeld ⊢
          refine pureZ (i := 2) (N := some 37) (bs 12 4) HT_ ?_
          refine pureZ (i := 3) (N := some 38) (bs 12 12) HT_ ?_
          refine takeZ 0 (some 35) (bs 12 13) (take_ofW HT_.out HW_.out (by kernel_rfl)) hHeld ?_
          refine takeZ 4 (some 39) (bs 12 29) (take_ofW HT_.out HW_.out (by kernel_rfl)) hHeld ?_
          refine join_ (σ := Value × Nat) 2 (bs 12 1023) (fun s_ => [(36, .agg #[s_.1]), (40, .tuple #[.agg #[.int .i64 t1962, .int .i64 t1963], .int .i64 t1964]), (7, .pointer (some ⟨s_.2, 0, none⟩)), (34, .tuple #[.agg #[.int .i64 t1962, .int .i64 t1963], .int .i64 t1964]), (41, .agg #[.int .i64 t1962, .int .i64 t1963]), (42, .int .i64 t1964)]) (fun s_ w' => (w'.cell? ⟨gb1951, 0, none⟩ = some (.slice A0_0 l0_0.length c0_0) ∧ w'.cell? ⟨gb1952, 0, none⟩ = some (.int .i64 a2_0) ∧ w'.cell? ⟨gb1952, 1, none⟩ = some (.int .i64 a2_1)) ∧ (Kd.R (Kd.int .i64) 3 w' w.heap.size (fun _ => True) s_.1 t1959) ∧ (w'.heap[gb1951]? = some (.cells #[.slice A0_0 l0_0.length c0_0] 24 (0, 0))) ∧ (w'.heap[gb1952]? = some (.cells #[.int .i64 a2_0, .int .i64 a2_1] 105 (0, 0))) ∧ (w'.heap[s_.2]? = some (.cells #[.int .i64 0, .int .i64 0] 26 (0, 0))) ∧ (w.heap.size ≤ s_.2) ∧ (w.heap.size ≤ s_.2) ∧ (gb1951 ≠ s_.2) ∧ (s_.2 ≠ gb1951) ∧ (gb1952 ≠ s_.2) ∧ (s_.2 ≠ gb1952) ∧ (Below w.heap.size w w')) ?_ ?_
          rotate_left
          · intro hCont
            refine two_ (i := 1) (j := 9) (Ni := some 36) (Nj := some 7) (bs 12 31) (bs 12 541) rfl rfl rfl rfl (two_of HT_.out (by kernel_rfl)) (by decide) (by decide) (fun K hK => ?_) (fun K hK => ?_)
            · skip
              refine goes_ Tryd.func52 (by kernel_rfl) rfl #[.agg #[.slice A0_0 l0_0.length c0_0]] (by rfl) rfl rfl mz ?_
              with_reducible refine (Rf_CopyNoise.calls _ _ l0_0 t1959 _ ?side1 ?side2 A32.out).mono ?_
              (case side1 => exact cb HR0_0 HB)
              (case side2 => exact HC0_0.out)
              rintro e w39 ⟨v1960, rfl, ho0, hb⟩
              refine ⟨_, rfl, ?_⟩
              have HO1961 := m0 (Kd.R_lower ho0 (below_size bz)); replace BK1951 := bb BK1951 hb; replace BK1952 := bb BK1952 hb; replace HB := sb HB hb
              (try clear hb)
              (try clear ho0)
              obtain ⟨Ao40, co40, eo40⟩ := Kd.R_slice HO1961.out
              (first | subst eo40 | (injection eo40 with f1_ f2_ f3_; have f4_ := f1_.symm; have f5_ := f3_.symm; clear f1_ f2_ f3_; subst f4_; subst f5_))
              refine hK.out _ _ cz (fun hHeld => ?_)
              clear hK K
              refine norm_ (a' := ?_) ?_ ?_
              rotate_left
              · show Act.put _ (some 36) _ = _
                exact pz
              refine two_ (i := 5) (j := 9) (Ni := some 40) (Nj := some 7) (bs 12 63) (bs 12 543) rfl rfl rfl rfl (two_of HT_.out (by kernel_rfl)) (by decide) (by decide) (fun K hK => ?_) (fun K hK => ?_)
              · skip
                refine goes_ Tryd.func83 (by kernel_rfl) rfl #[.agg #[.slice Ao40 t1959.length co40], .int .i64 a1, .int .i64 a2_0] (by rfl) rfl rfl mz ?_
                with_reducible refine (line_FalseRate.calls kj5 _ _ t1959 a1 a2_0 t1962 t1963 t1964 _ ?side1 ?side2 A33.out).mono ?_
                (case side1 => exact bc (Kd.R_reads' HO1961.out).2.2)
                (case side2 => exact (Kd.R_reads' HO1961.out).2.1)
                rintro e w41 ⟨rfl, hb⟩
                refine ⟨_, rfl, ?_⟩
                replace HO1961 := rb HO1961 hb; replace BK1951 := bb BK1951 hb; replace BK1952 := bb BK1952 hb; replace HB := sb HB hb
                (try clear hb)
                refine hK.out _ _ cz (fun hHeld => ?_)
                clear hK K
                refine norm_ (a' := ?_) ?_ ?_
                rotate_left
                · show Act.put _ (some 40) _ = _
                  exact pz
                refine pureZ (i := 6) (N := some 34) (bs 12 127) HT_ ?_
                refine pureZ (i := 7) (N := some 41) (bs 12 255) HT_ ?_
                refine pureZ (i := 8) (N := some 42) (bs 12 511) HT_ ?_
                refine oneZ 9 (some 7) (bs 12 1023) (one_of HT_.out (by kernel_rfl)) fun K hK => ?_
                refine box_step ?hg (N := 7) ?hd (cs := #[.int .i64 0, .int .i64 0]) (t := 26) ?hr ?_; (case hd => rfl); (case hg => rfl); (case hr => first | (go_simp; done) | (go_simp; rfl))
                intro gb1965 hg w42 hbox hb
                replace HO1961 := rb HO1961 hb; have BK1965 := m0 hbox; have GW1965 := m0 (bg (n := w.heap.size) hg); have GE1965 := m0 (bg (n := w.heap.size) hg); replace HB := sb HB hb; have NB1951_1965 := nl BK1951 hg; have NB1965_1951 := ng (nl BK1951 hg); replace BK1951 := bb BK1951 hb; have NB1952_1965 := nl BK1952 hg; have NB1965_1952 := ng (nl BK1952 hg); replace BK1952 := bb BK1952 hb
                clear hb hbox hg
                refine hK.out _ _ cz (fun hHeld => ?_)
                clear hK K
                refine norm_ (a' := ?_) ?_ ?_
                rotate_left
                · show Act.put _ (some 7) _ = _
                  exact pz
                exact norm_ (by simp only [putAll, Act.put, List.setIfInBounds_toArray, List.set_cons_zero, List.set_cons_succ]) (hCont (.slice Ao40 t1959.length co40, gb1965) _ ⟨hHeld, (br HO1961.out), (bk BK1951.out), (bk BK1952.out), (bk BK1965.out), GW1965.out, GE1965.out, NB1951_1965.out, NB1965_1951.out, NB1952_1965.out, NB1965_1952.out, bz⟩)
              · skip
                refine box_step ?hg (N := 7) ?hd (cs := #[.int .i64 0, .int .i64 0]) (t := 26) ?hr ?_; (case hd => rfl); (case hg => rfl); (case hr => first | (go_simp; done) | (go_simp; rfl))
                intro gb1965 hg w40 hbox hb
                replace HO1961 := rb HO1961 hb; have BK1965 := m0 hbox; have GW1965 := m0 (bg (n := w.heap.size) hg); have GE1965 := m0 (bg (n := w.heap.size) hg); replace HB := sb HB hb; have NB1951_1965 := nl BK1951 hg; have NB1965_1951 := ng (nl BK1951 hg); replace BK1951 := bb BK1951 hb; have NB1952_1965 := nl BK1952 hg; have NB1965_1952 := ng (nl BK1952 hg); replace BK1952 := bb BK1952 hb
                clear hb hbox hg
                obtain ⟨Ao41, co41, eo41⟩ := Kd.R_slice HO1961.out
                (first | subst eo41 | (injection eo41 with f1_ f2_ f3_; have f4_ := f1_.symm; have f5_ := f3_.symm; clear f1_ f2_ f3_; subst f4_; subst f5_))
                refine hK.out _ _ cz (fun hHeld => ?_)
                clear hK K
                refine norm_ (a' := ?_) ?_ ?_
                rotate_left
                · show Act.put _ (some 7) _ = _
                  exact pz
                refine oneZ 5 (some 40) (bs 12 575) (one_of HT_.out (by kernel_rfl)) fun K hK => ?_
                refine goes_ Tryd.func83 (by kernel_rfl) rfl #[.agg #[.slice Ao41 t1959.length co41], .int .i64 a1, .int .i64 a2_0] (by rfl) rfl rfl mz ?_
                with_reducible refine (line_FalseRate.calls kj5 _ _ t1959 a1 a2_0 t1962 t1963 t1964 _ ?side1 ?side2 A33.out).mono ?_
                (case side1 => exact bc (Kd.R_reads' HO1961.out).2.2)
                (case side2 => exact (Kd.R_reads' HO1961.out).2.1)
                rintro e w42 ⟨rfl, hb⟩
                refine ⟨_, rfl, ?_⟩
                replace HO1961 := rb HO1961 hb; replace BK1951 := bb BK1951 hb; replace BK1952 := bb BK1952 hb; replace BK1965 := bb BK1965 hb; replace HB := sb HB hb
                (try clear hb)
                refine hK.out _ _ cz (fun hHeld => ?_)
                clear hK K
                refine norm_ (a' := ?_) ?_ ?_
                rotate_left
                · show Act.put _ (some 40) _ = _
                  exact pz
                refine pureZ (i := 6) (N := some 34) (bs 12 639) HT_ ?_
                refine pureZ (i := 7) (N := some 41) (bs 12 767) HT_ ?_
                refine pureZ (i := 8) (N := some 42) (bs 12 1023) HT_ ?_
                exact norm_ (by simp only [putAll, Act.put, List.setIfInBounds_toArray, List.set_cons_zero, List.set_cons_succ]) (hCont (.slice Ao41 t1959.length co41, gb1965) _ ⟨hHeld, (br HO1961.out), (bk BK1951.out), (bk BK1952.out), (bk BK1965.out), GW1965.out, GE1965.out, NB1951_1965.out, NB1965_1951.out, NB1952_1965.out, NB1965_1952.out, bz⟩)
            · skip
              refine box_step ?hg (N := 7) ?hd (cs := #[.int .i64 0, .int .i64 0]) (t := 26) ?hr ?_; (case hd => rfl); (case hg => rfl); (case hr => first | (go_simp; done) | (go_simp; rfl))
              intro gb1965 hg w39 hbox hb
              have BK1965 := m0 hbox; have GW1965 := m0 (bg (n := w.heap.size) hg); have GE1965 := m0 (bg (n := w.heap.size) hg); replace HB := sb HB hb; have NB1951_1965 := nl BK1951 hg; have NB1965_1951 := ng (nl BK1951 hg); replace BK1951 := bb BK1951 hb; have NB1952_1965 := nl BK1952 hg; have NB1965_1952 := ng (nl BK1952 hg); replace BK1952 := bb BK1952 hb
              clear hb hbox hg
              refine hK.out _ _ cz (fun hHeld => ?_)
              clear hK K
              refine norm_ (a' := ?_) ?_ ?_
              rotate_left
              · show Act.put _ (some 7) _ = _
                exact pz
              refine oneZ 1 (some 36) (bs 12 543) (one_of HT_.out (by kernel_rfl)) fun K hK => ?_
              refine goes_ Tryd.func52 (by kernel_rfl) rfl #[.agg #[.slice A0_0 l0_0.length c0_0]] (by rfl) rfl rfl mz ?_
              with_reducible refine (Rf_CopyNoise.calls _ _ l0_0 t1959 _ ?side1 ?side2 A32.out).mono ?_
              (case side1 => exact cb HR0_0 HB)
              (case side2 => exact HC0_0.out)
              rintro e w40 ⟨v1960, rfl, ho0, hb⟩
              refine ⟨_, rfl, ?_⟩
              have HO1961 := m0 (Kd.R_lower ho0 (below_size bz)); replace BK1951 := bb BK1951 hb; replace BK1952 := bb BK1952 hb; replace BK1965 := bb BK1965 hb; replace HB := sb HB hb
              (try clear hb)
              (try clear ho0)
              obtain ⟨Ao41, co41, eo41⟩ := Kd.R_slice HO1961.out
              (first | subst eo41 | (injection eo41 with f1_ f2_ f3_; have f4_ := f1_.symm; have f5_ := f3_.symm; clear f1_ f2_ f3_; subst f4_; subst f5_))
              refine hK.out _ _ cz (fun hHeld => ?_)
              clear hK K
              refine norm_ (a' := ?_) ?_ ?_
              rotate_left
              · show Act.put _ (some 36) _ = _
                exact pz
              refine oneZ 5 (some 40) (bs 12 575) (one_of HT_.out (by kernel_rfl)) fun K hK => ?_
              refine goes_ Tryd.func83 (by kernel_rfl) rfl #[.agg #[.slice Ao41 t1959.length co41], .int .i64 a1, .int .i64 a2_0] (by rfl) rfl rfl mz ?_
              with_reducible refine (line_FalseRate.calls kj5 _ _ t1959 a1 a2_0 t1962 t1963 t1964 _ ?side1 ?side2 A33.out).mono ?_
              (case side1 => exact bc (Kd.R_reads' HO1961.out).2.2)
              (case side2 => exact (Kd.R_reads' HO1961.out).2.1)
              rintro e w42 ⟨rfl, hb⟩
              refine ⟨_, rfl, ?_⟩
              replace HO1961 := rb HO1961 hb; replace BK1951 := bb BK1951 hb; replace BK1952 := bb BK1952 hb; replace BK1965 := bb BK1965 hb; replace HB := sb HB hb
              (try clear hb)
              refine hK.out _ _ cz (fun hHeld => ?_)
              clear hK K
              refine norm_ (a' := ?_) ?_ ?_
              rotate_left
              · show Act.put _ (some 40) _ = _
                exact pz
              refine pureZ (i := 6) (N := some 34) (bs 12 639) HT_ ?_
              refine pureZ (i := 7) (N := some 41) (bs 12 767) HT_ ?_
              refine pureZ (i := 8) (N := some 42) (bs 12 1023) HT_ ?_
              exact norm_ (by simp only [putAll, Act.put, List.setIfInBounds_toArray, List.set_cons_zero, List.set_cons_succ]) (hCont (.slice Ao41 t1959.length co41, gb1965) _ ⟨hHeld, (br HO1961.out), (bk BK1951.out), (bk BK1952.out), (bk BK1965.out), GW1965.out, GE1965.out, NB1951_1965.out, NB1965_1951.out, NB1952_1965.out, NB1965_1952.out, bz⟩)
          rintro ⟨v1960, gb1965⟩ w43 ⟨hS_, h0_, h1_, h2_, h3_, h4_, h5_, h6_, h7_, h8_, h9_, h10_⟩
          have n0_ : Aside0 (Kd.R (Kd.int .i64) 3 w43 w.heap.size (fun _ => True) v1960 t1959) := ⟨h0_⟩
          have n1_ : Aside0 (w43.heap[gb1951]? = some (.cells #[.slice A0_0 l0_0.length c0_0] 24 (0, 0))) := ⟨h1_⟩
          have n2_ : Aside0 (w43.heap[gb1952]? = some (.cells #[.int .i64 a2_0, .int .i64 a2_1] 105 (0, 0))) := ⟨h2_⟩
          have n3_ : Aside0 (w43.heap[gb1965]? = some (.cells #[.int .i64 0, .int .i64 0] 26 (0, 0))) := ⟨h3_⟩
          have n4_ : Aside0 (w.heap.size ≤ gb1965) := ⟨h4_⟩
          have n5_ : Aside0 (w.heap.size ≤ gb1965) := ⟨h5_⟩
          have n6_ : Aside0 (gb1951 ≠ gb1965) := ⟨h6_⟩
          have n7_ : Aside0 (gb1965 ≠ gb1951) := ⟨h7_⟩
          have n8_ : Aside0 (gb1952 ≠ gb1965) := ⟨h8_⟩
          have n9_ : Aside0 (gb1965 ≠ gb1952) := ⟨h9_⟩
          have n10_ : Aside0 (Below w.heap.size w w43) := ⟨h10_⟩
          clear BK1951
          clear BK1952
          clear HB
          clear h0_ h1_ h2_ h3_ h4_ h5_ h6_ h7_ h8_ h9_ h10_
          have HO1961 := n0_
          have BK1951 := n1_
          have BK1952 := n2_
          have BK1965 := n3_
          have GW1965 := n4_
          have GE1965 := n5_
          have NB1951_1965 := n6_
          have NB1965_1951 := n7_
          have NB1952_1965 := n8_
          have NB1965_1952 := n9_
          have HB := n10_
          clear n0_ n1_ n2_ n3_ n4_ n5_ n6_ n7_ n8_ n9_ n10_
          have hHeld : w43.cell? ⟨gb1951, 0, none⟩ = some (.slice A0_0 l0_0.length c0_0) ∧ w43.cell? ⟨gb1952, 0, none⟩ = some (.int .i64 a2_0) ∧ w43.cell? ⟨gb1952, 1, none⟩ = some (.int .i64 a2_1) := hS_
          refine norm_ (a' := ?_) ?_ ?_
          rotate_left
          · simp only [putAll, Act.put, List.setIfInBounds_toArray, List.set_cons_zero, List.set_cons_succ]
            rfl
          refine oneZ 10 (none) (bs 12 2047) (one_of HT_.out (by kernel_rfl)) fun K hK => ?_
          have hs44 : w43.cell? ⟨gb1965, 0, none⟩ = some (.int .i64 0) := (blk_cell BK1965.out 0).trans rfl
          have hfs44 := blk_frozen BK1965.out 0
          have hns44_0 := NB1951_1965.out
          have hns44_1 := NB1952_1965.out
          have hms44_0 := NB1965_1951.out
          have hms44_1 := NB1965_1952.out
          have hs45 : w43.cell? ⟨gb1965, 1, none⟩ = some (.int .i64 0) := (blk_cell BK1965.out 1).trans rfl
          have hfs45 := blk_frozen BK1965.out 1
          have hns45_0 := NB1951_1965.out
          have hns45_1 := NB1952_1965.out
          have hms45_0 := NB1965_1951.out
          have hms45_1 := NB1965_1952.out
          refine skip_ (w1 := ?_) (by rfl) rfl ?_ ?_
          rotate_left
          · go_simp
            rfl
          refine hK.out _ _ ⟨((cell_far (p := ⟨gb1965, _, none⟩) NB1951_1965.out _).trans (((cell_far (p := ⟨gb1965, _, none⟩) NB1951_1965.out _).trans (hHeld.1)))), ((cell_far (p := ⟨gb1965, _, none⟩) NB1952_1965.out _).trans (((cell_far (p := ⟨gb1965, _, none⟩) NB1952_1965.out _).trans (hHeld.2.1)))), ((cell_far (p := ⟨gb1965, _, none⟩) NB1952_1965.out _).trans (((cell_far (p := ⟨gb1965, _, none⟩) NB1952_1965.out _).trans (hHeld.2.2))))⟩ (fun hHeld => ?_)
          clear hK K
          refine pureZ (i := 11) (N := some 8) (bs 12 4095) HT_ ?_
          refine done_ (done_of HT_.out (by kernel_rfl)) ?_
          try go_wp2
          have n0_ : Aside0 (Kd.R (Kd.int .i64) 3 ((w43.setCell ⟨gb1965, 0, none⟩ (.int .i64 t1962)).setCell ⟨gb1965, 1, none⟩ (.int .i64 t1963)) w.heap.size (fun _ => True) v1960 t1959) := ⟨by (with_reducible repeat (first | apply Kd.R_alloc | apply Kd.R_drewN | apply Kd.R_drew)); exact Kd.R_mono (Kd.R_far (p := ⟨gb1965, 1, none⟩) (Kd.R_far (p := ⟨gb1965, 0, none⟩) (Kd.R_types HO1961.out BK1965.out (by decide)) (fun _ hk => hk.2) (.int .i64 t1962)) (fun _ hk => hk.2) (.int .i64 t1963)) (fun _ hk => trivial)⟩
          have n1_ : Aside0 (((w43.setCell ⟨gb1965, 0, none⟩ (.int .i64 t1962)).setCell ⟨gb1965, 1, none⟩ (.int .i64 t1963)).heap[gb1951]? = some (.cells #[.slice A0_0 l0_0.length c0_0] 24 (0, 0))) := ⟨bq BK1951.out⟩
          have n2_ : Aside0 (((w43.setCell ⟨gb1965, 0, none⟩ (.int .i64 t1962)).setCell ⟨gb1965, 1, none⟩ (.int .i64 t1963)).heap[gb1952]? = some (.cells #[.int .i64 a2_0, .int .i64 a2_1] 105 (0, 0))) := ⟨bq BK1952.out⟩
          have n3_ : Aside0 (((w43.setCell ⟨gb1965, 0, none⟩ (.int .i64 t1962)).setCell ⟨gb1965, 1, none⟩ (.int .i64 t1963)).heap[gb1965]? = some (.cells #[.int .i64 t1962, .int .i64 t1963] 26 (0, 0))) := ⟨bq BK1965.out⟩
          have n4_ : Aside0 (Below w.heap.size w ((w43.setCell ⟨gb1965, 0, none⟩ (.int .i64 t1962)).setCell ⟨gb1965, 1, none⟩ (.int .i64 t1963))) := ⟨bz⟩
          (try clear HO1961)
          (try clear BK1951)
          (try clear BK1952)
          (try clear BK1965)
          (try clear HB)
          generalize ((w43.setCell ⟨gb1965, 0, none⟩ (.int .i64 t1962)).setCell ⟨gb1965, 1, none⟩ (.int .i64 t1963)) = w46 at n0_ n1_ n2_ n3_ n4_ ⊢
          have HO1961 := n0_
          have BK1951 := n1_
          have BK1952 := n2_
          have BK1965 := n3_
          have HB := n4_
          clear n0_ n1_ n2_ n3_ n4_
          replace HO1961 := m0 (Kd.R_drew HO1961.out); replace BK1951 := bd BK1951; replace BK1952 := bd BK1952; replace BK1965 := bd BK1965; replace HB := sd HB
          refine start_ (n := 11) (S := fun w' => w'.cell? ⟨gb1951, 0, none⟩ = some (.slice A0_0 l0_0.length c0_0) ∧ w'.cell? ⟨gb1952, 0, none⟩ = some (.int .i64 a2_0) ∧ w'.cell? ⟨gb1952, 1, none⟩ = some (.int .i64 a2_1)) (ds := []) #[false, false, false, false, false, false, false, false, false, false, false] (by kernel_rfl) rfl rfl cz (fun hHeld => ?_); refine with_tabW Lw_LineRates.tab6 Lw_LineRates.bits6 (fun HT_ HW_ => ?_)
          generalize w46.drew = w47 at HO1961 BK1951 BK1952 BK1965 HB hHeld ⊢
          refine pureZ (i := 2) (N := some 46) #[false, false, true, false, false, false, false, false, false, false, false] HT_ ?_
          refine pureZ (i := 3) (N := some 47) #[false, false, true, true, false, false, false, false, false, false, false] HT_ ?_
          refine takeZ 0 (some 44) #[true, false, true, true, false, false, false, false, false, false, false] (take_ofW HT_.out HW_.out (by kernel_rfl)) hHeld ?_
          refine takeZ 4 (some 48) #[true, false, true, true, true, false, false, false, false, false, false] (take_ofW HT_.out HW_.out (by kernel_rfl)) hHeld ?_
          refine oneZ 1 (some 45) #[true, true, true, true, true, false, false, false, false, false, false] (one_of HT_.out (by kernel_rfl)) fun K hK => ?_
          refine goes_ Tryd.func52 (by kernel_rfl) rfl #[.agg #[.slice A0_0 l0_0.length c0_0]] (by rfl) rfl rfl mz ?_
          with_reducible refine (Rf_CopyNoise.calls _ _ l0_0 t1966 _ ?side1 ?side2 A34.out).mono ?_
          (case side1 => exact cb HR0_0 HB)
          (case side2 => exact HC0_0.out)
          rintro e w48 ⟨v1967, rfl, ho0, hb⟩
          refine ⟨_, rfl, ?_⟩
          have HO1968 := m0 (Kd.R_lower (Kd.R_new' ho0 (Kd.R_lt (br HO1961.out))) (below_size bz)); replace HO1961 := m0 (Kd.R_elder' (br HO1961.out) (Kd.R_base ho0) hb); replace BK1951 := bb BK1951 hb; replace BK1952 := bb BK1952 hb; replace BK1965 := bb BK1965 hb; replace HB := sb HB hb
          (try clear hb)
          (try clear ho0)
          obtain ⟨Ao49, co49, eo49⟩ := Kd.R_slice HO1968.out
          (first | subst eo49 | (injection eo49 with f1_ f2_ f3_; have f4_ := f1_.symm; have f5_ := f3_.symm; clear f1_ f2_ f3_; subst f4_; subst f5_))
          refine hK.out _ _ cz (fun hHeld => ?_)
          clear hK K
          refine norm_ (a' := ?_) ?_ ?_
          rotate_left
          · show Act.put _ (some 45) _ = _
            exact pz
          refine oneZ 5 (some 49) #[true, true, true, true, true, true, false, false, false, false, false] (one_of HT_.out (by kernel_rfl)) fun K hK => ?_
          refine goes_ Tryd.func84 (by kernel_rfl) rfl #[.agg #[.slice Ao49 t1966.length co49], .int .i64 a1, .int .i64 a2_1] (by rfl) rfl rfl mz ?_
          with_reducible refine (line_ThresholdFor.calls kj5 _ _ t1966 a1 a2_1 t1969 t1970 _ ?side1 ?side2 A35.out).mono ?_
          (case side1 => exact bc (Kd.R_reads' HO1968.out).2.2)
          (case side2 => exact (Kd.R_reads' HO1968.out).2.1)
          rintro e w50 ⟨rfl, hb⟩
          refine ⟨_, rfl, ?_⟩
          replace HO1961 := rb HO1961 hb; replace HO1968 := rb HO1968 hb; replace BK1951 := bb BK1951 hb; replace BK1952 := bb BK1952 hb; replace BK1965 := bb BK1965 hb; replace HB := sb HB hb
          (try clear hb)
          refine hK.out _ _ cz (fun hHeld => ?_)
          clear hK K
          refine norm_ (a' := ?_) ?_ ?_
          rotate_left
          · show Act.put _ (some 49) _ = _
            exact pz
          refine pureZ (i := 6) (N := some 43) #[true, true, true, true, true, true, true, false, false, false, false] HT_ ?_
          refine pureZ (i := 7) (N := some 50) #[true, true, true, true, true, true, true, true, false, false, false] HT_ ?_
          refine pureZ (i := 8) (N := some 51) #[true, true, true, true, true, true, true, true, true, false, false] HT_ ?_
          refine pureZ (i := 9) (N := some 9) #[true, true, true, true, true, true, true, true, true, true, false] HT_ ?_
          refine pureZ (i := 10) (N := some 10) #[true, true, true, true, true, true, true, true, true, true, true] HT_ ?_
          refine done_ (done_of HT_.out (by kernel_rfl)) ?_
          have hnb51 := NB1951_1952.out
          have hnc51 := NB1952_1951.out
          have hnb52 := NB1951_1965.out
          have hnc52 := NB1965_1951.out
          obtain ⟨hcz53_0, hfz53_0⟩ := b1 BK1951
          go_upto_if 55 with (first | ((with_reducible refine gate_callee (f := 82) rfl ?_); refine gl (some 53) Tryd.func82 #[.agg #[.slice A0_0 l0_0.length c0_0]] ?_; (with_reducible refine (Rf_NoiseErr.calls kj5 _ _ l0_0 t1971 _ ?side1 ?side2 A36.out).mono ?_); (case side1 => exact cb HR0_0 HB); (case side2 => exact HC0_0.out); rintro e w54 ⟨rfl, hb⟩; refine ⟨_, rfl, ?_⟩; replace HO1961 := rb HO1961 hb; replace HO1968 := rb HO1968 hb; replace BK1951 := bb BK1951 hb; replace BK1952 := bb BK1952 hb; replace BK1965 := bb BK1965 hb; replace HB := sb HB hb; (try clear hb)))
          (try simp only [Act.put, List.setIfInBounds_toArray, List.set_cons_zero, List.set_cons_succ])
          go_cut [11] (fun v11 wc => ∃ (kq : Nat) (x11_36 : Int), v11 = .int .i64 x11_36 ∧ Aside0 (Lw_LineRates.j1 kq a1 t1964 t1969 t1970 x11_36 l0_0 a2_0 a2_1 t1962 t1963 = some r) ∧ Aside0 (kq ≤ kj5) ∧ Aside0 (wc.heap[gb1951]? = some (.cells #[(.slice A0_0 l0_0.length c0_0)] 24 (0, 0))) ∧ Aside0 (wc.heap[gb1952]? = some (.cells #[.int .i64 a2_0, .int .i64 a2_1] 105 (0, 0))) ∧ Aside0 (wc.heap[gb1965]? = some (.cells #[.int .i64 t1962, .int .i64 t1963] 26 (0, 0))) ∧ Aside0 (Below w.heap.size w wc))
          case first =>
            have H := HC37.out
            clear HC37
            by_cases c55 : t1971 = 0
            · rw [if_pos c55] at H
              have c55b0 := beq_iff_eq.mpr c55
              have c55b1 := bne_eq_false_iff_eq.mpr c55
              clear c55
              (first | rw [c55b0] | (simp only [i64_w, i32_w]; rw [c55b0]) | skip)
              replace H := ob H
              obtain ⟨t1972, A560, H⟩ := H
              (try dsimp only at H)
              have A56 := m0 A560
              clear A560
              have H' := m0 H
              clear H
              have hnb57 := NB1951_1952.out
              have hnc57 := NB1952_1951.out
              have hnb58 := NB1951_1965.out
              have hnc58 := NB1965_1951.out
              obtain ⟨hcz59_0, hfz59_0⟩ := b1 BK1951
              go_wp2_with (first | ((with_reducible refine gate_callee (f := 85) rfl ?_); refine gl (some 58) Tryd.func85 #[.agg #[.slice A0_0 l0_0.length c0_0], .int .i64 a1] ?_; (with_reducible refine (Rf_LinesErr.calls kj5 _ _ l0_0 a1 t1972 _ ?side1 ?side2 A56.out).mono ?_); (case side1 => exact cb HR0_0 HB); (case side2 => exact HC0_0.out); rintro e w60 ⟨rfl, hb⟩; refine ⟨_, rfl, ?_⟩; replace HO1961 := rb HO1961 hb; replace HO1968 := rb HO1968 hb; replace BK1951 := bb BK1951 hb; replace BK1952 := bb BK1952 hb; replace BK1965 := bb BK1965 hb; replace HB := sb HB hb; (try clear hb)))
              go_meet
              case rel => exact ⟨_, (t1972), (by first | rfl | (simp; done) | (simp [*]; done)), H', ⟨by have := HJ5.out; first | omega | exact Nat.le_refl _⟩, ⟨bk BK1951.out⟩, ⟨bk BK1952.out⟩, ⟨bk BK1965.out⟩, ⟨bz⟩⟩
            · rw [if_neg c55] at H
              have c55b0 := beq_eq_false_iff_ne.mpr c55
              have c55b1 := bne_iff_ne.mpr c55
              (first | rw [c55b0] | (simp only [i64_w, i32_w]; rw [c55b0]) | skip)
              have H' := m0 H
              clear H
              go_wp2
              go_meet
              case rel => exact ⟨_, (t1971), (by first | rfl | (simp; done) | (simp [*]; done)), H', ⟨by have := HJ5.out; first | omega | exact Nat.le_refl _⟩, ⟨bk BK1951.out⟩, ⟨bk BK1952.out⟩, ⟨bk BK1965.out⟩, ⟨bz⟩⟩
          case rest =>
            clear HC37
            try clear p2
            try clear c5
            try clear c8
            try clear c51
            try clear c52
            try clear c55
            try clear c55b0
            try clear c55b1
            try clear c57
            try clear c58
            try clear hcz53_0
            try clear hcz59_0
            try clear hfz53_0
            try clear hfz59_0
            obtain ⟨kq, x11_36, rfl, HA, HJ36, BK1951, BK1952, BK1965, HB⟩ := hcut
            cases kq with
            | zero => exact absurd HA.out (by simp [Lw_LineRates.j1])
            | succ kj36 =>
              have H := HA.out
              clear HA
              simp only [Lw_LineRates.j1] at H
              by_cases c61 : x11_36 = 0
              · rw [if_pos c61] at H
                have c61b0 := beq_iff_eq.mpr c61
                have c61b1 := bne_eq_false_iff_eq.mpr c61
                clear c61
                replace H := ob H
                obtain ⟨t1973, A620, H⟩ := H
                (try dsimp only at H)
                have A62 := m0 A620
                clear A620
                have HC63 := m0 H
                clear H
                have hnb64 := NB1952_1951.out
                have hnc64 := NB1951_1952.out
                have hnb65 := NB1952_1965.out
                have hnc65 := NB1965_1952.out
                obtain ⟨_, _, _, _⟩ := b2 BK1952
                go_upto_region 13 with (first | ((with_reducible refine gate_callee (f := 28) rfl ?_); refine gl (some 80) Tryd.func28 #[.int .i64 a2_0] ?_; (with_reducible refine (Rf_ThresholdErr.calls a2_0 t1973 _ A62.out).mono ?_); rintro e w' ⟨rfl, ⟨nd, rfl⟩⟩; refine ⟨_, rfl, ?_⟩))
                (try simp only [Act.put, List.setIfInBounds_toArray, List.set_cons_zero, List.set_cons_succ])
                go_cut [109] (fun v109 wc => ∃ (kq : Nat) (x109_62 : Bool), v109 = .bool x109_62 ∧ Aside0 (Lw_LineRates.j2 kq a1 t1969 t1970 x109_62 l0_0 a2_0 a2_1 = some r) ∧ Aside0 (kq ≤ kj36) ∧ Aside0 (wc.heap[gb1951]? = some (.cells #[(.slice A0_0 l0_0.length c0_0)] 24 (0, 0))) ∧ Aside0 (wc.heap[gb1952]? = some (.cells #[.int .i64 a2_0, .int .i64 a2_1] 105 (0, 0))) ∧ Aside0 (wc.heap[gb1965]? = some (.cells #[.int .i64 t1962, .int .i64 t1963] 26 (0, 0))) ∧ Aside0 (Below w.heap.size w wc))
                case first =>
                  have H := HC63.out
                  clear HC63
                  by_cases c67 : t1973 = 0
                  · rw [if_pos c67] at H
                    have c67b0 := beq_iff_eq.mpr c67
                    have c67b1 := bne_eq_false_iff_eq.mpr c67
                    clear c67
                    (first | rw [c67b0] | (simp only [i64_w, i32_w]; rw [c67b0]) | skip)
                    by_cases c68 : t1964 = 0
                    · rw [if_pos c68] at H
                      have c68b0 := beq_iff_eq.mpr c68
                      have c68b1 := bne_eq_false_iff_eq.mpr c68
                      clear c68
                      replace H := ob H
                      obtain ⟨⟨t1974, t1975⟩, A690, H⟩ := H
                      (try dsimp only at H)
                      have A69 := m0 A690
                      clear A690
                      have H' := m0 H
                      clear H
                      try go_wp2
                      replace BK1951 := m0 (blk_drew (blk_drewN BK1951.out nd)); replace BK1952 := m0 (blk_drew (blk_drewN BK1952.out nd)); replace BK1965 := m0 (blk_drew (blk_drewN BK1965.out nd)); replace HB := m0 (below_drew1 (pw_below_drewN HB.out nd))
                      refine start_ (n := 29) (S := fun w' => w'.cell? ⟨gb1965, 0, none⟩ = some (.int .i64 t1962) ∧ w'.cell? ⟨gb1965, 1, none⟩ = some (.int .i64 t1963) ∧ w'.cell? ⟨gb1951, 0, none⟩ = some (.slice A0_0 l0_0.length c0_0) ∧ w'.cell? ⟨gb1952, 0, none⟩ = some (.int .i64 a2_0) ∧ w'.cell? ⟨gb1952, 1, none⟩ = some (.int .i64 a2_1)) (ds := []) #[false, false, false, false, false, false, false, false, false, false, false, false, false, false, false, false, false, false, false, false, false, false, false, false, false, false, false, false, false] (by kernel_rfl) rfl rfl cz (fun hHeld => ?_); refine with_tabW Lw_LineRates.tab13 Lw_LineRates.bits13 (fun HT_ HW_ => ?_)
                      generalize (wc.drewN nd).drew = w70 at BK1951 BK1952 BK1965 HB hHeld ⊢
                      refine pureZ (i := 0) (N := some 81) (bs 29 1) HT_ ?_
                      refine pureZ (i := 1) (N := some 82) (bs 29 3) HT_ ?_
                      refine pureZ (i := 2) (N := some 83) (bs 29 7) HT_ ?_
                      refine pure_ (i := 3) (N := some 84) (v := undef) (a' := ?_) (bs 29 15) rfl rfl (any_of HT_.out (by kernel_rfl)) (fun _ _ _ h => h) (Or.inr ⟨by rfl, rfl⟩) ?_ ?_
                      rotate_left
                      · exact pz
                      refine pure_ (i := 4) (N := some 85) (v := undef) (a' := ?_) (bs 29 31) rfl rfl (any_of HT_.out (by kernel_rfl)) (fun _ _ _ h => h) (Or.inr ⟨by rfl, rfl⟩) ?_ ?_
                      rotate_left
                      · exact pz
                      refine pure_ (i := 5) (N := some 86) (v := undef) (a' := ?_) (bs 29 63) rfl rfl (any_of HT_.out (by kernel_rfl)) (fun _ _ _ h => h) (Or.inr ⟨by rfl, rfl⟩) ?_ ?_
                      rotate_left
                      · exact pz
                      refine pure_ (i := 6) (N := some 87) (v := undef) (a' := ?_) (bs 29 127) rfl rfl (any_of HT_.out (by kernel_rfl)) (fun _ _ _ h => h) (Or.inr ⟨by rfl, rfl⟩) ?_ ?_
                      rotate_left
                      · exact pz
                      refine pure_ (i := 7) (N := some 88) (v := undef) (a' := ?_) (bs 29 255) rfl rfl (any_of HT_.out (by kernel_rfl)) (fun _ _ _ h => h) (Or.inr ⟨by rfl, rfl⟩) ?_ ?_
                      rotate_left
                      · exact pz
                      refine pure_ (i := 8) (N := some 89) (v := undef) (a' := ?_) (bs 29 511) rfl rfl (any_of HT_.out (by kernel_rfl)) (fun _ _ _ h => h) (Or.inr ⟨by rfl, rfl⟩) ?_ ?_
                      rotate_left
                      · exact pz
                      refine pure_ (i := 9) (N := some 90) (v := undef) (a' := ?_) (bs 29 1023) rfl rfl (any_of HT_.out (by kernel_rfl)) (fun _ _ _ h => h) (Or.inr ⟨by rfl, rfl⟩) ?_ ?_
                      rotate_left
                      · exact pz
                      refine pure_ (i := 10) (N := some 91) (v := undef) (a' := ?_) (bs 29 2047) rfl rfl (any_of HT_.out (by kernel_rfl)) (fun _ _ _ h => h) (Or.inr ⟨by rfl, rfl⟩) ?_ ?_
                      rotate_left
                      · exact pz
                      refine pureZ (i := 11) (N := some 92) (bs 29 4095) HT_ ?_
                      refine pureZ (i := 12) (N := some 93) (bs 29 8191) HT_ ?_
                      refine pureZ (i := 13) (N := some 94) (bs 29 16383) HT_ ?_
                      refine pureZ (i := 14) (N := some 95) (bs 29 32767) HT_ ?_
                      refine pureZ (i := 15) (N := some 96) (bs 29 65535) HT_ ?_
                      refine pureZ (i := 16) (N := some 97) (bs 29 131071) HT_ ?_
                      refine pureZ (i := 17) (N := some 98) (bs 29 262143) HT_ ?_
                      refine pureZ (i := 18) (N := some 99) (bs 29 524287) HT_ ?_
                      refine pureZ (i := 21) (N := some 102) (bs 29 2621439) HT_ ?_
                      refine pureZ (i := 22) (N := some 103) (bs 29 6815743) HT_ ?_
                      refine takeZ 19 (some 100) (bs 29 7340031) (take_ofW HT_.out HW_.out (by kernel_rfl)) hHeld ?_
                      refine takeZ 20 (some 101) (bs 29 8388607) (take_ofW HT_.out HW_.out (by kernel_rfl)) hHeld ?_
                      refine takeZ 23 (some 104) (bs 29 16777215) (take_ofW HT_.out HW_.out (by kernel_rfl)) hHeld ?_
                      refine oneZ 24 (some 105) (bs 29 33554431) (one_of HT_.out (by kernel_rfl)) fun K hK => ?_
                      refine goes_ Tryd.func86 (by kernel_rfl) rfl #[.agg #[.slice A0_0 l0_0.length c0_0], .int .i64 a1, .int .i64 a2_0] (by rfl) rfl rfl mz ?_
                      with_reducible refine (Rf_FalseRate.calls kj36 _ _ l0_0 a1 a2_0 t1974 t1975 _ ?side1 ?side2 A69.out).mono ?_
                      (case side1 => exact cb HR0_0 HB)
                      (case side2 => exact HC0_0.out)
                      rintro e w71 ⟨rfl, hb⟩
                      refine ⟨_, rfl, ?_⟩
                      replace BK1951 := bb BK1951 hb; replace BK1952 := bb BK1952 hb; replace BK1965 := bb BK1965 hb; replace HB := sb HB hb
                      (try clear hb)
                      refine hK.out _ _ cz (fun hHeld => ?_)
                      clear hK K
                      refine norm_ (a' := ?_) ?_ ?_
                      rotate_left
                      · show Act.put _ (some 105) _ = _
                        exact pz
                      refine pureZ (i := 25) (N := some 106) (bs 29 67108863) HT_ ?_
                      refine pureZ (i := 26) (N := some 107) (bs 29 134217727) HT_ ?_
                      refine pureZ (i := 27) (N := some 108) (bs 29 268435455) HT_ ?_
                      refine pureZ (i := 28) (N := some 109) (bs 29 536870911) HT_ ?_
                      refine done_ (done_of HT_.out (by kernel_rfl)) ?_
                      try go_wp2
                      go_meet
                      case rel => exact ⟨_, ((!(t1962 == t1974) || (!(t1963 == t1975)))), (by first | rfl | (simp; done) | (simp [*]; done)), H', ⟨by have := HJ5.out; have := HJ36.out; first | omega | exact Nat.le_refl _⟩, ⟨bk BK1951.out⟩, ⟨bk BK1952.out⟩, ⟨bk BK1965.out⟩, ⟨bz⟩⟩
                    · rw [if_neg c68] at H
                      have c68b0 := beq_eq_false_iff_ne.mpr c68
                      have c68b1 := bne_iff_ne.mpr c68
                      have H' := m0 H
                      clear H
                      try go_wp2
                      replace BK1951 := m0 (blk_drew (blk_drewN BK1951.out nd)); replace BK1952 := m0 (blk_drew (blk_drewN BK1952.out nd)); replace BK1965 := m0 (blk_drew (blk_drewN BK1965.out nd)); replace HB := m0 (below_drew1 (pw_below_drewN HB.out nd))
                      refine start_ (n := 29) (S := fun w' => True) (ds := []) #[false, false, false, false, false, false, false, false, false, false, false, false, false, false, false, false, false, false, false, false, false, false, false, false, false, false, false, false, false] (by kernel_rfl) rfl rfl trivial (fun hHeld => ?_); refine with_tabW Lw_LineRates.tab13 Lw_LineRates.bits13 (fun HT_ HW_ => ?_)
                      generalize (wc.drewN nd).drew = w72 at BK1951 BK1952 BK1965 HB hHeld ⊢
                      refine pureZ (i := 0) (N := some 81) (bs 29 1) HT_ ?_
                      refine pureZ (i := 1) (N := some 82) (bs 29 3) HT_ ?_
                      refine pureZ (i := 2) (N := some 83) (bs 29 7) HT_ ?_
                      refine pure_ (i := 3) (N := some 84) (v := undef) (a' := ?_) (bs 29 15) rfl rfl (any_of HT_.out (by kernel_rfl)) (fun _ _ _ h => h) (Or.inr ⟨by rfl, rfl⟩) ?_ ?_
                      rotate_left
                      · exact pz
                      refine pure_ (i := 4) (N := some 85) (v := undef) (a' := ?_) (bs 29 31) rfl rfl (any_of HT_.out (by kernel_rfl)) (fun _ _ _ h => h) (Or.inr ⟨by rfl, rfl⟩) ?_ ?_
                      rotate_left
                      · exact pz
                      refine pure_ (i := 5) (N := some 86) (v := undef) (a' := ?_) (bs 29 63) rfl rfl (any_of HT_.out (by kernel_rfl)) (fun _ _ _ h => h) (Or.inr ⟨by rfl, rfl⟩) ?_ ?_
                      rotate_left
                      · exact pz
                      refine pure_ (i := 6) (N := some 87) (v := undef) (a' := ?_) (bs 29 127) rfl rfl (any_of HT_.out (by kernel_rfl)) (fun _ _ _ h => h) (Or.inr ⟨by rfl, rfl⟩) ?_ ?_
                      rotate_left
                      · exact pz
                      refine pure_ (i := 7) (N := some 88) (v := undef) (a' := ?_) (bs 29 255) rfl rfl (any_of HT_.out (by kernel_rfl)) (fun _ _ _ h => h) (Or.inr ⟨by rfl, rfl⟩) ?_ ?_
                      rotate_left
                      · exact pz
                      refine pure_ (i := 8) (N := some 89) (v := undef) (a' := ?_) (bs 29 511) rfl rfl (any_of HT_.out (by kernel_rfl)) (fun _ _ _ h => h) (Or.inr ⟨by rfl, rfl⟩) ?_ ?_
                      rotate_left
                      · exact pz
                      refine pure_ (i := 9) (N := some 90) (v := undef) (a' := ?_) (bs 29 1023) rfl rfl (any_of HT_.out (by kernel_rfl)) (fun _ _ _ h => h) (Or.inr ⟨by rfl, rfl⟩) ?_ ?_
                      rotate_left
                      · exact pz
                      refine pure_ (i := 10) (N := some 91) (v := undef) (a' := ?_) (bs 29 2047) rfl rfl (any_of HT_.out (by kernel_rfl)) (fun _ _ _ h => h) (Or.inr ⟨by rfl, rfl⟩) ?_ ?_
                      rotate_left
                      · exact pz
                      refine pureZ (i := 11) (N := some 92) (bs 29 4095) HT_ ?_
                      refine pureZ (i := 12) (N := some 93) (bs 29 8191) HT_ ?_
                      refine pureZ (i := 13) (N := some 94) (bs 29 16383) HT_ ?_
                      refine pureZ (i := 14) (N := some 95) (bs 29 32767) HT_ ?_
                      refine pureZ (i := 15) (N := some 96) (bs 29 65535) HT_ ?_
                      refine pureZ (i := 16) (N := some 97) (bs 29 131071) HT_ ?_
                      refine pureZ (i := 17) (N := some 98) (bs 29 262143) HT_ ?_
                      refine pureZ (i := 18) (N := some 99) (bs 29 524287) HT_ ?_
                      refine pure_ (i := 19) (N := some 100) (v := undef) (a' := ?_) (bs 29 1048575) rfl rfl (any_of HT_.out (by kernel_rfl)) (fun _ _ _ h => h) (Or.inr ⟨by rfl, rfl⟩) ?_ ?_
                      rotate_left
                      · exact pz
                      refine pure_ (i := 20) (N := some 101) (v := undef) (a' := ?_) (bs 29 2097151) rfl rfl (any_of HT_.out (by kernel_rfl)) (fun _ _ _ h => h) (Or.inr ⟨by rfl, rfl⟩) ?_ ?_
                      rotate_left
                      · exact pz
                      refine pure_ (i := 21) (N := some 102) (v := undef) (a' := ?_) (bs 29 4194303) rfl rfl (any_of HT_.out (by kernel_rfl)) (fun _ _ _ h => h) (Or.inr ⟨by rfl, rfl⟩) ?_ ?_
                      rotate_left
                      · exact pz
                      refine pure_ (i := 22) (N := some 103) (v := undef) (a' := ?_) (bs 29 8388607) rfl rfl (any_of HT_.out (by kernel_rfl)) (fun _ _ _ h => h) (Or.inr ⟨by rfl, rfl⟩) ?_ ?_
                      rotate_left
                      · exact pz
                      refine pure_ (i := 23) (N := some 104) (v := undef) (a' := ?_) (bs 29 16777215) rfl rfl (any_of HT_.out (by kernel_rfl)) (fun _ _ _ h => h) (Or.inr ⟨by rfl, rfl⟩) ?_ ?_
                      rotate_left
                      · exact pz
                      refine pure_ (i := 24) (N := some 105) (v := undef) (a' := ?_) (bs 29 33554431) rfl rfl (any_of HT_.out (by kernel_rfl)) (fun _ _ _ h => h) (Or.inr ⟨by rfl, rfl⟩) ?_ ?_
                      rotate_left
                      · exact pz
                      refine pure_ (i := 25) (N := some 106) (v := undef) (a' := ?_) (bs 29 67108863) rfl rfl (any_of HT_.out (by kernel_rfl)) (fun _ _ _ h => h) (Or.inr ⟨by rfl, rfl⟩) ?_ ?_
                      rotate_left
                      · exact pz
                      refine pureZ (i := 26) (N := some 107) (bs 29 134217727) HT_ ?_
                      refine pureZ (i := 27) (N := some 108) (bs 29 268435455) HT_ ?_
                      refine pureZ (i := 28) (N := some 109) (bs 29 536870911) HT_ ?_
                      refine done_ (done_of HT_.out (by kernel_rfl)) ?_
                      try go_wp2
                      go_meet
                      case rel => exact ⟨_, (true), (by first | rfl | (simp; done) | (simp [*]; done)), H', ⟨by have := HJ5.out; have := HJ36.out; first | omega | exact Nat.le_refl _⟩, ⟨bk BK1951.out⟩, ⟨bk BK1952.out⟩, ⟨bk BK1965.out⟩, ⟨bz⟩⟩
                  · rw [if_neg c67] at H
                    have c67b0 := beq_eq_false_iff_ne.mpr c67
                    have c67b1 := bne_iff_ne.mpr c67
                    (first | rw [c67b0] | (simp only [i64_w, i32_w]; rw [c67b0]) | skip)
                    by_cases c73 : t1964 = t1973
                    · rw [if_pos c73] at H
                      have c73b0 := beq_iff_eq.mpr c73
                      have c73b1 := bne_eq_false_iff_eq.mpr c73
                      clear c73
                      by_cases c74 : (!(t1962 == 0) || (!(t1963 == 0))) = true
                      · rw [if_pos c74] at H
                        have c74b0 : (!(t1962 == 0) || (!(t1963 == 0))) = true := c74
                        clear c74
                        have H' := m0 H
                        clear H
                        try go_wp2
                        replace BK1951 := m0 (blk_drew (blk_drewN BK1951.out nd)); replace BK1952 := m0 (blk_drew (blk_drewN BK1952.out nd)); replace BK1965 := m0 (blk_drew (blk_drewN BK1965.out nd)); replace HB := m0 (below_drew1 (pw_below_drewN HB.out nd))
                        refine start_ (n := 29) (S := fun w' => w'.cell? ⟨gb1965, 0, none⟩ = some (.int .i64 t1962) ∧ w'.cell? ⟨gb1965, 1, none⟩ = some (.int .i64 t1963)) (ds := []) #[false, false, false, false, false, false, false, false, false, false, false, false, false, false, false, false, false, false, false, false, false, false, false, false, false, false, false, false, false] (by kernel_rfl) rfl rfl cz (fun hHeld => ?_); refine with_tabW Lw_LineRates.tab13 Lw_LineRates.bits13 (fun HT_ HW_ => ?_)
                        generalize (wc.drewN nd).drew = w75 at BK1951 BK1952 BK1965 HB hHeld ⊢
                        refine pureZ (i := 0) (N := some 81) (bs 29 1) HT_ ?_
                        refine pureZ (i := 1) (N := some 82) (bs 29 3) HT_ ?_
                        refine pureZ (i := 2) (N := some 83) (bs 29 7) HT_ ?_
                        refine pureZ (i := 3) (N := some 84) (bs 29 15) HT_ ?_
                        refine pureZ (i := 4) (N := some 85) (bs 29 31) HT_ ?_
                        refine pureZ (i := 5) (N := some 86) (bs 29 63) HT_ ?_
                        refine pureZ (i := 6) (N := some 87) (bs 29 127) HT_ ?_
                        refine pureZ (i := 8) (N := some 89) (bs 29 383) HT_ ?_
                        refine takeZ 7 (some 88) (bs 29 511) (take_ofW HT_.out HW_.out (by kernel_rfl)) hHeld ?_
                        refine pureZ (i := 9) (N := some 90) (bs 29 1023) HT_ ?_
                        refine pureZ (i := 10) (N := some 91) (bs 29 2047) HT_ ?_
                        refine pureZ (i := 11) (N := some 92) (bs 29 4095) HT_ ?_
                        refine pureZ (i := 12) (N := some 93) (bs 29 8191) HT_ ?_
                        refine pure_ (i := 13) (N := some 94) (v := undef) (a' := ?_) (bs 29 16383) rfl rfl (any_of HT_.out (by kernel_rfl)) (fun _ _ _ h => h) (Or.inr ⟨by rfl, rfl⟩) ?_ ?_
                        rotate_left
                        · exact pz
                        refine pure_ (i := 14) (N := some 95) (v := undef) (a' := ?_) (bs 29 32767) rfl rfl (any_of HT_.out (by kernel_rfl)) (fun _ _ _ h => h) (Or.inr ⟨by rfl, rfl⟩) ?_ ?_
                        rotate_left
                        · exact pz
                        refine pure_ (i := 15) (N := some 96) (v := undef) (a' := ?_) (bs 29 65535) rfl rfl (any_of HT_.out (by kernel_rfl)) (fun _ _ _ h => h) (Or.inr ⟨by rfl, rfl⟩) ?_ ?_
                        rotate_left
                        · exact pz
                        refine pure_ (i := 16) (N := some 97) (v := undef) (a' := ?_) (bs 29 131071) rfl rfl (any_of HT_.out (by kernel_rfl)) (fun _ _ _ h => h) (Or.inr ⟨by rfl, rfl⟩) ?_ ?_
                        rotate_left
                        · exact pz
                        refine pure_ (i := 17) (N := some 98) (v := undef) (a' := ?_) (bs 29 262143) rfl rfl (any_of HT_.out (by kernel_rfl)) (fun _ _ _ h => h) (Or.inr ⟨by rfl, rfl⟩) ?_ ?_
                        rotate_left
                        · exact pz
                        refine pure_ (i := 18) (N := some 99) (v := undef) (a' := ?_) (bs 29 524287) rfl rfl (any_of HT_.out (by kernel_rfl)) (fun _ _ _ h => h) (Or.inr ⟨by rfl, rfl⟩) ?_ ?_
                        rotate_left
                        · exact pz
                        refine pure_ (i := 19) (N := some 100) (v := undef) (a' := ?_) (bs 29 1048575) rfl rfl (any_of HT_.out (by kernel_rfl)) (fun _ _ _ h => h) (Or.inr ⟨by rfl, rfl⟩) ?_ ?_
                        rotate_left
                        · exact pz
                        refine pure_ (i := 20) (N := some 101) (v := undef) (a' := ?_) (bs 29 2097151) rfl rfl (any_of HT_.out (by kernel_rfl)) (fun _ _ _ h => h) (Or.inr ⟨by rfl, rfl⟩) ?_ ?_
                        rotate_left
                        · exact pz
                        refine pure_ (i := 21) (N := some 102) (v := undef) (a' := ?_) (bs 29 4194303) rfl rfl (any_of HT_.out (by kernel_rfl)) (fun _ _ _ h => h) (Or.inr ⟨by rfl, rfl⟩) ?_ ?_
                        rotate_left
                        · exact pz
                        refine pure_ (i := 22) (N := some 103) (v := undef) (a' := ?_) (bs 29 8388607) rfl rfl (any_of HT_.out (by kernel_rfl)) (fun _ _ _ h => h) (Or.inr ⟨by rfl, rfl⟩) ?_ ?_
                        rotate_left
                        · exact pz
                        refine pure_ (i := 23) (N := some 104) (v := undef) (a' := ?_) (bs 29 16777215) rfl rfl (any_of HT_.out (by kernel_rfl)) (fun _ _ _ h => h) (Or.inr ⟨by rfl, rfl⟩) ?_ ?_
                        rotate_left
                        · exact pz
                        refine pure_ (i := 24) (N := some 105) (v := undef) (a' := ?_) (bs 29 33554431) rfl rfl (any_of HT_.out (by kernel_rfl)) (fun _ _ _ h => h) (Or.inr ⟨by rfl, rfl⟩) ?_ ?_
                        rotate_left
                        · exact pz
                        refine pure_ (i := 25) (N := some 106) (v := undef) (a' := ?_) (bs 29 67108863) rfl rfl (any_of HT_.out (by kernel_rfl)) (fun _ _ _ h => h) (Or.inr ⟨by rfl, rfl⟩) ?_ ?_
                        rotate_left
                        · exact pz
                        refine pure_ (i := 26) (N := some 107) (v := undef) (a' := ?_) (bs 29 134217727) rfl rfl (any_of HT_.out (by kernel_rfl)) (fun _ _ _ h => h) (Or.inr ⟨by rfl, rfl⟩) ?_ ?_
                        rotate_left
                        · exact pz
                        refine pure_ (i := 27) (N := some 108) (v := undef) (a' := ?_) (bs 29 268435455) rfl rfl (any_of HT_.out (by kernel_rfl)) (fun _ _ _ h => h) (Or.inr ⟨by rfl, rfl⟩) ?_ ?_
                        rotate_left
                        · exact pz
                        refine pureZ (i := 28) (N := some 109) (bs 29 536870911) HT_ ?_
                        refine done_ (done_of HT_.out (by kernel_rfl)) ?_
                        try go_wp2
                        go_meet
                        case rel => exact ⟨_, (true), (by first | rfl | (simp; done) | (simp [*]; done)), H', ⟨by have := HJ5.out; have := HJ36.out; first | omega | exact Nat.le_refl _⟩, ⟨bk BK1951.out⟩, ⟨bk BK1952.out⟩, ⟨bk BK1965.out⟩, ⟨bz⟩⟩
                      · rw [if_neg c74] at H
                        have c74b0 : (!(t1962 == 0) || (!(t1963 == 0))) = false := by simpa using c74
                        clear c74
                        have H' := m0 H
                        clear H
                        try go_wp2
                        replace BK1951 := m0 (blk_drew (blk_drewN BK1951.out nd)); replace BK1952 := m0 (blk_drew (blk_drewN BK1952.out nd)); replace BK1965 := m0 (blk_drew (blk_drewN BK1965.out nd)); replace HB := m0 (below_drew1 (pw_below_drewN HB.out nd))
                        refine start_ (n := 29) (S := fun w' => w'.cell? ⟨gb1965, 0, none⟩ = some (.int .i64 t1962) ∧ w'.cell? ⟨gb1965, 1, none⟩ = some (.int .i64 t1963)) (ds := []) #[false, false, false, false, false, false, false, false, false, false, false, false, false, false, false, false, false, false, false, false, false, false, false, false, false, false, false, false, false] (by kernel_rfl) rfl rfl cz (fun hHeld => ?_); refine with_tabW Lw_LineRates.tab13 Lw_LineRates.bits13 (fun HT_ HW_ => ?_)
                        generalize (wc.drewN nd).drew = w76 at BK1951 BK1952 BK1965 HB hHeld ⊢
                        refine pureZ (i := 0) (N := some 81) (bs 29 1) HT_ ?_
                        refine pureZ (i := 1) (N := some 82) (bs 29 3) HT_ ?_
                        refine pureZ (i := 2) (N := some 83) (bs 29 7) HT_ ?_
                        refine pureZ (i := 3) (N := some 84) (bs 29 15) HT_ ?_
                        refine pureZ (i := 4) (N := some 85) (bs 29 31) HT_ ?_
                        refine pureZ (i := 5) (N := some 86) (bs 29 63) HT_ ?_
                        refine pureZ (i := 6) (N := some 87) (bs 29 127) HT_ ?_
                        refine pureZ (i := 8) (N := some 89) (bs 29 383) HT_ ?_
                        refine takeZ 7 (some 88) (bs 29 511) (take_ofW HT_.out HW_.out (by kernel_rfl)) hHeld ?_
                        refine pureZ (i := 9) (N := some 90) (bs 29 1023) HT_ ?_
                        refine pureZ (i := 10) (N := some 91) (bs 29 2047) HT_ ?_
                        refine pureZ (i := 11) (N := some 92) (bs 29 4095) HT_ ?_
                        refine pureZ (i := 12) (N := some 93) (bs 29 8191) HT_ ?_
                        refine pureZ (i := 13) (N := some 94) (bs 29 16383) HT_ ?_
                        refine pureZ (i := 14) (N := some 95) (bs 29 32767) HT_ ?_
                        refine pureZ (i := 15) (N := some 96) (bs 29 65535) HT_ ?_
                        refine pure_ (i := 16) (N := some 97) (v := undef) (a' := ?_) (bs 29 131071) rfl rfl (any_of HT_.out (by kernel_rfl)) (fun _ _ _ h => h) (Or.inr ⟨by rfl, rfl⟩) ?_ ?_
                        rotate_left
                        · exact pz
                        refine pure_ (i := 17) (N := some 98) (v := undef) (a' := ?_) (bs 29 262143) rfl rfl (any_of HT_.out (by kernel_rfl)) (fun _ _ _ h => h) (Or.inr ⟨by rfl, rfl⟩) ?_ ?_
                        rotate_left
                        · exact pz
                        refine pure_ (i := 18) (N := some 99) (v := undef) (a' := ?_) (bs 29 524287) rfl rfl (any_of HT_.out (by kernel_rfl)) (fun _ _ _ h => h) (Or.inr ⟨by rfl, rfl⟩) ?_ ?_
                        rotate_left
                        · exact pz
                        refine pure_ (i := 19) (N := some 100) (v := undef) (a' := ?_) (bs 29 1048575) rfl rfl (any_of HT_.out (by kernel_rfl)) (fun _ _ _ h => h) (Or.inr ⟨by rfl, rfl⟩) ?_ ?_
                        rotate_left
                        · exact pz
                        refine pure_ (i := 20) (N := some 101) (v := undef) (a' := ?_) (bs 29 2097151) rfl rfl (any_of HT_.out (by kernel_rfl)) (fun _ _ _ h => h) (Or.inr ⟨by rfl, rfl⟩) ?_ ?_
                        rotate_left
                        · exact pz
                        refine pure_ (i := 21) (N := some 102) (v := undef) (a' := ?_) (bs 29 4194303) rfl rfl (any_of HT_.out (by kernel_rfl)) (fun _ _ _ h => h) (Or.inr ⟨by rfl, rfl⟩) ?_ ?_
                        rotate_left
                        · exact pz
                        refine pure_ (i := 22) (N := some 103) (v := undef) (a' := ?_) (bs 29 8388607) rfl rfl (any_of HT_.out (by kernel_rfl)) (fun _ _ _ h => h) (Or.inr ⟨by rfl, rfl⟩) ?_ ?_
                        rotate_left
                        · exact pz
                        refine pure_ (i := 23) (N := some 104) (v := undef) (a' := ?_) (bs 29 16777215) rfl rfl (any_of HT_.out (by kernel_rfl)) (fun _ _ _ h => h) (Or.inr ⟨by rfl, rfl⟩) ?_ ?_
                        rotate_left
                        · exact pz
                        refine pure_ (i := 24) (N := some 105) (v := undef) (a' := ?_) (bs 29 33554431) rfl rfl (any_of HT_.out (by kernel_rfl)) (fun _ _ _ h => h) (Or.inr ⟨by rfl, rfl⟩) ?_ ?_
                        rotate_left
                        · exact pz
                        refine pure_ (i := 25) (N := some 106) (v := undef) (a' := ?_) (bs 29 67108863) rfl rfl (any_of HT_.out (by kernel_rfl)) (fun _ _ _ h => h) (Or.inr ⟨by rfl, rfl⟩) ?_ ?_
                        rotate_left
                        · exact pz
                        refine pure_ (i := 26) (N := some 107) (v := undef) (a' := ?_) (bs 29 134217727) rfl rfl (any_of HT_.out (by kernel_rfl)) (fun _ _ _ h => h) (Or.inr ⟨by rfl, rfl⟩) ?_ ?_
                        rotate_left
                        · exact pz
                        refine pureZ (i := 27) (N := some 108) (bs 29 268435455) HT_ ?_
                        refine pureZ (i := 28) (N := some 109) (bs 29 536870911) HT_ ?_
                        refine done_ (done_of HT_.out (by kernel_rfl)) ?_
                        try go_wp2
                        go_meet
                        case rel => exact ⟨_, (false), (by first | rfl | (simp; done) | (simp [*]; done)), H', ⟨by have := HJ5.out; have := HJ36.out; first | omega | exact Nat.le_refl _⟩, ⟨bk BK1951.out⟩, ⟨bk BK1952.out⟩, ⟨bk BK1965.out⟩, ⟨bz⟩⟩
                    · rw [if_neg c73] at H
                      have c73b0 := beq_eq_false_iff_ne.mpr c73
                      have c73b1 := bne_iff_ne.mpr c73
                      have H' := m0 H
                      clear H
                      try go_wp2
                      replace BK1951 := m0 (blk_drew (blk_drewN BK1951.out nd)); replace BK1952 := m0 (blk_drew (blk_drewN BK1952.out nd)); replace BK1965 := m0 (blk_drew (blk_drewN BK1965.out nd)); replace HB := m0 (below_drew1 (pw_below_drewN HB.out nd))
                      refine start_ (n := 29) (S := fun w' => True) (ds := []) #[false, false, false, false, false, false, false, false, false, false, false, false, false, false, false, false, false, false, false, false, false, false, false, false, false, false, false, false, false] (by kernel_rfl) rfl rfl trivial (fun hHeld => ?_); refine with_tabW Lw_LineRates.tab13 Lw_LineRates.bits13 (fun HT_ HW_ => ?_)
                      generalize (wc.drewN nd).drew = w77 at BK1951 BK1952 BK1965 HB hHeld ⊢
                      refine pureZ (i := 0) (N := some 81) (bs 29 1) HT_ ?_
                      refine pureZ (i := 1) (N := some 82) (bs 29 3) HT_ ?_
                      refine pureZ (i := 2) (N := some 83) (bs 29 7) HT_ ?_
                      refine pureZ (i := 3) (N := some 84) (bs 29 15) HT_ ?_
                      refine pureZ (i := 4) (N := some 85) (bs 29 31) HT_ ?_
                      refine pureZ (i := 5) (N := some 86) (bs 29 63) HT_ ?_
                      refine pureZ (i := 6) (N := some 87) (bs 29 127) HT_ ?_
                      refine pure_ (i := 7) (N := some 88) (v := undef) (a' := ?_) (bs 29 255) rfl rfl (any_of HT_.out (by kernel_rfl)) (fun _ _ _ h => h) (Or.inr ⟨by rfl, rfl⟩) ?_ ?_
                      rotate_left
                      · exact pz
                      refine pure_ (i := 8) (N := some 89) (v := undef) (a' := ?_) (bs 29 511) rfl rfl (any_of HT_.out (by kernel_rfl)) (fun _ _ _ h => h) (Or.inr ⟨by rfl, rfl⟩) ?_ ?_
                      rotate_left
                      · exact pz
                      refine pure_ (i := 9) (N := some 90) (v := undef) (a' := ?_) (bs 29 1023) rfl rfl (any_of HT_.out (by kernel_rfl)) (fun _ _ _ h => h) (Or.inr ⟨by rfl, rfl⟩) ?_ ?_
                      rotate_left
                      · exact pz
                      refine pureZ (i := 10) (N := some 91) (bs 29 2047) HT_ ?_
                      refine pureZ (i := 11) (N := some 92) (bs 29 4095) HT_ ?_
                      refine pureZ (i := 12) (N := some 93) (bs 29 8191) HT_ ?_
                      refine pure_ (i := 13) (N := some 94) (v := undef) (a' := ?_) (bs 29 16383) rfl rfl (any_of HT_.out (by kernel_rfl)) (fun _ _ _ h => h) (Or.inr ⟨by rfl, rfl⟩) ?_ ?_
                      rotate_left
                      · exact pz
                      refine pure_ (i := 14) (N := some 95) (v := undef) (a' := ?_) (bs 29 32767) rfl rfl (any_of HT_.out (by kernel_rfl)) (fun _ _ _ h => h) (Or.inr ⟨by rfl, rfl⟩) ?_ ?_
                      rotate_left
                      · exact pz
                      refine pure_ (i := 15) (N := some 96) (v := undef) (a' := ?_) (bs 29 65535) rfl rfl (any_of HT_.out (by kernel_rfl)) (fun _ _ _ h => h) (Or.inr ⟨by rfl, rfl⟩) ?_ ?_
                      rotate_left
                      · exact pz
                      refine pure_ (i := 16) (N := some 97) (v := undef) (a' := ?_) (bs 29 131071) rfl rfl (any_of HT_.out (by kernel_rfl)) (fun _ _ _ h => h) (Or.inr ⟨by rfl, rfl⟩) ?_ ?_
                      rotate_left
                      · exact pz
                      refine pure_ (i := 17) (N := some 98) (v := undef) (a' := ?_) (bs 29 262143) rfl rfl (any_of HT_.out (by kernel_rfl)) (fun _ _ _ h => h) (Or.inr ⟨by rfl, rfl⟩) ?_ ?_
                      rotate_left
                      · exact pz
                      refine pure_ (i := 18) (N := some 99) (v := undef) (a' := ?_) (bs 29 524287) rfl rfl (any_of HT_.out (by kernel_rfl)) (fun _ _ _ h => h) (Or.inr ⟨by rfl, rfl⟩) ?_ ?_
                      rotate_left
                      · exact pz
                      refine pure_ (i := 19) (N := some 100) (v := undef) (a' := ?_) (bs 29 1048575) rfl rfl (any_of HT_.out (by kernel_rfl)) (fun _ _ _ h => h) (Or.inr ⟨by rfl, rfl⟩) ?_ ?_
                      rotate_left
                      · exact pz
                      refine pure_ (i := 20) (N := some 101) (v := undef) (a' := ?_) (bs 29 2097151) rfl rfl (any_of HT_.out (by kernel_rfl)) (fun _ _ _ h => h) (Or.inr ⟨by rfl, rfl⟩) ?_ ?_
                      rotate_left
                      · exact pz
                      refine pure_ (i := 21) (N := some 102) (v := undef) (a' := ?_) (bs 29 4194303) rfl rfl (any_of HT_.out (by kernel_rfl)) (fun _ _ _ h => h) (Or.inr ⟨by rfl, rfl⟩) ?_ ?_
                      rotate_left
                      · exact pz
                      refine pure_ (i := 22) (N := some 103) (v := undef) (a' := ?_) (bs 29 8388607) rfl rfl (any_of HT_.out (by kernel_rfl)) (fun _ _ _ h => h) (Or.inr ⟨by rfl, rfl⟩) ?_ ?_
                      rotate_left
                      · exact pz
                      refine pure_ (i := 23) (N := some 104) (v := undef) (a' := ?_) (bs 29 16777215) rfl rfl (any_of HT_.out (by kernel_rfl)) (fun _ _ _ h => h) (Or.inr ⟨by rfl, rfl⟩) ?_ ?_
                      rotate_left
                      · exact pz
                      refine pure_ (i := 24) (N := some 105) (v := undef) (a' := ?_) (bs 29 33554431) rfl rfl (any_of HT_.out (by kernel_rfl)) (fun _ _ _ h => h) (Or.inr ⟨by rfl, rfl⟩) ?_ ?_
                      rotate_left
                      · exact pz
                      refine pure_ (i := 25) (N := some 106) (v := undef) (a' := ?_) (bs 29 67108863) rfl rfl (any_of HT_.out (by kernel_rfl)) (fun _ _ _ h => h) (Or.inr ⟨by rfl, rfl⟩) ?_ ?_
                      rotate_left
                      · exact pz
                      refine pure_ (i := 26) (N := some 107) (v := undef) (a' := ?_) (bs 29 134217727) rfl rfl (any_of HT_.out (by kernel_rfl)) (fun _ _ _ h => h) (Or.inr ⟨by rfl, rfl⟩) ?_ ?_
                      rotate_left
                      · exact pz
                      refine pure_ (i := 27) (N := some 108) (v := undef) (a' := ?_) (bs 29 268435455) rfl rfl (any_of HT_.out (by kernel_rfl)) (fun _ _ _ h => h) (Or.inr ⟨by rfl, rfl⟩) ?_ ?_
                      rotate_left
                      · exact pz
                      refine pureZ (i := 28) (N := some 109) (bs 29 536870911) HT_ ?_
                      refine done_ (done_of HT_.out (by kernel_rfl)) ?_
                      try go_wp2
                      go_meet
                      case rel => exact ⟨_, (true), (by first | rfl | (simp; done) | (simp [*]; done)), H', ⟨by have := HJ5.out; have := HJ36.out; first | omega | exact Nat.le_refl _⟩, ⟨bk BK1951.out⟩, ⟨bk BK1952.out⟩, ⟨bk BK1965.out⟩, ⟨bz⟩⟩
                case rest =>
                  clear HC63
                  try clear p2
                  try clear c7
                  try clear c73
                  try clear c73b0
                  try clear c73b1
                  try clear c74
                  try clear c74b0
                  obtain ⟨kq, x109_62, rfl, HA, HJ62, BK1951, BK1952, BK1965, HB⟩ := hcut
                  cases kq with
                  | zero => exact absurd HA.out (by simp [Lw_LineRates.j2])
                  | succ kj62 =>
                    have H := HA.out
                    clear HA
                    simp only [Lw_LineRates.j2] at H
                    by_cases c78 : x109_62 = true
                    · subst c78
                      rw [if_pos rfl] at H
                      exact absurd H (by simp)
                    · replace c78 := Bool.eq_false_iff.mpr c78
                      subst c78
                      rw [if_neg (show ¬ (false = true) by decide)] at H
                      replace H := ob H
                      obtain ⟨t1976, A790, H⟩ := H
                      (try dsimp only at H)
                      have A79 := m0 A790
                      clear A790
                      by_cases c80 : t1976 = true
                      · subst c80
                        rw [if_pos rfl] at H
                        by_cases c81 : t1970 = 0
                        · rw [if_pos c81] at H
                          have c81b0 := beq_iff_eq.mpr c81
                          have c81b1 := bne_eq_false_iff_eq.mpr c81
                          clear c81
                          replace H := ob H
                          obtain ⟨t1977, A820, H⟩ := H
                          (try dsimp only at H)
                          have A82 := m0 A820
                          clear A820
                          obtain rfl := Option.some.inj H
                          have hnb83 := NB1952_1951.out
                          have hnc83 := NB1951_1952.out
                          have hnb84 := NB1952_1965.out
                          have hnc84 := NB1965_1952.out
                          obtain ⟨_, _, _, _⟩ := b2 BK1952
                          go_wp2_with (first | ((with_reducible refine gate_callee (f := 31) rfl ?_); refine gl (some 112) Tryd.func31 #[.int .i64 a2_1, .int .i64 0, .int .i64 1000] ?_; (with_reducible refine (Bs_Within.calls a2_1 0 1000 true _ A79.out).mono ?_); rintro e w' ⟨rfl, ⟨nd, rfl⟩⟩; refine ⟨_, rfl, ?_⟩; have hnb86 := NB1951_1965.out; have hnc86 := NB1965_1951.out; obtain ⟨_, _⟩ := b1 BK1951) | (go_at_call 87; (with_reducible refine (Rf_Threshold.calls kj62 _ _ l0_0 a1 a2_1 t1977 _ ?side1 ?side2 A82.out).mono ?_); (case side1 => repeat (first | exact (Kd.C_below HR0_0.out bz) | (with_reducible refine Kd.C_alloc ?_ _) | (with_reducible refine Kd.C_drewN ?_ _) | (with_reducible refine Kd.C_drew ?_))); (case side2 => exact HC0_0.out); rintro e w88 ⟨rfl, hb⟩; replace BK1951 := bb BK1951 hb; replace BK1952 := bb BK1952 hb; replace BK1965 := bb BK1965 hb; replace HB := sb HB hb; (try clear hb)))
                          go_ret
                          exact ez
                        · rw [if_neg c81] at H
                          exact absurd H (by simp)
                      · replace c80 := Bool.eq_false_iff.mpr c80
                        subst c80
                        rw [if_neg (show ¬ (false = true) by decide)] at H
                        by_cases c89 : t1970 = 2
                        · rw [if_pos c89] at H
                          have c89b0 := beq_iff_eq.mpr c89
                          have c89b1 := bne_eq_false_iff_eq.mpr c89
                          clear c89
                          obtain rfl := Option.some.inj H
                          have hnb90 := NB1952_1951.out
                          have hnc90 := NB1951_1952.out
                          have hnb91 := NB1952_1965.out
                          have hnc91 := NB1965_1952.out
                          obtain ⟨_, _, _, _⟩ := b2 BK1952
                          go_wp2_with (first | ((with_reducible refine gate_callee (f := 31) rfl ?_); refine gl (some 112) Tryd.func31 #[.int .i64 a2_1, .int .i64 0, .int .i64 1000] ?_; (with_reducible refine (Bs_Within.calls a2_1 0 1000 false _ A79.out).mono ?_); rintro e w' ⟨rfl, ⟨nd, rfl⟩⟩; refine ⟨_, rfl, ?_⟩))
                          go_ret
                          exact ez
                        · rw [if_neg c89] at H
                          exact absurd H (by simp)
              · rw [if_neg c61] at H
                have c61b0 := beq_eq_false_iff_ne.mpr c61
                have c61b1 := bne_iff_ne.mpr c61
                by_cases c93 : t1964 = x11_36
                · rw [if_pos c93] at H
                  have c93b0 := beq_iff_eq.mpr c93
                  have c93b1 := bne_eq_false_iff_eq.mpr c93
                  clear c93
                  by_cases c94 : t1970 = x11_36
                  · rw [if_pos c94] at H
                    have c94b0 := beq_iff_eq.mpr c94
                    have c94b1 := bne_eq_false_iff_eq.mpr c94
                    clear c94
                    by_cases c95 : (t1962 == 0 && (t1963 == 0)) = true
                    · rw [if_pos c95] at H
                      have c95b0 : (t1962 == 0 && (t1963 == 0)) = true := c95
                      (try (have c95b1 : decide (t1962 = 0 && (t1963 == 0)) = true := by simpa using c95))
                      (try (have c95b2 : (t1962 == 0 && (t1963 == 0)) = true := by simpa using c95))
                      clear c95
                      obtain rfl := Option.some.inj H
                      have hnb96 := NB1965_1951.out
                      have hnc96 := NB1951_1965.out
                      have hnb97 := NB1965_1952.out
                      have hnc97 := NB1952_1965.out
                      obtain ⟨_, _, _, _⟩ := b2 BK1965
                      go_wp2
                      go_ret
                      exact ez
                    · rw [if_neg c95] at H
                      exact absurd H (by simp)
                  · rw [if_neg c94] at H
                    exact absurd H (by simp)
                · rw [if_neg c93] at H
                  exact absurd H (by simp)
  · replace c5 := Bool.eq_false_iff.mpr c5
    subst c5
    rw [if_neg (show ¬ (false = true) by decide)] at H
    exact absurd H (by simp)
end Go.Proofs.YtjnkphmcndaijaaDoor.A
