/- Walks of the program's functions (printed, made shorter), each with what it computes. -/
import Derived.Test.YtjnkphmcndaijaaDoorPro04
import Derived.Test.YtjnkphmcndaijaaDoorPro12
import Derived.Test.YtjnkphmcndaijaaDoorPro15
import Derived.Test.YtjnkphmcndaijaaDoorPro16
import Derived.Test.YtjnkphmcndaijaaDoorPro03
import Derived.Test.YtjnkphmcndaijaaDoorPro13
import Derived.Test.YtjnkphmcndaijaaDoorPro14
namespace Go.Proofs.YtjnkphmcndaijaaDoor.A
set_option maxHeartbeats 8000000
set_option maxRecDepth 100000
open Go.RowKit Go.Proofs.YtjnkphmcndaijaaDoorW.PrintWords Go.Proofs.YtjnkphmcndaijaaDoorW.PrintLast Go.Proofs.YtjnkphmcndaijaaDoorW.PrintMore
attribute [local go_sem] max2_int min2_int max_two min_two max_three min_three max_four min_four
set_option linter.unusedVariables false
set_option linter.unusedSimpArgs false
section
attribute [local go_sem high] eqA26
mutual
def Rf_CheckWorst.j0 : Nat → Int → Bool → List Int → List Int → Int → Int → Int → Int → Int → Option (Int × Int)
  | 0, _, _, _, _, _, _, _, _, _ => none
  | k + 1, x1, x18, x1346000, x1346001, x1346002, x1346003, x1347000, x1347001, x1347002 => if x18 = true then (some (0, 3)) else ((Rf_Cases.f k x1346001 (x1346000.length : Int)).bind fun t1348 => ((Bs_Within.f x1347002 0 (wrap64 (t1348 - 1))).bind fun t1349 => (if t1349 = true then ((Rf_Off.f k x1346000 x1346001 x1346002 x1346003 x1 x1347002).bind fun bt1350 => (if (!(bt1350.1 == x1347000) || (!(bt1350.2 == x1347001))) = true then (some (0, 13)) else (Rf_CheckWorst.l0 k x1 0 x1346000 x1346001 x1346002 x1346003 x1347000 x1347001 x1347002))) else (some (0, 6)))))
def Rf_CheckWorst.l0 : Nat → Int → Int → List Int → List Int → Int → Int → Int → Int → Int → Option (Int × Int)
  | 0, _, _, _, _, _, _, _, _, _ => none
  | k + 1, x1, x8, x1346000, x1346001, x1346002, x1346003, x1347000, x1347001, x1347002 => (Rf_Cases.f k x1346001 (x1346000.length : Int)).bind fun t1352 => (if x8 < t1352 then ((Rf_Off.f k x1346000 x1346001 x1346002 x1346003 x1 x8).bind fun bt1353 => ((Bs_Cmp.f bt1353.1 bt1353.2 x1347000 x1347001).bind fun t1355 => (if t1355 > 0 then (some (x8, 17)) else (Rf_CheckWorst.l0 k x1 (wrap64 (x8 + 1)) x1346000 x1346001 x1346002 x1346003 x1347000 x1347001 x1347002)))) else (some (0, 0)))
end
def Rf_CheckWorst.f (k : Nat) (l0_0 : List Int) (l0_1 : List Int) (a0_2 : Int) (a0_3 : Int) (a1 : Int) (a2_0 : Int) (a2_1 : Int) (a2_2 : Int) : Option (Int × Int) := (Bs_IsLowest.f k a2_0 a2_1).bind fun t1347 => (if t1347 = true then (Rf_CheckWorst.j0 k a1 (decide (a2_0 < 0)) l0_0 l0_1 a0_2 a0_3 a2_0 a2_1 a2_2) else (Rf_CheckWorst.j0 k a1 true l0_0 l0_1 a0_2 a0_3 a2_0 a2_1 a2_2))
theorem Rf_CheckWorst.mono_l : ∀ k, (∀ y0 y1 y2 y3 y4 y5 y6 y7 y8, LeO (Rf_CheckWorst.j0 k y0 y1 y2 y3 y4 y5 y6 y7 y8) (Rf_CheckWorst.j0 (k + 1) y0 y1 y2 y3 y4 y5 y6 y7 y8)) ∧ (∀ y0 y1 y2 y3 y4 y5 y6 y7 y8, LeO (Rf_CheckWorst.l0 k y0 y1 y2 y3 y4 y5 y6 y7 y8) (Rf_CheckWorst.l0 (k + 1) y0 y1 y2 y3 y4 y5 y6 y7 y8))
  | 0 => ⟨fun _ _ _ _ _ _ _ _ _ r h => by simp [Rf_CheckWorst.j0] at h, fun _ _ _ _ _ _ _ _ _ r h => by simp [Rf_CheckWorst.l0] at h⟩
  | k + 1 => by
    obtain ⟨ih0, ih1⟩ := Rf_CheckWorst.mono_l k
    refine ⟨?_, ?_⟩
    · intro y0 y1 y2 y3 y4 y5 y6 y7 y8
      unfold Rf_CheckWorst.j0
      repeat' first
      | (with_reducible exact ih0 _ _ _ _ _ _ _ _ _)
      | (with_reducible exact ih1 _ _ _ _ _ _ _ _ _)
      | (with_reducible exact Bs_IsLowest.mono _ _ _)
      | (with_reducible exact Rf_Cases.mono _ _ _)
      | (with_reducible exact Rf_Off.mono _ _ _ _ _ _ _)
      | (with_reducible exact LeO.refl _)
      | (with_reducible exact LeO.none _)
      | (with_reducible refine LeO.ite ?_ ?_)
      | (with_reducible refine LeO.bind ?_ (fun _ => ?_))
      | exact ih0 _ _ _ _ _ _ _ _ _
      | exact ih1 _ _ _ _ _ _ _ _ _
      | exact Bs_IsLowest.mono _ _ _
      | exact Rf_Cases.mono _ _ _
      | exact Rf_Off.mono _ _ _ _ _ _ _
      | exact LeO.none _
      | refine LeO.ite ?_ ?_
      | refine LeO.bind ?_ (fun _ => ?_)
    · intro y0 y1 y2 y3 y4 y5 y6 y7 y8
      unfold Rf_CheckWorst.l0
      repeat' first
      | (with_reducible exact ih0 _ _ _ _ _ _ _ _ _)
      | (with_reducible exact ih1 _ _ _ _ _ _ _ _ _)
      | (with_reducible exact Bs_IsLowest.mono _ _ _)
      | (with_reducible exact Rf_Cases.mono _ _ _)
      | (with_reducible exact Rf_Off.mono _ _ _ _ _ _ _)
      | (with_reducible exact LeO.refl _)
      | (with_reducible exact LeO.none _)
      | (with_reducible refine LeO.ite ?_ ?_)
      | (with_reducible refine LeO.bind ?_ (fun _ => ?_))
      | exact ih0 _ _ _ _ _ _ _ _ _
      | exact ih1 _ _ _ _ _ _ _ _ _
      | exact Bs_IsLowest.mono _ _ _
      | exact Rf_Cases.mono _ _ _
      | exact Rf_Off.mono _ _ _ _ _ _ _
      | exact LeO.none _
      | refine LeO.ite ?_ ?_
      | refine LeO.bind ?_ (fun _ => ?_)
theorem Rf_CheckWorst.mono : ∀ a0 a1 a2 a3 a4 a5 a6 a7 k, LeO (Rf_CheckWorst.f k a0 a1 a2 a3 a4 a5 a6 a7) (Rf_CheckWorst.f (k + 1) a0 a1 a2 a3 a4 a5 a6 a7) := by
  intro a0 a1 a2 a3 a4 a5 a6 a7 k
  obtain ⟨ih0, ih1⟩ := Rf_CheckWorst.mono_l k
  unfold Rf_CheckWorst.f
  repeat' first
      | (with_reducible exact ih0 _ _ _ _ _ _ _ _ _)
      | (with_reducible exact ih1 _ _ _ _ _ _ _ _ _)
      | (with_reducible exact Bs_IsLowest.mono _ _ _)
      | (with_reducible exact Rf_Cases.mono _ _ _)
      | (with_reducible exact Rf_Off.mono _ _ _ _ _ _ _)
      | (with_reducible exact LeO.refl _)
      | (with_reducible exact LeO.none _)
      | (with_reducible refine LeO.ite ?_ ?_)
      | (with_reducible refine LeO.bind ?_ (fun _ => ?_))
      | exact ih0 _ _ _ _ _ _ _ _ _
      | exact ih1 _ _ _ _ _ _ _ _ _
      | exact Bs_IsLowest.mono _ _ _
      | exact Rf_Cases.mono _ _ _
      | exact Rf_Off.mono _ _ _ _ _ _ _
      | exact LeO.none _
      | refine LeO.ite ?_ ?_
      | refine LeO.bind ?_ (fun _ => ?_)
def Rf_CheckWorst.T3 : Bool × List (List Nat × List Nat) := (true, [([], []), ([0], [0]), ([], []), ([2], [2]), ([], []), ([4], [4]), ([5], [5]), ([3, 6], [3, 6]), ([7], [7]), ([1, 8, 7], [1, 8]), ([9], [9])])
def Rf_CheckWorst.B3 : List Nat := [0, 1, 0, 4, 0, 16, 48, 124, 252, 511, 1023]
theorem Rf_CheckWorst.tab3 : rtab .any (opsOf Tryd.f70 3) = Rf_CheckWorst.T3 := by kernel_rfl
theorem Rf_CheckWorst.bits3 : waitsOk Rf_CheckWorst.T3.2 Rf_CheckWorst.B3 = true := by kernel_rfl
def Rf_CheckWorst.T5 : Bool × List (List Nat × List Nat) := (true, [([], []), ([], []), ([], []), ([2], [2]), ([0, 1, 3], [0, 1, 3]), ([], []), ([5], [5]), ([4, 6], [4, 6])])
def Rf_CheckWorst.B5 : List Nat := [0, 0, 0, 4, 15, 0, 32, 127]
theorem Rf_CheckWorst.tab5 : rtab .any (opsOf Tryd.f70 5) = Rf_CheckWorst.T5 := by kernel_rfl
theorem Rf_CheckWorst.bits5 : waitsOk Rf_CheckWorst.T5.2 Rf_CheckWorst.B5 = true := by kernel_rfl
def Rf_CheckWorst.T10 : Bool × List (List Nat × List Nat) := (true, [([], []), ([], []), ([], []), ([0, 1, 2], [0, 1, 2]), ([], []), ([4], [4]), ([3, 5, 3], [3, 5]), ([6], [6])])
def Rf_CheckWorst.B10 : List Nat := [0, 0, 0, 7, 0, 16, 63, 127]
theorem Rf_CheckWorst.tab10 : rtab .any (opsOf Tryd.f70 10) = Rf_CheckWorst.T10 := by kernel_rfl
theorem Rf_CheckWorst.bits10 : waitsOk Rf_CheckWorst.T10.2 Rf_CheckWorst.B10 = true := by kernel_rfl
theorem Rf_CheckWorst.calls (k : Nat) (A0_0 : Option Addr) (c0_0 : Nat) (l0_0 : List Int) (A0_1 : Option Addr) (c0_1 : Nat) (l0_1 : List Int) (a0_2 : Int) (a0_3 : Int) (a1 : Int) (a2_0 : Int) (a2_1 : Int) (a2_2 : Int) (r1 : Int) (r2 : Int) (w : World) (hr0_0 : Kd.C (Kd.int .i64) w A0_0 l0_0.length l0_0) (hc0_0 : l0_0.length ≤ c0_0) (hr0_1 : Kd.C (Kd.int .i64) w A0_1 l0_1.length l0_1) (hc0_1 : l0_1.length ≤ c0_1) (h : Rf_CheckWorst.f k l0_0 l0_1 a0_2 a0_3 a1 a2_0 a2_1 a2_2 = some (r1, r2)) :
    Calls Tryd.prog 70 #[.agg #[.slice A0_0 l0_0.length c0_0, .slice A0_1 l0_1.length c0_1, .int .i64 a0_2, .int .i64 a0_3], .int .i64 a1, .agg #[.int .i64 a2_0, .int .i64 a2_1, .int .i64 a2_2]] w fun e w' => e = .returned (.tuple #[.int .i64 r1, .int .i64 r2]) ∧ Below w.heap.size w w' := by
  have hu28 := Tryd.underlying28
  have hu36 := Tryd.underlying36
  have hu26 := Tryd.underlying26
  have hu24 := Tryd.underlying24
  have HR0_0 := m0 hr0_0
  have HC0_0 := m0 hc0_0
  clear hr0_0 hc0_0
  have HR0_1 := m0 hr0_1
  have HC0_1 := m0 hc0_1
  clear hr0_1 hc0_1
  have HB := m0 (Below.refl w.heap.size w)
  have H : ((Bs_IsLowest.f k a2_0 a2_1).bind fun t1347 => (if t1347 = true then (Rf_CheckWorst.j0 k a1 (decide (a2_0 < 0)) l0_0 l0_1 a0_2 a0_3 a2_0 a2_1 a2_2) else (Rf_CheckWorst.j0 k a1 true l0_0 l0_1 a0_2 a0_3 a2_0 a2_1 a2_2))) = some (r1, r2) := h
  clear h
  have HC4 := m0 H
  clear H
  go_enter Tryd.func70, Tryd.ntmps70
  go_upto_region 1 with (first | ((with_reducible refine gate_dst (N := 3) rfl ?_); refine be 3 28 #[.slice A0_0 l0_0.length c0_0, .slice A0_1 l0_1.length c0_1, .int .i64 a0_2, .int .i64 a0_3] ?_; intro gb1345 hg w5 hbox hb; have BK1345 := m0 hbox; have GW1345 := m0 (bg (n := w.heap.size) hg); have GE1345 := m0 (bg (n := w.heap.size) hg); replace HB := sb HB hb; clear hb hbox hg) | ((with_reducible refine gate_dst (N := 5) rfl ?_); refine be 5 36 #[.int .i64 a2_0, .int .i64 a2_1, .int .i64 a2_2] ?_; intro gb1346 hg w6 hbox hb; have BK1346 := m0 hbox; have GW1346 := m0 (bg (n := w.heap.size) hg); have GE1346 := m0 (bg (n := w.heap.size) hg); replace HB := sb HB hb; have NB1345_1346 := nl BK1345 hg; have NB1346_1345 := ng (nl BK1345 hg); replace BK1345 := bb BK1345 hb; clear hb hbox hg))
  (try simp only [Act.put, List.setIfInBounds_toArray, List.set_cons_zero, List.set_cons_succ])
  go_cut [18] (fun v18 wc => ∃ (kq : Nat) (x18_3 : Bool), v18 = .bool x18_3 ∧ Aside0 (Rf_CheckWorst.j0 kq a1 x18_3 l0_0 l0_1 a0_2 a0_3 a2_0 a2_1 a2_2 = some (r1, r2)) ∧ Aside0 (kq ≤ k) ∧ Aside0 (wc.heap[gb1345]? = some (.cells #[(.slice A0_0 l0_0.length c0_0), (.slice A0_1 l0_1.length c0_1), .int .i64 a0_2, .int .i64 a0_3] 28 (0, 0))) ∧ Aside0 (wc.heap[gb1346]? = some (.cells #[.int .i64 a2_0, .int .i64 a2_1, .int .i64 a2_2] 36 (0, 0))) ∧ Aside0 (Below w.heap.size w wc))
  case first =>
    have H := HC4.out
    clear HC4
    replace H := ob H
    obtain ⟨t1347, A70, H⟩ := H
    (try dsimp only at H)
    have A7 := m0 A70
    clear A70
    by_cases c8 : t1347 = true
    · subst c8
      rw [if_pos rfl] at H
      have H' := m0 H
      clear H
      have hnb9 := NB1346_1345.out
      have hnc9 := NB1345_1346.out
      obtain ⟨hcz10_0, hcz10_1, hcz10_2, hfz10_0, hfz10_1, hfz10_2⟩ := b3 BK1346
      go_wp2_with (first | ((with_reducible refine gate_callee (f := 35) rfl ?_); refine gl (some 11) Tryd.func35 #[.agg #[.int .i64 a2_0, .int .i64 a2_1]] ?_; (with_reducible refine (Bs_IsLowest.calls k a2_0 a2_1 true _ A7.out).mono ?_); rintro e w11 ⟨rfl, hb⟩; refine ⟨_, rfl, ?_⟩; replace BK1345 := bb BK1345 hb; replace BK1346 := bb BK1346 hb; replace HB := sb HB hb; (try clear hb); obtain ⟨hcz12_0, hcz12_1, hcz12_2, hfz12_0, hfz12_1, hfz12_2⟩ := b3 BK1346))
      go_meet
      case rel => exact ⟨_, (decide (a2_0 < 0)), (by first | rfl | (simp; done) | (simp [*]; done)), H', ⟨by first | omega | exact Nat.le_refl _⟩, ⟨bk BK1345.out⟩, ⟨bk BK1346.out⟩, ⟨bz⟩⟩
    · replace c8 := Bool.eq_false_iff.mpr c8
      subst c8
      rw [if_neg (show ¬ (false = true) by decide)] at H
      have H' := m0 H
      clear H
      have hnb13 := NB1346_1345.out
      have hnc13 := NB1345_1346.out
      obtain ⟨hcz14_0, hcz14_1, hcz14_2, hfz14_0, hfz14_1, hfz14_2⟩ := b3 BK1346
      go_wp2_with (first | ((with_reducible refine gate_callee (f := 35) rfl ?_); refine gl (some 11) Tryd.func35 #[.agg #[.int .i64 a2_0, .int .i64 a2_1]] ?_; (with_reducible refine (Bs_IsLowest.calls k a2_0 a2_1 false _ A7.out).mono ?_); rintro e w15 ⟨rfl, hb⟩; refine ⟨_, rfl, ?_⟩; replace BK1345 := bb BK1345 hb; replace BK1346 := bb BK1346 hb; replace HB := sb HB hb; (try clear hb)))
      go_meet
      case rel => exact ⟨_, (true), (by first | rfl | (simp; done) | (simp [*]; done)), H', ⟨by first | omega | exact Nat.le_refl _⟩, ⟨bk BK1345.out⟩, ⟨bk BK1346.out⟩, ⟨bz⟩⟩
  case rest =>
    clear HC4
    try clear c1
    try clear p2
    try clear c3
    try clear c7
    try clear c8
    try clear c9
    try clear c13
    try clear hcz10_0
    try clear hcz10_1
    try clear hcz10_2
    try clear hcz12_0
    try clear hcz12_1
    try clear hcz12_2
    try clear hcz14_0
    try clear hcz14_1
    try clear hcz14_2
    try clear hfz10_0
    try clear hfz10_1
    try clear hfz10_2
    try clear hfz12_0
    try clear hfz12_1
    try clear hfz12_2
    try clear hfz14_0
    try clear hfz14_1
    try clear hfz14_2
    obtain ⟨kq, x18_3, rfl, HA, HJ3, BK1345, BK1346, HB⟩ := hcut
    cases kq with
    | zero => exact absurd HA.out (by simp [Rf_CheckWorst.j0])
    | succ kj3 =>
      have H := HA.out
      clear HA
      simp only [Rf_CheckWorst.j0] at H
      by_cases c16 : x18_3 = true
      · subst c16
        rw [if_pos rfl] at H
        simp only [Option.some.injEq, Prod.mk.injEq] at H
        obtain ⟨rfl, rfl⟩ := H
        go_wp2
        go_ret2
        exact ez
      · replace c16 := Bool.eq_false_iff.mpr c16
        subst c16
        rw [if_neg (show ¬ (false = true) by decide)] at H
        replace H := ob H
        obtain ⟨t1348, A170, H⟩ := H
        (try dsimp only at H)
        have A17 := m0 A170
        clear A170
        replace H := ob H
        obtain ⟨t1349, A180, H⟩ := H
        (try dsimp only at H)
        have A18 := m0 A180
        clear A180
        by_cases c19 : t1349 = true
        · subst c19
          rw [if_pos rfl] at H
          replace H := ob H
          obtain ⟨⟨t1350, t1351⟩, A200, H⟩ := H
          (try dsimp only at H)
          have A20 := m0 A200
          clear A200
          by_cases c21 : (!(t1350 == a2_0) || (!(t1351 == a2_1))) = true
          · rw [if_pos c21] at H
            have c21b0 : (!(t1350 == a2_0) || (!(t1351 == a2_1))) = true := c21
            clear c21
            simp only [Option.some.injEq, Prod.mk.injEq] at H
            obtain ⟨rfl, rfl⟩ := H
            try go_wp2
            replace BK1345 := bd BK1345; replace BK1346 := bd BK1346; replace HB := sd HB
            refine start_ (n := 11) (S := fun w' => w'.cell? ⟨gb1346, 0, none⟩ = some (.int .i64 a2_0) ∧ w'.cell? ⟨gb1346, 1, none⟩ = some (.int .i64 a2_1) ∧ w'.cell? ⟨gb1346, 2, none⟩ = some (.int .i64 a2_2) ∧ w'.cell? ⟨gb1345, 0, none⟩ = some (.slice A0_0 l0_0.length c0_0) ∧ w'.cell? ⟨gb1345, 1, none⟩ = some (.slice A0_1 l0_1.length c0_1) ∧ w'.cell? ⟨gb1345, 2, none⟩ = some (.int .i64 a0_2) ∧ w'.cell? ⟨gb1345, 3, none⟩ = some (.int .i64 a0_3)) (ds := []) #[false, false, false, false, false, false, false, false, false, false, false] (by kernel_rfl) rfl rfl cz (fun hHeld => ?_); refine with_tabW Rf_CheckWorst.tab3 Rf_CheckWorst.bits3 (fun HT_ HW_ => ?_)
            generalize wc.drew = w22 at BK1345 BK1346 HB hHeld ⊢
            refine pureZ (i := 0) (N := some 19) #[true, false, false, false, false, false, false, false, false, false, false] HT_ ?_
            refine pureZ (i := 2) (N := some 21) #[true, false, true, false, false, false, false, false, false, false, false] HT_ ?_
            refine pureZ (i := 4) (N := some 23) #[true, false, true, false, true, false, false, false, false, false, false] HT_ ?_
            refine takeZ 1 (some 20) #[true, true, true, false, true, false, false, false, false, false, false] (take_ofW HT_.out HW_.out (by kernel_rfl)) hHeld ?_
            refine takeZ 3 (some 22) #[true, true, true, true, true, false, false, false, false, false, false] (take_ofW HT_.out HW_.out (by kernel_rfl)) hHeld ?_
            refine takeZ 5 (some 24) #[true, true, true, true, true, true, false, false, false, false, false] (take_ofW HT_.out HW_.out (by kernel_rfl)) hHeld ?_
            refine pureZ (i := 6) (N := some 25) #[true, true, true, true, true, true, true, false, false, false, false] HT_ ?_
            refine oneZ 7 (some 26) #[true, true, true, true, true, true, true, true, false, false, false] (one_of HT_.out (by kernel_rfl)) fun K hK => ?_
            refine goes_ Tryd.func56 (by kernel_rfl) rfl #[.agg #[.slice A0_1 l0_1.length c0_1], .int .i64 (l0_0.length : Int)] (by rfl) rfl rfl mz ?_
            with_reducible refine (Rf_Cases.calls kj3 _ _ l0_1 (l0_0.length : Int) t1348 _ ?side1 ?side2 A17.out).mono ?_
            (case side1 => exact cb HR0_1 HB)
            (case side2 => exact HC0_1.out)
            rintro e w23 ⟨rfl, hb⟩
            refine ⟨_, rfl, ?_⟩
            replace BK1345 := bb BK1345 hb; replace BK1346 := bb BK1346 hb; replace HB := sb HB hb
            (try clear hb)
            refine hK.out _ _ cz (fun hHeld => ?_)
            clear hK K
            refine norm_ (a' := ?_) ?_ ?_
            rotate_left
            · show Act.put _ (some 26) _ = _
              exact pz
            refine pureZ (i := 8) (N := some 27) #[true, true, true, true, true, true, true, true, true, false, false] HT_ ?_
            refine oneZ 9 (some 28) #[true, true, true, true, true, true, true, true, true, true, false] (one_of HT_.out (by kernel_rfl)) fun K hK => ?_
            refine goes_ Tryd.func31 (by kernel_rfl) rfl #[.int .i64 a2_2, .int .i64 0, .int .i64 (wrap64 (t1348 - 1))] (by rfl) rfl rfl mz ?_
            with_reducible refine (Bs_Within.calls a2_2 0 (wrap64 (t1348 - 1)) true _ A18.out).mono ?_
            rintro e w' ⟨rfl, ⟨nd, rfl⟩⟩
            refine ⟨_, rfl, ?_⟩
            refine hK.out _ _ cz (fun hHeld => ?_)
            clear hK K
            refine norm_ (a' := ?_) ?_ ?_
            rotate_left
            · show Act.put _ (some 28) _ = _
              exact pz
            refine pureZ (i := 10) (N := some 29) #[true, true, true, true, true, true, true, true, true, true, true] HT_ ?_
            refine done_ (done_of HT_.out (by kernel_rfl)) ?_
            try go_wp2
            (try (rw [drewN_self w23]; generalize hq_ : World.drewN w23 _ = w23; replace BK1345 := gd BK1345 hq_; replace BK1346 := gd BK1346 hq_; replace HB := gs HB hq_; clear hq_))
            replace BK1345 := bd BK1345; replace BK1346 := bd BK1346; replace HB := sd HB
            refine start_ (n := 8) (S := fun w' => w'.cell? ⟨gb1345, 0, none⟩ = some (.slice A0_0 l0_0.length c0_0) ∧ w'.cell? ⟨gb1345, 1, none⟩ = some (.slice A0_1 l0_1.length c0_1) ∧ w'.cell? ⟨gb1345, 2, none⟩ = some (.int .i64 a0_2) ∧ w'.cell? ⟨gb1345, 3, none⟩ = some (.int .i64 a0_3) ∧ w'.cell? ⟨gb1346, 0, none⟩ = some (.int .i64 a2_0) ∧ w'.cell? ⟨gb1346, 1, none⟩ = some (.int .i64 a2_1) ∧ w'.cell? ⟨gb1346, 2, none⟩ = some (.int .i64 a2_2)) (ds := []) #[false, false, false, false, false, false, false, false] (by kernel_rfl) rfl rfl cz (fun hHeld => ?_); refine with_tabW Rf_CheckWorst.tab5 Rf_CheckWorst.bits5 (fun HT_ HW_ => ?_)
            generalize w23.drew = w24 at BK1345 BK1346 HB hHeld ⊢
            refine pureZ (i := 1) (N := some 31) #[false, true, false, false, false, false, false, false] HT_ ?_
            refine pureZ (i := 2) (N := some 32) #[false, true, true, false, false, false, false, false] HT_ ?_
            refine pureZ (i := 5) (N := some 35) #[false, true, true, false, false, true, false, false] HT_ ?_
            refine takeZ 0 (some 30) #[true, true, true, false, false, true, false, false] (take_ofW HT_.out HW_.out (by kernel_rfl)) hHeld ?_
            refine takeZ 3 (some 33) #[true, true, true, true, false, true, false, false] (take_ofW HT_.out HW_.out (by kernel_rfl)) hHeld ?_
            refine takeZ 6 (some 36) #[true, true, true, true, false, true, true, false] (take_ofW HT_.out HW_.out (by kernel_rfl)) hHeld ?_
            refine oneZ 4 (some 34) #[true, true, true, true, true, true, true, false] (one_of HT_.out (by kernel_rfl)) fun K hK => ?_
            refine goes_ Tryd.func99 (by kernel_rfl) rfl #[.agg #[.slice A0_0 l0_0.length c0_0, .slice A0_1 l0_1.length c0_1, .int .i64 a0_2, .int .i64 a0_3], .int .i64 a1, .int .i64 a2_2] (by rfl) rfl rfl mz ?_
            with_reducible refine (Rf_Off.calls kj3 _ _ l0_0 _ _ l0_1 a0_2 a0_3 a1 a2_2 t1350 t1351 _ ?side1 ?side2 ?side3 ?side4 A20.out).mono ?_
            (case side1 => exact cb HR0_0 HB)
            (case side2 => exact HC0_0.out)
            (case side3 => exact cb HR0_1 HB)
            (case side4 => exact HC0_1.out)
            rintro e w25 ⟨rfl, hb⟩
            refine ⟨_, rfl, ?_⟩
            replace BK1345 := bb BK1345 hb; replace BK1346 := bb BK1346 hb; replace HB := sb HB hb
            (try clear hb)
            refine hK.out _ _ cz (fun hHeld => ?_)
            clear hK K
            refine norm_ (a' := ?_) ?_ ?_
            rotate_left
            · show Act.put _ (some 34) _ = _
              exact pz
            refine pureZ (i := 7) (N := some 37) #[true, true, true, true, true, true, true, true] HT_ ?_
            refine done_ (done_of HT_.out (by kernel_rfl)) ?_
            try go_wp2
            go_ret2
            exact ez
          · rw [if_neg c21] at H
            have c21b0 : (!(t1350 == a2_0) || (!(t1351 == a2_1))) = false := by simpa using c21
            clear c21
            have H' := m0 H
            clear H
            try go_wp2
            replace BK1345 := bd BK1345; replace BK1346 := bd BK1346; replace HB := sd HB
            refine start_ (n := 11) (S := fun w' => w'.cell? ⟨gb1346, 0, none⟩ = some (.int .i64 a2_0) ∧ w'.cell? ⟨gb1346, 1, none⟩ = some (.int .i64 a2_1) ∧ w'.cell? ⟨gb1346, 2, none⟩ = some (.int .i64 a2_2) ∧ w'.cell? ⟨gb1345, 0, none⟩ = some (.slice A0_0 l0_0.length c0_0) ∧ w'.cell? ⟨gb1345, 1, none⟩ = some (.slice A0_1 l0_1.length c0_1) ∧ w'.cell? ⟨gb1345, 2, none⟩ = some (.int .i64 a0_2) ∧ w'.cell? ⟨gb1345, 3, none⟩ = some (.int .i64 a0_3)) (ds := []) #[false, false, false, false, false, false, false, false, false, false, false] (by kernel_rfl) rfl rfl cz (fun hHeld => ?_); refine with_tabW Rf_CheckWorst.tab3 Rf_CheckWorst.bits3 (fun HT_ HW_ => ?_)
            generalize wc.drew = w26 at BK1345 BK1346 HB hHeld ⊢
            refine pureZ (i := 0) (N := some 19) #[true, false, false, false, false, false, false, false, false, false, false] HT_ ?_
            refine pureZ (i := 2) (N := some 21) #[true, false, true, false, false, false, false, false, false, false, false] HT_ ?_
            refine pureZ (i := 4) (N := some 23) #[true, false, true, false, true, false, false, false, false, false, false] HT_ ?_
            refine takeZ 1 (some 20) #[true, true, true, false, true, false, false, false, false, false, false] (take_ofW HT_.out HW_.out (by kernel_rfl)) hHeld ?_
            refine takeZ 3 (some 22) #[true, true, true, true, true, false, false, false, false, false, false] (take_ofW HT_.out HW_.out (by kernel_rfl)) hHeld ?_
            refine takeZ 5 (some 24) #[true, true, true, true, true, true, false, false, false, false, false] (take_ofW HT_.out HW_.out (by kernel_rfl)) hHeld ?_
            refine pureZ (i := 6) (N := some 25) #[true, true, true, true, true, true, true, false, false, false, false] HT_ ?_
            refine oneZ 7 (some 26) #[true, true, true, true, true, true, true, true, false, false, false] (one_of HT_.out (by kernel_rfl)) fun K hK => ?_
            refine goes_ Tryd.func56 (by kernel_rfl) rfl #[.agg #[.slice A0_1 l0_1.length c0_1], .int .i64 (l0_0.length : Int)] (by rfl) rfl rfl mz ?_
            with_reducible refine (Rf_Cases.calls kj3 _ _ l0_1 (l0_0.length : Int) t1348 _ ?side1 ?side2 A17.out).mono ?_
            (case side1 => exact cb HR0_1 HB)
            (case side2 => exact HC0_1.out)
            rintro e w27 ⟨rfl, hb⟩
            refine ⟨_, rfl, ?_⟩
            replace BK1345 := bb BK1345 hb; replace BK1346 := bb BK1346 hb; replace HB := sb HB hb
            (try clear hb)
            refine hK.out _ _ cz (fun hHeld => ?_)
            clear hK K
            refine norm_ (a' := ?_) ?_ ?_
            rotate_left
            · show Act.put _ (some 26) _ = _
              exact pz
            refine pureZ (i := 8) (N := some 27) #[true, true, true, true, true, true, true, true, true, false, false] HT_ ?_
            refine oneZ 9 (some 28) #[true, true, true, true, true, true, true, true, true, true, false] (one_of HT_.out (by kernel_rfl)) fun K hK => ?_
            refine goes_ Tryd.func31 (by kernel_rfl) rfl #[.int .i64 a2_2, .int .i64 0, .int .i64 (wrap64 (t1348 - 1))] (by rfl) rfl rfl mz ?_
            with_reducible refine (Bs_Within.calls a2_2 0 (wrap64 (t1348 - 1)) true _ A18.out).mono ?_
            rintro e w' ⟨rfl, ⟨nd, rfl⟩⟩
            refine ⟨_, rfl, ?_⟩
            refine hK.out _ _ cz (fun hHeld => ?_)
            clear hK K
            refine norm_ (a' := ?_) ?_ ?_
            rotate_left
            · show Act.put _ (some 28) _ = _
              exact pz
            refine pureZ (i := 10) (N := some 29) #[true, true, true, true, true, true, true, true, true, true, true] HT_ ?_
            refine done_ (done_of HT_.out (by kernel_rfl)) ?_
            try go_wp2
            (try (rw [drewN_self w27]; generalize hq_ : World.drewN w27 _ = w27; replace BK1345 := gd BK1345 hq_; replace BK1346 := gd BK1346 hq_; replace HB := gs HB hq_; clear hq_))
            replace BK1345 := bd BK1345; replace BK1346 := bd BK1346; replace HB := sd HB
            refine start_ (n := 8) (S := fun w' => w'.cell? ⟨gb1345, 0, none⟩ = some (.slice A0_0 l0_0.length c0_0) ∧ w'.cell? ⟨gb1345, 1, none⟩ = some (.slice A0_1 l0_1.length c0_1) ∧ w'.cell? ⟨gb1345, 2, none⟩ = some (.int .i64 a0_2) ∧ w'.cell? ⟨gb1345, 3, none⟩ = some (.int .i64 a0_3) ∧ w'.cell? ⟨gb1346, 0, none⟩ = some (.int .i64 a2_0) ∧ w'.cell? ⟨gb1346, 1, none⟩ = some (.int .i64 a2_1) ∧ w'.cell? ⟨gb1346, 2, none⟩ = some (.int .i64 a2_2)) (ds := []) #[false, false, false, false, false, false, false, false] (by kernel_rfl) rfl rfl cz (fun hHeld => ?_); refine with_tabW Rf_CheckWorst.tab5 Rf_CheckWorst.bits5 (fun HT_ HW_ => ?_)
            generalize w27.drew = w28 at BK1345 BK1346 HB hHeld ⊢
            refine pureZ (i := 1) (N := some 31) #[false, true, false, false, false, false, false, false] HT_ ?_
            refine pureZ (i := 2) (N := some 32) #[false, true, true, false, false, false, false, false] HT_ ?_
            refine pureZ (i := 5) (N := some 35) #[false, true, true, false, false, true, false, false] HT_ ?_
            refine takeZ 0 (some 30) #[true, true, true, false, false, true, false, false] (take_ofW HT_.out HW_.out (by kernel_rfl)) hHeld ?_
            refine takeZ 3 (some 33) #[true, true, true, true, false, true, false, false] (take_ofW HT_.out HW_.out (by kernel_rfl)) hHeld ?_
            refine takeZ 6 (some 36) #[true, true, true, true, false, true, true, false] (take_ofW HT_.out HW_.out (by kernel_rfl)) hHeld ?_
            refine oneZ 4 (some 34) #[true, true, true, true, true, true, true, false] (one_of HT_.out (by kernel_rfl)) fun K hK => ?_
            refine goes_ Tryd.func99 (by kernel_rfl) rfl #[.agg #[.slice A0_0 l0_0.length c0_0, .slice A0_1 l0_1.length c0_1, .int .i64 a0_2, .int .i64 a0_3], .int .i64 a1, .int .i64 a2_2] (by rfl) rfl rfl mz ?_
            with_reducible refine (Rf_Off.calls kj3 _ _ l0_0 _ _ l0_1 a0_2 a0_3 a1 a2_2 t1350 t1351 _ ?side1 ?side2 ?side3 ?side4 A20.out).mono ?_
            (case side1 => exact cb HR0_0 HB)
            (case side2 => exact HC0_0.out)
            (case side3 => exact cb HR0_1 HB)
            (case side4 => exact HC0_1.out)
            rintro e w29 ⟨rfl, hb⟩
            refine ⟨_, rfl, ?_⟩
            replace BK1345 := bb BK1345 hb; replace BK1346 := bb BK1346 hb; replace HB := sb HB hb
            (try clear hb)
            refine hK.out _ _ cz (fun hHeld => ?_)
            clear hK K
            refine norm_ (a' := ?_) ?_ ?_
            rotate_left
            · show Act.put _ (some 34) _ = _
              exact pz
            refine pureZ (i := 7) (N := some 37) #[true, true, true, true, true, true, true, true] HT_ ?_
            refine done_ (done_of HT_.out (by kernel_rfl)) ?_
            try go_wp2
            go_loopg [8] kj3 (fun kq v8 w' => ∃ (x8_2 : Int), v8 = .int .i64 x8_2 ∧ Aside0 (Rf_CheckWorst.l0 kq a1 x8_2 l0_0 l0_1 a0_2 a0_3 a2_0 a2_1 a2_2 = some (r1, r2)) ∧ Aside0 (kq ≤ kj3) ∧ Aside0 (w'.heap[gb1345]? = some (.cells #[(.slice A0_0 l0_0.length c0_0), (.slice A0_1 l0_1.length c0_1), .int .i64 a0_2, .int .i64 a0_3] 28 (0, 0))) ∧ Aside0 (w'.heap[gb1346]? = some (.cells #[.int .i64 a2_0, .int .i64 a2_1, .int .i64 a2_2] 36 (0, 0))) ∧ Aside0 (Below w.heap.size w w'))
            case atStart => exact ⟨(0), (by first | rfl | (simp; done) | (simp [*]; done)), H', ⟨Nat.le_refl _⟩, ⟨bk BK1345.out⟩, ⟨bk BK1346.out⟩, ⟨bz⟩⟩
            case round =>
              clear H'
              try clear c1
              try clear c2
              try clear p2
              try clear c3
              try clear c5
              try clear p6
              try clear c7
              try clear c8
              try clear c9
              try clear c13
              try clear c16
              try clear c19
              try clear c21
              try clear c21b0
              try clear hcz10_0
              try clear hcz10_1
              try clear hcz10_2
              try clear hcz12_0
              try clear hcz12_1
              try clear hcz12_2
              try clear hcz14_0
              try clear hcz14_1
              try clear hcz14_2
              try clear hfz10_0
              try clear hfz10_1
              try clear hfz10_2
              try clear hfz12_0
              try clear hfz12_1
              try clear hfz12_2
              try clear hfz14_0
              try clear hfz14_1
              try clear hfz14_2
              try clear p2
              obtain ⟨x8_2, rfl, HA, HK2, BK1345, BK1346, HB⟩ := hrel
              cases gk with
              | zero => exact absurd HA.out (by simp [Rf_CheckWorst.l0])
              | succ k2 =>
                have H := HA.out
                clear HA
                simp only [Rf_CheckWorst.l0] at H
                replace H := ob H
                obtain ⟨t1352, A300, H⟩ := H
                (try dsimp only at H)
                have A30 := m0 A300
                clear A300
                by_cases c31 : x8_2 < t1352
                · rw [if_pos c31] at H
                  have c31b0 := decide_eq_true c31
                  clear c31
                  replace H := ob H
                  obtain ⟨⟨t1353, t1354⟩, A320, H⟩ := H
                  (try dsimp only at H)
                  have A32 := m0 A320
                  clear A320
                  replace H := ob H
                  obtain ⟨t1355, A330, H⟩ := H
                  (try dsimp only at H)
                  have A33 := m0 A330
                  clear A330
                  by_cases c34 : t1355 > 0
                  · rw [if_pos c34] at H
                    have c34b0 := decide_eq_true c34
                    clear c34
                    simp only [Option.some.injEq, Prod.mk.injEq] at H
                    obtain ⟨rfl, rfl⟩ := H
                    have hnb35 := NB1345_1346.out
                    have hnc35 := NB1346_1345.out
                    obtain ⟨_, _, _, _, _, _, _, _⟩ := b4 BK1345
                    try go_wp2_with (first | ((with_reducible refine gate_callee (f := 56) rfl ?_); refine gl (some 44) Tryd.func56 #[.agg #[.slice A0_1 l0_1.length c0_1], .int .i64 (l0_0.length : Int)] ?_; (with_reducible refine (Rf_Cases.calls k2 _ _ l0_1 (l0_0.length : Int) t1352 _ ?side1 ?side2 A30.out).mono ?_); (case side1 => exact cb HR0_1 HB); (case side2 => exact HC0_1.out); rintro e w37 ⟨rfl, hb⟩; refine ⟨_, rfl, ?_⟩; replace BK1345 := bb BK1345 hb; replace BK1346 := bb BK1346 hb; replace HB := sb HB hb; (try clear hb)))
                    replace BK1345 := bd BK1345; replace BK1346 := bd BK1346; replace HB := sd HB
                    refine start_ (n := 8) (S := fun w' => w'.cell? ⟨gb1345, 0, none⟩ = some (.slice A0_0 l0_0.length c0_0) ∧ w'.cell? ⟨gb1345, 1, none⟩ = some (.slice A0_1 l0_1.length c0_1) ∧ w'.cell? ⟨gb1345, 2, none⟩ = some (.int .i64 a0_2) ∧ w'.cell? ⟨gb1345, 3, none⟩ = some (.int .i64 a0_3) ∧ w'.cell? ⟨gb1346, 0, none⟩ = some (.int .i64 a2_0) ∧ w'.cell? ⟨gb1346, 1, none⟩ = some (.int .i64 a2_1) ∧ w'.cell? ⟨gb1346, 2, none⟩ = some (.int .i64 a2_2)) (ds := []) #[false, false, false, false, false, false, false, false] (by kernel_rfl) rfl rfl cz (fun hHeld => ?_); refine with_tabW Rf_CheckWorst.tab10 Rf_CheckWorst.bits10 (fun HT_ HW_ => ?_)
                    generalize w37.drew = w38 at BK1345 BK1346 HB hHeld ⊢
                    refine pureZ (i := 1) (N := some 49) #[false, true, false, false, false, false, false, false] HT_ ?_
                    refine pureZ (i := 2) (N := some 50) #[false, true, true, false, false, false, false, false] HT_ ?_
                    refine pureZ (i := 4) (N := some 52) #[false, true, true, false, true, false, false, false] HT_ ?_
                    refine takeZ 0 (some 48) #[true, true, true, false, true, false, false, false] (take_ofW HT_.out HW_.out (by kernel_rfl)) hHeld ?_
                    refine takeZ 5 (some 53) #[true, true, true, false, true, true, false, false] (take_ofW HT_.out HW_.out (by kernel_rfl)) hHeld ?_
                    refine oneZ 3 (some 51) #[true, true, true, true, true, true, false, false] (one_of HT_.out (by kernel_rfl)) fun K hK => ?_
                    refine goes_ Tryd.func99 (by kernel_rfl) rfl #[.agg #[.slice A0_0 l0_0.length c0_0, .slice A0_1 l0_1.length c0_1, .int .i64 a0_2, .int .i64 a0_3], .int .i64 a1, .int .i64 x8_2] (by rfl) rfl rfl mz ?_
                    with_reducible refine (Rf_Off.calls k2 _ _ l0_0 _ _ l0_1 a0_2 a0_3 a1 x8_2 t1353 t1354 _ ?side1 ?side2 ?side3 ?side4 A32.out).mono ?_
                    (case side1 => exact cb HR0_0 HB)
                    (case side2 => exact HC0_0.out)
                    (case side3 => exact cb HR0_1 HB)
                    (case side4 => exact HC0_1.out)
                    rintro e w39 ⟨rfl, hb⟩
                    refine ⟨_, rfl, ?_⟩
                    replace BK1345 := bb BK1345 hb; replace BK1346 := bb BK1346 hb; replace HB := sb HB hb
                    (try clear hb)
                    refine hK.out _ _ cz (fun hHeld => ?_)
                    clear hK K
                    refine norm_ (a' := ?_) ?_ ?_
                    rotate_left
                    · show Act.put _ (some 51) _ = _
                      exact pz
                    refine oneZ 6 (some 54) #[true, true, true, true, true, true, true, false] (one_of HT_.out (by kernel_rfl)) fun K hK => ?_
                    refine goes_ Tryd.func37 (by kernel_rfl) rfl #[.agg #[.int .i64 t1353, .int .i64 t1354], .agg #[.int .i64 a2_0, .int .i64 a2_1]] (by rfl) rfl rfl mz ?_
                    with_reducible refine (Bs_Cmp.calls t1353 t1354 a2_0 a2_1 t1355 _ A33.out).mono ?_
                    rintro e w40 ⟨rfl, hb⟩
                    refine ⟨_, rfl, ?_⟩
                    replace BK1345 := bb BK1345 hb; replace BK1346 := bb BK1346 hb; replace HB := sb HB hb
                    (try clear hb)
                    refine hK.out _ _ cz (fun hHeld => ?_)
                    clear hK K
                    refine norm_ (a' := ?_) ?_ ?_
                    rotate_left
                    · show Act.put _ (some 54) _ = _
                      exact pz
                    refine pureZ (i := 7) (N := some 55) #[true, true, true, true, true, true, true, true] HT_ ?_
                    refine done_ (done_of HT_.out (by kernel_rfl)) ?_
                    try go_wp2
                    go_ret2
                    exact ez
                  · rw [if_neg c34] at H
                    have c34b0 := decide_eq_false c34
                    clear c34
                    have H' := m0 H
                    clear H
                    have hnb41 := NB1345_1346.out
                    have hnc41 := NB1346_1345.out
                    obtain ⟨_, _, _, _, _, _, _, _⟩ := b4 BK1345
                    try go_wp2_with (first | ((with_reducible refine gate_callee (f := 56) rfl ?_); refine gl (some 44) Tryd.func56 #[.agg #[.slice A0_1 l0_1.length c0_1], .int .i64 (l0_0.length : Int)] ?_; (with_reducible refine (Rf_Cases.calls k2 _ _ l0_1 (l0_0.length : Int) t1352 _ ?side1 ?side2 A30.out).mono ?_); (case side1 => exact cb HR0_1 HB); (case side2 => exact HC0_1.out); rintro e w43 ⟨rfl, hb⟩; refine ⟨_, rfl, ?_⟩; replace BK1345 := bb BK1345 hb; replace BK1346 := bb BK1346 hb; replace HB := sb HB hb; (try clear hb)))
                    replace BK1345 := bd BK1345; replace BK1346 := bd BK1346; replace HB := sd HB
                    refine start_ (n := 8) (S := fun w' => w'.cell? ⟨gb1345, 0, none⟩ = some (.slice A0_0 l0_0.length c0_0) ∧ w'.cell? ⟨gb1345, 1, none⟩ = some (.slice A0_1 l0_1.length c0_1) ∧ w'.cell? ⟨gb1345, 2, none⟩ = some (.int .i64 a0_2) ∧ w'.cell? ⟨gb1345, 3, none⟩ = some (.int .i64 a0_3) ∧ w'.cell? ⟨gb1346, 0, none⟩ = some (.int .i64 a2_0) ∧ w'.cell? ⟨gb1346, 1, none⟩ = some (.int .i64 a2_1) ∧ w'.cell? ⟨gb1346, 2, none⟩ = some (.int .i64 a2_2)) (ds := []) #[false, false, false, false, false, false, false, false] (by kernel_rfl) rfl rfl cz (fun hHeld => ?_); refine with_tabW Rf_CheckWorst.tab10 Rf_CheckWorst.bits10 (fun HT_ HW_ => ?_)
                    generalize w43.drew = w44 at BK1345 BK1346 HB hHeld ⊢
                    refine pureZ (i := 1) (N := some 49) #[false, true, false, false, false, false, false, false] HT_ ?_
                    refine pureZ (i := 2) (N := some 50) #[false, true, true, false, false, false, false, false] HT_ ?_
                    refine pureZ (i := 4) (N := some 52) #[false, true, true, false, true, false, false, false] HT_ ?_
                    refine takeZ 0 (some 48) #[true, true, true, false, true, false, false, false] (take_ofW HT_.out HW_.out (by kernel_rfl)) hHeld ?_
                    refine takeZ 5 (some 53) #[true, true, true, false, true, true, false, false] (take_ofW HT_.out HW_.out (by kernel_rfl)) hHeld ?_
                    refine oneZ 3 (some 51) #[true, true, true, true, true, true, false, false] (one_of HT_.out (by kernel_rfl)) fun K hK => ?_
                    refine goes_ Tryd.func99 (by kernel_rfl) rfl #[.agg #[.slice A0_0 l0_0.length c0_0, .slice A0_1 l0_1.length c0_1, .int .i64 a0_2, .int .i64 a0_3], .int .i64 a1, .int .i64 x8_2] (by rfl) rfl rfl mz ?_
                    with_reducible refine (Rf_Off.calls k2 _ _ l0_0 _ _ l0_1 a0_2 a0_3 a1 x8_2 t1353 t1354 _ ?side1 ?side2 ?side3 ?side4 A32.out).mono ?_
                    (case side1 => exact cb HR0_0 HB)
                    (case side2 => exact HC0_0.out)
                    (case side3 => exact cb HR0_1 HB)
                    (case side4 => exact HC0_1.out)
                    rintro e w45 ⟨rfl, hb⟩
                    refine ⟨_, rfl, ?_⟩
                    replace BK1345 := bb BK1345 hb; replace BK1346 := bb BK1346 hb; replace HB := sb HB hb
                    (try clear hb)
                    refine hK.out _ _ cz (fun hHeld => ?_)
                    clear hK K
                    refine norm_ (a' := ?_) ?_ ?_
                    rotate_left
                    · show Act.put _ (some 51) _ = _
                      exact pz
                    refine oneZ 6 (some 54) #[true, true, true, true, true, true, true, false] (one_of HT_.out (by kernel_rfl)) fun K hK => ?_
                    refine goes_ Tryd.func37 (by kernel_rfl) rfl #[.agg #[.int .i64 t1353, .int .i64 t1354], .agg #[.int .i64 a2_0, .int .i64 a2_1]] (by rfl) rfl rfl mz ?_
                    with_reducible refine (Bs_Cmp.calls t1353 t1354 a2_0 a2_1 t1355 _ A33.out).mono ?_
                    rintro e w46 ⟨rfl, hb⟩
                    refine ⟨_, rfl, ?_⟩
                    replace BK1345 := bb BK1345 hb; replace BK1346 := bb BK1346 hb; replace HB := sb HB hb
                    (try clear hb)
                    refine hK.out _ _ cz (fun hHeld => ?_)
                    clear hK K
                    refine norm_ (a' := ?_) ?_ ?_
                    rotate_left
                    · show Act.put _ (some 54) _ = _
                      exact pz
                    refine pureZ (i := 7) (N := some 55) #[true, true, true, true, true, true, true, true] HT_ ?_
                    refine done_ (done_of HT_.out (by kernel_rfl)) ?_
                    try go_wp2
                    go_roundg k2
                    case measure => have := HJ3.out; have := HK2.out; omega
                    case rel => exact ⟨(wrap64 (x8_2 + 1)), (by first | rfl | (simp; done) | (simp [*]; done)), H', ⟨by have := HJ3.out; have := HK2.out; omega⟩, ⟨bk BK1345.out⟩, ⟨bk BK1346.out⟩, ⟨bz⟩⟩
                · rw [if_neg c31] at H
                  have c31b0 := decide_eq_false c31
                  clear c31
                  simp only [Option.some.injEq, Prod.mk.injEq] at H
                  obtain ⟨rfl, rfl⟩ := H
                  have hnb47 := NB1345_1346.out
                  have hnc47 := NB1346_1345.out
                  obtain ⟨_, _, _, _, _, _, _, _⟩ := b4 BK1345
                  go_wp2_with (first | ((with_reducible refine gate_callee (f := 56) rfl ?_); refine gl (some 44) Tryd.func56 #[.agg #[.slice A0_1 l0_1.length c0_1], .int .i64 (l0_0.length : Int)] ?_; (with_reducible refine (Rf_Cases.calls k2 _ _ l0_1 (l0_0.length : Int) t1352 _ ?side1 ?side2 A30.out).mono ?_); (case side1 => exact cb HR0_1 HB); (case side2 => exact HC0_1.out); rintro e w49 ⟨rfl, hb⟩; refine ⟨_, rfl, ?_⟩; replace BK1345 := bb BK1345 hb; replace BK1346 := bb BK1346 hb; replace HB := sb HB hb; (try clear hb)))
                  go_ret2
                  exact ez
        · replace c19 := Bool.eq_false_iff.mpr c19
          subst c19
          rw [if_neg (show ¬ (false = true) by decide)] at H
          simp only [Option.some.injEq, Prod.mk.injEq] at H
          obtain ⟨rfl, rfl⟩ := H
          try go_wp2
          replace BK1345 := bd BK1345; replace BK1346 := bd BK1346; replace HB := sd HB
          refine start_ (n := 11) (S := fun w' => w'.cell? ⟨gb1346, 0, none⟩ = some (.int .i64 a2_0) ∧ w'.cell? ⟨gb1346, 1, none⟩ = some (.int .i64 a2_1) ∧ w'.cell? ⟨gb1346, 2, none⟩ = some (.int .i64 a2_2) ∧ w'.cell? ⟨gb1345, 0, none⟩ = some (.slice A0_0 l0_0.length c0_0) ∧ w'.cell? ⟨gb1345, 1, none⟩ = some (.slice A0_1 l0_1.length c0_1) ∧ w'.cell? ⟨gb1345, 2, none⟩ = some (.int .i64 a0_2) ∧ w'.cell? ⟨gb1345, 3, none⟩ = some (.int .i64 a0_3)) (ds := []) #[false, false, false, false, false, false, false, false, false, false, false] (by kernel_rfl) rfl rfl cz (fun hHeld => ?_); refine with_tabW Rf_CheckWorst.tab3 Rf_CheckWorst.bits3 (fun HT_ HW_ => ?_)
          generalize wc.drew = w50 at BK1345 BK1346 HB hHeld ⊢
          refine pureZ (i := 0) (N := some 19) #[true, false, false, false, false, false, false, false, false, false, false] HT_ ?_
          refine pureZ (i := 2) (N := some 21) #[true, false, true, false, false, false, false, false, false, false, false] HT_ ?_
          refine pureZ (i := 4) (N := some 23) #[true, false, true, false, true, false, false, false, false, false, false] HT_ ?_
          refine takeZ 1 (some 20) #[true, true, true, false, true, false, false, false, false, false, false] (take_ofW HT_.out HW_.out (by kernel_rfl)) hHeld ?_
          refine takeZ 3 (some 22) #[true, true, true, true, true, false, false, false, false, false, false] (take_ofW HT_.out HW_.out (by kernel_rfl)) hHeld ?_
          refine takeZ 5 (some 24) #[true, true, true, true, true, true, false, false, false, false, false] (take_ofW HT_.out HW_.out (by kernel_rfl)) hHeld ?_
          refine pureZ (i := 6) (N := some 25) #[true, true, true, true, true, true, true, false, false, false, false] HT_ ?_
          refine oneZ 7 (some 26) #[true, true, true, true, true, true, true, true, false, false, false] (one_of HT_.out (by kernel_rfl)) fun K hK => ?_
          refine goes_ Tryd.func56 (by kernel_rfl) rfl #[.agg #[.slice A0_1 l0_1.length c0_1], .int .i64 (l0_0.length : Int)] (by rfl) rfl rfl mz ?_
          with_reducible refine (Rf_Cases.calls kj3 _ _ l0_1 (l0_0.length : Int) t1348 _ ?side1 ?side2 A17.out).mono ?_
          (case side1 => exact cb HR0_1 HB)
          (case side2 => exact HC0_1.out)
          rintro e w51 ⟨rfl, hb⟩
          refine ⟨_, rfl, ?_⟩
          replace BK1345 := bb BK1345 hb; replace BK1346 := bb BK1346 hb; replace HB := sb HB hb
          (try clear hb)
          refine hK.out _ _ cz (fun hHeld => ?_)
          clear hK K
          refine norm_ (a' := ?_) ?_ ?_
          rotate_left
          · show Act.put _ (some 26) _ = _
            exact pz
          refine pureZ (i := 8) (N := some 27) #[true, true, true, true, true, true, true, true, true, false, false] HT_ ?_
          refine oneZ 9 (some 28) #[true, true, true, true, true, true, true, true, true, true, false] (one_of HT_.out (by kernel_rfl)) fun K hK => ?_
          refine goes_ Tryd.func31 (by kernel_rfl) rfl #[.int .i64 a2_2, .int .i64 0, .int .i64 (wrap64 (t1348 - 1))] (by rfl) rfl rfl mz ?_
          with_reducible refine (Bs_Within.calls a2_2 0 (wrap64 (t1348 - 1)) false _ A18.out).mono ?_
          rintro e w' ⟨rfl, ⟨nd, rfl⟩⟩
          refine ⟨_, rfl, ?_⟩
          refine hK.out _ _ cz (fun hHeld => ?_)
          clear hK K
          refine norm_ (a' := ?_) ?_ ?_
          rotate_left
          · show Act.put _ (some 28) _ = _
            exact pz
          refine pureZ (i := 10) (N := some 29) #[true, true, true, true, true, true, true, true, true, true, true] HT_ ?_
          refine done_ (done_of HT_.out (by kernel_rfl)) ?_
          try go_wp2
          go_ret2
          exact ez
end
section
def Lw_LineProved.f (k : Nat) (l0_0 : List Int) (l0_1 : List Int) (a0_2 : Int) (a0_3 : Int) (a1 : Int) (a2_0 : Int) (a2_1 : Int) (a2_2 : Int) : Option (Bool) := (Lw_awake.f k).bind fun t1358 => (if t1358 = true then ((Lw_light.f k l0_0 l0_1 a0_2 a0_3).bind fun t1359 => (if t1359 = true then ((Rf_CopyCase.f l0_0 l0_1 a0_2 a0_3).bind fun bt1360 => ((line_CheckWorst.f k bt1360.1 bt1360.2.1 bt1360.2.2.1 bt1360.2.2.2 a1 a2_0 a2_1 a2_2).bind fun bt1368 => ((Rf_CaseErr.f k l0_0 l0_1 a0_2 a0_3).bind fun t1370 => (if t1370 = 0 then ((Rf_KindErr.f a1).bind fun t1371 => (if t1371 = 0 then ((Rf_CheckWorst.f k l0_0 l0_1 a0_2 a0_3 a1 a2_0 a2_1 a2_2).bind fun bt1372 => (if bt1368.2 = bt1372.2 then (some (bt1368.1 == bt1372.1)) else (none))) else (if bt1368.2 = t1371 then (some (bt1368.1 == 0)) else (none)))) else (if bt1368.2 = t1370 then (some (bt1368.1 == 0)) else (none)))))) else (some true))) else (none))
theorem Lw_LineProved.mono : ∀ a0 a1 a2 a3 a4 a5 a6 a7 k, LeO (Lw_LineProved.f k a0 a1 a2 a3 a4 a5 a6 a7) (Lw_LineProved.f (k + 1) a0 a1 a2 a3 a4 a5 a6 a7) := by
 intro a0 a1 a2 a3 a4 a5 a6 a7 k
 unfold Lw_LineProved.f
 repeat' first
   | (with_reducible exact Lw_awake.mono _)
   | (with_reducible exact Lw_light.mono _ _ _ _ _)
   | (with_reducible exact Rf_CaseErr.mono _ _ _ _ _)
   | (with_reducible exact Rf_CheckWorst.mono _ _ _ _ _ _ _ _ _)
   | (with_reducible exact line_CheckWorst.mono _ _ _ _ _ _ _ _ _)
   | (with_reducible exact LeO.refl _)
   | (with_reducible exact LeO.none _)
   | (with_reducible refine LeO.ite ?_ ?_)
   | (with_reducible refine LeO.bind ?_ (fun _ => ?_))
   | exact Lw_awake.mono _
   | exact Lw_light.mono _ _ _ _ _
   | exact Rf_CaseErr.mono _ _ _ _ _
   | exact Rf_CheckWorst.mono _ _ _ _ _ _ _ _ _
   | exact line_CheckWorst.mono _ _ _ _ _ _ _ _ _
   | exact LeO.none _
   | refine LeO.ite ?_ ?_
   | refine LeO.bind ?_ (fun _ => ?_)
def Lw_LineProved.T5 : Bool × List (List Nat × List Nat) := (true, [([], []), ([0], [0]), ([], []), ([], []), ([1, 2, 3, 1], [1, 2, 3]), ([4], [4]), ([5], [5]), ([5], [5]), ([6, 4, 0, 1, 2, 3, 4, 5, 6], [6]), ([7, 8, 0, 1, 2, 3, 4, 5, 6, 7, 8], [7])])
def Lw_LineProved.B5 : List Nat := [0, 1, 0, 0, 15, 31, 63, 63, 127, 511]
theorem Lw_LineProved.tab5 : rtab .any (opsOf Tryd.f12 5) = Lw_LineProved.T5 := by kernel_rfl
theorem Lw_LineProved.bits5 : waitsOk Lw_LineProved.T5.2 Lw_LineProved.B5 = true := by kernel_rfl
theorem Lw_LineProved.calls (k : Nat) (A0_0 : Option Addr) (c0_0 : Nat) (l0_0 : List Int) (A0_1 : Option Addr) (c0_1 : Nat) (l0_1 : List Int) (a0_2 : Int) (a0_3 : Int) (a1 : Int) (a2_0 : Int) (a2_1 : Int) (a2_2 : Int) (r : Bool) (w : World) (hr0_0 : Kd.C (Kd.int .i64) w A0_0 l0_0.length l0_0) (hc0_0 : l0_0.length ≤ c0_0) (hr0_1 : Kd.C (Kd.int .i64) w A0_1 l0_1.length l0_1) (hc0_1 : l0_1.length ≤ c0_1) (hG : EstG w) (h : Lw_LineProved.f k l0_0 l0_1 a0_2 a0_3 a1 a2_0 a2_1 a2_2 = some r) :
  Calls Tryd.prog 12 #[.agg #[.slice A0_0 l0_0.length c0_0, .slice A0_1 l0_1.length c0_1, .int .i64 a0_2, .int .i64 a0_3], .int .i64 a1, .agg #[.int .i64 a2_0, .int .i64 a2_1, .int .i64 a2_2]] w fun e w' => e = .returned (.bool r) ∧ Below w.heap.size w w' := by
 have hu28 := Tryd.underlying28
 have hu36 := Tryd.underlying36
 have HG := m0 hG
 clear hG
 have HR0_0 := m0 hr0_0
 have HC0_0 := m0 hc0_0
 clear hr0_0 hc0_0
 have HR0_1 := m0 hr0_1
 have HC0_1 := m0 hc0_1
 clear hr0_1 hc0_1
 have HB := m0 (Below.refl w.heap.size w)
 have H : ((Lw_awake.f k).bind fun t1358 => (if t1358 = true then ((Lw_light.f k l0_0 l0_1 a0_2 a0_3).bind fun t1359 => (if t1359 = true then ((Rf_CopyCase.f l0_0 l0_1 a0_2 a0_3).bind fun bt1360 => ((line_CheckWorst.f k bt1360.1 bt1360.2.1 bt1360.2.2.1 bt1360.2.2.2 a1 a2_0 a2_1 a2_2).bind fun bt1368 => ((Rf_CaseErr.f k l0_0 l0_1 a0_2 a0_3).bind fun t1370 => (if t1370 = 0 then ((Rf_KindErr.f a1).bind fun t1371 => (if t1371 = 0 then ((Rf_CheckWorst.f k l0_0 l0_1 a0_2 a0_3 a1 a2_0 a2_1 a2_2).bind fun bt1372 => (if bt1368.2 = bt1372.2 then (some (bt1368.1 == bt1372.1)) else (none))) else (if bt1368.2 = t1371 then (some (bt1368.1 == 0)) else (none)))) else (if bt1368.2 = t1370 then (some (bt1368.1 == 0)) else (none)))))) else (some true))) else (none))) = some r := h
 clear h
 replace H := ob H
 obtain ⟨t1358, A40, H⟩ := H
 (try dsimp only at H)
 have A4 := m0 A40
 clear A40
 by_cases c5 : t1358 = true
 ·subst c5
  rw [if_pos rfl] at H
  replace H := ob H
  obtain ⟨t1359, A60, H⟩ := H
  (try dsimp only at H)
  have A6 := m0 A60
  clear A60
  by_cases c7 : t1359 = true
  ·subst c7
   rw [if_pos rfl] at H
   replace H := ob H
   obtain ⟨⟨t1360, t1363, t1366, t1367⟩, A80, H⟩ := H
   (try dsimp only at H)
   have A8 := m0 A80
   clear A80
   replace H := ob H
   obtain ⟨⟨t1368, t1369⟩, A90, H⟩ := H
   (try dsimp only at H)
   have A9 := m0 A90
   clear A90
   replace H := ob H
   obtain ⟨t1370, A100, H⟩ := H
   (try dsimp only at H)
   have A10 := m0 A100
   clear A100
   by_cases c11 : t1370 = 0
   ·rw [if_pos c11] at H
    have c11b0 := beq_iff_eq.mpr c11
    have c11b1 := bne_eq_false_iff_eq.mpr c11
    clear c11
    replace H := ob H
    obtain ⟨t1371, A120, H⟩ := H
    (try dsimp only at H)
    have A12 := m0 A120
    clear A120
    by_cases c13 : t1371 = 0
    ·rw [if_pos c13] at H
     have c13b0 := beq_iff_eq.mpr c13
     have c13b1 := bne_eq_false_iff_eq.mpr c13
     clear c13
     replace H := ob H
     obtain ⟨⟨t1372, t1373⟩, A140, H⟩ := H
     (try dsimp only at H)
     have A14 := m0 A140
     clear A140
     by_cases c15 : t1369 = t1373
     ·rw [if_pos c15] at H
      have c15b0 := beq_iff_eq.mpr c15
      have c15b1 := bne_eq_false_iff_eq.mpr c15
      clear c15
      obtain rfl := Option.some.inj H
      go_enter Tryd.func12, Tryd.ntmps12
      try go_wp2_with (first | ((with_reducible refine gate_dst (N := 3) rfl ?_); refine be 3 28 #[.slice A0_0 l0_0.length c0_0, .slice A0_1 l0_1.length c0_1, .int .i64 a0_2, .int .i64 a0_3] ?_; intro gb1356 hg w16 hbox hb; have BK1356 := m0 hbox; have GW1356 := m0 (bg (n := w.heap.size) hg); have GE1356 := m0 (bg (n := w.heap.size) hg); replace HB := sb HB hb; clear hb hbox hg) | ((with_reducible refine gate_dst (N := 5) rfl ?_); refine be 5 36 #[.int .i64 a2_0, .int .i64 a2_1, .int .i64 a2_2] ?_; intro gb1357 hg w17 hbox hb; have BK1357 := m0 hbox; have GW1357 := m0 (bg (n := w.heap.size) hg); have GE1357 := m0 (bg (n := w.heap.size) hg); replace HB := sb HB hb; have NB1356_1357 := nl BK1356 hg; have NB1357_1356 := ng (nl BK1356 hg); replace BK1356 := bb BK1356 hb; clear hb hbox hg) | ((with_reducible refine gate_callee (f := 18) rfl ?_); refine gl (some 11) Tryd.func18 #[] ?_; (with_reducible refine (Lw_awake.calls k  true _ ?side1 A4.out).mono ?_); (case side1 => exact EstG.below HG.out bz); rintro e w18 ⟨rfl, hb⟩; refine ⟨_, rfl, ?_⟩; replace BK1356 := bb BK1356 hb; replace BK1357 := bb BK1357 hb; replace HB := sb HB hb; (try clear hb); have hnb19 := NB1356_1357.out; have hnc19 := NB1357_1356.out; obtain ⟨_, _, _, _, _, _, _, _⟩ := b4 BK1356) | ((with_reducible refine gate_callee (f := 19) rfl ?_); refine gl (some 14) Tryd.func19 #[.agg #[.slice A0_0 l0_0.length c0_0, .slice A0_1 l0_1.length c0_1, .int .i64 a0_2, .int .i64 a0_3]] ?_; (with_reducible refine (Lw_light.calls k _ _ l0_0 _ _ l0_1 a0_2 a0_3 true _ ?side1 ?side2 ?side3 ?side4 A6.out).mono ?_); (case side1 => exact cb HR0_0 HB); (case side2 => exact HC0_0.out); (case side3 => exact cb HR0_1 HB); (case side4 => exact HC0_1.out); rintro e w21 ⟨rfl, hb⟩; refine ⟨_, rfl, ?_⟩; replace BK1356 := bb BK1356 hb; replace BK1357 := bb BK1357 hb; replace HB := sb HB hb; (try clear hb)))
      replace BK1356 := bd BK1356; replace BK1357 := bd BK1357; replace HB := sd HB
      refine start_ (n := 10) (S := fun w' => w'.cell? ⟨gb1356, 0, none⟩ = some (.slice A0_0 l0_0.length c0_0) ∧ w'.cell? ⟨gb1356, 1, none⟩ = some (.slice A0_1 l0_1.length c0_1) ∧ w'.cell? ⟨gb1356, 2, none⟩ = some (.int .i64 a0_2) ∧ w'.cell? ⟨gb1356, 3, none⟩ = some (.int .i64 a0_3) ∧ w'.cell? ⟨gb1357, 0, none⟩ = some (.int .i64 a2_0) ∧ w'.cell? ⟨gb1357, 1, none⟩ = some (.int .i64 a2_1) ∧ w'.cell? ⟨gb1357, 2, none⟩ = some (.int .i64 a2_2)) (ds := []) #[false, false, false, false, false, false, false, false, false, false] (by kernel_rfl) rfl rfl cz (fun hHeld => ?_); refine with_tabW Lw_LineProved.tab5 Lw_LineProved.bits5 (fun HT_ HW_ => ?_)
      generalize w21.drew = w22 at BK1356 BK1357 HB hHeld ⊢
      refine pureZ (i := 2) (N := some 19) #[false, false, true, false, false, false, false, false, false, false] HT_ ?_
      refine takeZ 0 (some 17) #[true, false, true, false, false, false, false, false, false, false] (take_ofW HT_.out HW_.out (by kernel_rfl)) hHeld ?_
      refine takeZ 3 (some 20) #[true, false, true, true, false, false, false, false, false, false] (take_ofW HT_.out HW_.out (by kernel_rfl)) hHeld ?_
      refine oneZ 1 (some 18) #[true, true, true, true, false, false, false, false, false, false] (one_of HT_.out (by kernel_rfl)) fun K hK => ?_
      refine goes_ Tryd.func21 (by kernel_rfl) rfl #[.agg #[.slice A0_0 l0_0.length c0_0, .slice A0_1 l0_1.length c0_1, .int .i64 a0_2, .int .i64 a0_3]] (by rfl) rfl rfl mz ?_
      with_reducible refine (Rf_CopyCase.calls _ _ l0_0 _ _ l0_1 a0_2 a0_3 t1360 t1363 t1366 t1367 _ ?side1 ?side2 ?side3 ?side4 A8.out).mono ?_
      (case side1 => exact cb HR0_0 HB)
      (case side2 => exact HC0_0.out)
      (case side3 => exact cb HR0_1 HB)
      (case side4 => exact HC0_1.out)
      rintro e w23 ⟨v1361, v1364, rfl, ho0, ho1, hb⟩
      refine ⟨_, rfl, ?_⟩
      have HO1362 := m0 (Kd.R_lower ho0 (below_size bz)); have HO1365 := m0 (Kd.R_lower ho1 (below_size bz)); replace BK1356 := bb BK1356 hb; replace BK1357 := bb BK1357 hb; replace HB := sb HB hb
      (try clear hb)
      (try clear ho0)
      (try clear ho1)
      obtain ⟨Ao24, co24, eo24⟩ := Kd.R_slice HO1362.out
      (first | subst eo24 | (injection eo24 with f1_ f2_ f3_; have f4_ := f1_.symm; have f5_ := f3_.symm; clear f1_ f2_ f3_; subst f4_; subst f5_))
      obtain ⟨Ao25, co25, eo25⟩ := Kd.R_slice HO1365.out
      (first | subst eo25 | (injection eo25 with f1_ f2_ f3_; have f4_ := f1_.symm; have f5_ := f3_.symm; clear f1_ f2_ f3_; subst f4_; subst f5_))
      refine hK.out _ _ cz (fun hHeld => ?_)
      clear hK K
      refine norm_ (a' := ?_) ?_ ?_
      rotate_left
      ·show Act.put _ (some 18) _ = _
       exact pz
      refine oneZ 4 (some 21) #[true, true, true, true, true, false, false, false, false, false] (one_of HT_.out (by kernel_rfl)) fun K hK => ?_
      refine goes_ Tryd.func69 (by kernel_rfl) rfl #[.agg #[.slice Ao24 t1360.length co24, .slice Ao25 t1363.length co25, .int .i64 t1366, .int .i64 t1367], .int .i64 a1, .agg #[.int .i64 a2_0, .int .i64 a2_1, .int .i64 a2_2]] (by rfl) rfl rfl mz ?_
      with_reducible refine (line_CheckWorst.calls k _ _ t1360 _ _ t1363 t1366 t1367 a1 a2_0 a2_1 a2_2 t1368 t1369 _ ?side1 ?side2 ?side3 ?side4 ?side5 A9.out).mono ?_
      (case side1 => exact bc (Kd.R_reads' HO1362.out).2.2)
      (case side2 => exact (Kd.R_reads' HO1362.out).2.1)
      (case side3 => exact bc (Kd.R_reads' HO1365.out).2.2)
      (case side4 => exact (Kd.R_reads' HO1365.out).2.1)
      (case side5 => exact EstG.below HG.out bz)
      rintro e w26 ⟨rfl, hb⟩
      refine ⟨_, rfl, ?_⟩
      replace HO1362 := rb HO1362 hb; replace HO1365 := rb HO1365 hb; replace BK1356 := bb BK1356 hb; replace BK1357 := bb BK1357 hb; replace HB := sb HB hb
      (try clear hb)
      refine hK.out _ _ cz (fun hHeld => ?_)
      clear hK K
      refine norm_ (a' := ?_) ?_ ?_
      rotate_left
      ·show Act.put _ (some 21) _ = _
       exact pz
      refine pureZ (i := 5) (N := some 16) #[true, true, true, true, true, true, false, false, false, false] HT_ ?_
      refine pureZ (i := 6) (N := some 22) #[true, true, true, true, true, true, true, false, false, false] HT_ ?_
      refine pureZ (i := 7) (N := some 23) #[true, true, true, true, true, true, true, true, false, false] HT_ ?_
      refine pureZ (i := 8) (N := some 7) #[true, true, true, true, true, true, true, true, true, false] HT_ ?_
      refine pureZ (i := 9) (N := some 8) #[true, true, true, true, true, true, true, true, true, true] HT_ ?_
      refine done_ (done_of HT_.out (by kernel_rfl)) ?_
      obtain ⟨_, _, _, _, _, _, _, _⟩ := b4 BK1356
      try go_wp2_with (first | ((with_reducible refine gate_callee (f := 23) rfl ?_); refine gl (some 25) Tryd.func23 #[.agg #[.slice A0_0 l0_0.length c0_0, .slice A0_1 l0_1.length c0_1, .int .i64 a0_2, .int .i64 a0_3]] ?_; (with_reducible refine (Rf_CaseErr.calls k _ _ l0_0 _ _ l0_1 a0_2 a0_3 t1370 _ ?side1 ?side2 ?side3 ?side4 A10.out).mono ?_); (case side1 => exact cb HR0_0 HB); (case side2 => exact HC0_0.out); (case side3 => exact cb HR0_1 HB); (case side4 => exact HC0_1.out); rintro e w28 ⟨rfl, hb⟩; refine ⟨_, rfl, ?_⟩; replace HO1362 := rb HO1362 hb; replace HO1365 := rb HO1365 hb; replace BK1356 := bb BK1356 hb; replace BK1357 := bb BK1357 hb; replace HB := sb HB hb; (try clear hb)) | ((with_reducible refine gate_callee (f := 24) rfl ?_); refine gl (some 29) Tryd.func24 #[.int .i64 a1] ?_; (with_reducible refine (Rf_KindErr.calls a1 t1371 _ A12.out).mono ?_); rintro e w' ⟨rfl, ⟨nd, rfl⟩⟩; refine ⟨_, rfl, ?_⟩; obtain ⟨_, _, _, _, _, _, _, _⟩ := b4 BK1356; obtain ⟨_, _, _, _, _, _⟩ := b3 BK1357) | ((with_reducible refine gate_callee (f := 70) rfl ?_); refine gl (some 43) Tryd.func70 #[.agg #[.slice A0_0 l0_0.length c0_0, .slice A0_1 l0_1.length c0_1, .int .i64 a0_2, .int .i64 a0_3], .int .i64 a1, .agg #[.int .i64 a2_0, .int .i64 a2_1, .int .i64 a2_2]] ?_; (with_reducible refine (Rf_CheckWorst.calls k _ _ l0_0 _ _ l0_1 a0_2 a0_3 a1 a2_0 a2_1 a2_2 t1372 t1373 _ ?side1 ?side2 ?side3 ?side4 A14.out).mono ?_); (case side1 => repeat (first | exact (Kd.C_below HR0_0.out bz) | (with_reducible refine Kd.C_alloc ?_ _) | (with_reducible refine Kd.C_drewN ?_ _) | (with_reducible refine Kd.C_drew ?_))); (case side2 => exact HC0_0.out); (case side3 => repeat (first | exact (Kd.C_below HR0_1.out bz) | (with_reducible refine Kd.C_alloc ?_ _) | (with_reducible refine Kd.C_drewN ?_ _) | (with_reducible refine Kd.C_drew ?_))); (case side4 => exact HC0_1.out); rintro e w31 ⟨rfl, hb⟩; refine ⟨_, rfl, ?_⟩; replace HO1362 := rb HO1362 hb; replace HO1365 := rb HO1365 hb; replace BK1356 := bb BK1356 hb; replace BK1357 := bb BK1357 hb; replace HB := sb HB hb; (try clear hb)))
      go_ret
      exact ez
     ·rw [if_neg c15] at H
      exact absurd H (by simp)
    ·rw [if_neg c13] at H
     have c13b0 := beq_eq_false_iff_ne.mpr c13
     have c13b1 := bne_iff_ne.mpr c13
     by_cases c32 : t1369 = t1371
     ·rw [if_pos c32] at H
      have c32b0 := beq_iff_eq.mpr c32
      have c32b1 := bne_eq_false_iff_eq.mpr c32
      clear c32
      obtain rfl := Option.some.inj H
      go_enter Tryd.func12, Tryd.ntmps12
      try go_wp2_with (first | ((with_reducible refine gate_dst (N := 3) rfl ?_); refine be 3 28 #[.slice A0_0 l0_0.length c0_0, .slice A0_1 l0_1.length c0_1, .int .i64 a0_2, .int .i64 a0_3] ?_; intro gb1356 hg w33 hbox hb; have BK1356 := m0 hbox; have GW1356 := m0 (bg (n := w.heap.size) hg); have GE1356 := m0 (bg (n := w.heap.size) hg); replace HB := sb HB hb; clear hb hbox hg) | ((with_reducible refine gate_dst (N := 5) rfl ?_); refine be 5 36 #[.int .i64 a2_0, .int .i64 a2_1, .int .i64 a2_2] ?_; intro gb1357 hg w34 hbox hb; have BK1357 := m0 hbox; have GW1357 := m0 (bg (n := w.heap.size) hg); have GE1357 := m0 (bg (n := w.heap.size) hg); replace HB := sb HB hb; have NB1356_1357 := nl BK1356 hg; have NB1357_1356 := ng (nl BK1356 hg); replace BK1356 := bb BK1356 hb; clear hb hbox hg) | ((with_reducible refine gate_callee (f := 18) rfl ?_); refine gl (some 11) Tryd.func18 #[] ?_; (with_reducible refine (Lw_awake.calls k  true _ ?side1 A4.out).mono ?_); (case side1 => exact EstG.below HG.out bz); rintro e w35 ⟨rfl, hb⟩; refine ⟨_, rfl, ?_⟩; replace BK1356 := bb BK1356 hb; replace BK1357 := bb BK1357 hb; replace HB := sb HB hb; (try clear hb); have hnb36 := NB1356_1357.out; have hnc36 := NB1357_1356.out; obtain ⟨_, _, _, _, _, _, _, _⟩ := b4 BK1356) | ((with_reducible refine gate_callee (f := 19) rfl ?_); refine gl (some 14) Tryd.func19 #[.agg #[.slice A0_0 l0_0.length c0_0, .slice A0_1 l0_1.length c0_1, .int .i64 a0_2, .int .i64 a0_3]] ?_; (with_reducible refine (Lw_light.calls k _ _ l0_0 _ _ l0_1 a0_2 a0_3 true _ ?side1 ?side2 ?side3 ?side4 A6.out).mono ?_); (case side1 => exact cb HR0_0 HB); (case side2 => exact HC0_0.out); (case side3 => exact cb HR0_1 HB); (case side4 => exact HC0_1.out); rintro e w38 ⟨rfl, hb⟩; refine ⟨_, rfl, ?_⟩; replace BK1356 := bb BK1356 hb; replace BK1357 := bb BK1357 hb; replace HB := sb HB hb; (try clear hb)))
      replace BK1356 := bd BK1356; replace BK1357 := bd BK1357; replace HB := sd HB
      refine start_ (n := 10) (S := fun w' => w'.cell? ⟨gb1356, 0, none⟩ = some (.slice A0_0 l0_0.length c0_0) ∧ w'.cell? ⟨gb1356, 1, none⟩ = some (.slice A0_1 l0_1.length c0_1) ∧ w'.cell? ⟨gb1356, 2, none⟩ = some (.int .i64 a0_2) ∧ w'.cell? ⟨gb1356, 3, none⟩ = some (.int .i64 a0_3) ∧ w'.cell? ⟨gb1357, 0, none⟩ = some (.int .i64 a2_0) ∧ w'.cell? ⟨gb1357, 1, none⟩ = some (.int .i64 a2_1) ∧ w'.cell? ⟨gb1357, 2, none⟩ = some (.int .i64 a2_2)) (ds := []) #[false, false, false, false, false, false, false, false, false, false] (by kernel_rfl) rfl rfl cz (fun hHeld => ?_); refine with_tabW Lw_LineProved.tab5 Lw_LineProved.bits5 (fun HT_ HW_ => ?_)
      generalize w38.drew = w39 at BK1356 BK1357 HB hHeld ⊢
      refine pureZ (i := 2) (N := some 19) #[false, false, true, false, false, false, false, false, false, false] HT_ ?_
      refine takeZ 0 (some 17) #[true, false, true, false, false, false, false, false, false, false] (take_ofW HT_.out HW_.out (by kernel_rfl)) hHeld ?_
      refine takeZ 3 (some 20) #[true, false, true, true, false, false, false, false, false, false] (take_ofW HT_.out HW_.out (by kernel_rfl)) hHeld ?_
      refine oneZ 1 (some 18) #[true, true, true, true, false, false, false, false, false, false] (one_of HT_.out (by kernel_rfl)) fun K hK => ?_
      refine goes_ Tryd.func21 (by kernel_rfl) rfl #[.agg #[.slice A0_0 l0_0.length c0_0, .slice A0_1 l0_1.length c0_1, .int .i64 a0_2, .int .i64 a0_3]] (by rfl) rfl rfl mz ?_
      with_reducible refine (Rf_CopyCase.calls _ _ l0_0 _ _ l0_1 a0_2 a0_3 t1360 t1363 t1366 t1367 _ ?side1 ?side2 ?side3 ?side4 A8.out).mono ?_
      (case side1 => exact cb HR0_0 HB)
      (case side2 => exact HC0_0.out)
      (case side3 => exact cb HR0_1 HB)
      (case side4 => exact HC0_1.out)
      rintro e w40 ⟨v1361, v1364, rfl, ho0, ho1, hb⟩
      refine ⟨_, rfl, ?_⟩
      have HO1362 := m0 (Kd.R_lower ho0 (below_size bz)); have HO1365 := m0 (Kd.R_lower ho1 (below_size bz)); replace BK1356 := bb BK1356 hb; replace BK1357 := bb BK1357 hb; replace HB := sb HB hb
      (try clear hb)
      (try clear ho0)
      (try clear ho1)
      obtain ⟨Ao41, co41, eo41⟩ := Kd.R_slice HO1362.out
      (first | subst eo41 | (injection eo41 with f1_ f2_ f3_; have f4_ := f1_.symm; have f5_ := f3_.symm; clear f1_ f2_ f3_; subst f4_; subst f5_))
      obtain ⟨Ao42, co42, eo42⟩ := Kd.R_slice HO1365.out
      (first | subst eo42 | (injection eo42 with f1_ f2_ f3_; have f4_ := f1_.symm; have f5_ := f3_.symm; clear f1_ f2_ f3_; subst f4_; subst f5_))
      refine hK.out _ _ cz (fun hHeld => ?_)
      clear hK K
      refine norm_ (a' := ?_) ?_ ?_
      rotate_left
      ·show Act.put _ (some 18) _ = _
       exact pz
      refine oneZ 4 (some 21) #[true, true, true, true, true, false, false, false, false, false] (one_of HT_.out (by kernel_rfl)) fun K hK => ?_
      refine goes_ Tryd.func69 (by kernel_rfl) rfl #[.agg #[.slice Ao41 t1360.length co41, .slice Ao42 t1363.length co42, .int .i64 t1366, .int .i64 t1367], .int .i64 a1, .agg #[.int .i64 a2_0, .int .i64 a2_1, .int .i64 a2_2]] (by rfl) rfl rfl mz ?_
      with_reducible refine (line_CheckWorst.calls k _ _ t1360 _ _ t1363 t1366 t1367 a1 a2_0 a2_1 a2_2 t1368 t1369 _ ?side1 ?side2 ?side3 ?side4 ?side5 A9.out).mono ?_
      (case side1 => exact bc (Kd.R_reads' HO1362.out).2.2)
      (case side2 => exact (Kd.R_reads' HO1362.out).2.1)
      (case side3 => exact bc (Kd.R_reads' HO1365.out).2.2)
      (case side4 => exact (Kd.R_reads' HO1365.out).2.1)
      (case side5 => exact EstG.below HG.out bz)
      rintro e w43 ⟨rfl, hb⟩
      refine ⟨_, rfl, ?_⟩
      replace HO1362 := rb HO1362 hb; replace HO1365 := rb HO1365 hb; replace BK1356 := bb BK1356 hb; replace BK1357 := bb BK1357 hb; replace HB := sb HB hb
      (try clear hb)
      refine hK.out _ _ cz (fun hHeld => ?_)
      clear hK K
      refine norm_ (a' := ?_) ?_ ?_
      rotate_left
      ·show Act.put _ (some 21) _ = _
       exact pz
      refine pureZ (i := 5) (N := some 16) #[true, true, true, true, true, true, false, false, false, false] HT_ ?_
      refine pureZ (i := 6) (N := some 22) #[true, true, true, true, true, true, true, false, false, false] HT_ ?_
      refine pureZ (i := 7) (N := some 23) #[true, true, true, true, true, true, true, true, false, false] HT_ ?_
      refine pureZ (i := 8) (N := some 7) #[true, true, true, true, true, true, true, true, true, false] HT_ ?_
      refine pureZ (i := 9) (N := some 8) #[true, true, true, true, true, true, true, true, true, true] HT_ ?_
      refine done_ (done_of HT_.out (by kernel_rfl)) ?_
      obtain ⟨_, _, _, _, _, _, _, _⟩ := b4 BK1356
      try go_wp2_with (first | ((with_reducible refine gate_callee (f := 23) rfl ?_); refine gl (some 25) Tryd.func23 #[.agg #[.slice A0_0 l0_0.length c0_0, .slice A0_1 l0_1.length c0_1, .int .i64 a0_2, .int .i64 a0_3]] ?_; (with_reducible refine (Rf_CaseErr.calls k _ _ l0_0 _ _ l0_1 a0_2 a0_3 t1370 _ ?side1 ?side2 ?side3 ?side4 A10.out).mono ?_); (case side1 => exact cb HR0_0 HB); (case side2 => exact HC0_0.out); (case side3 => exact cb HR0_1 HB); (case side4 => exact HC0_1.out); rintro e w45 ⟨rfl, hb⟩; refine ⟨_, rfl, ?_⟩; replace HO1362 := rb HO1362 hb; replace HO1365 := rb HO1365 hb; replace BK1356 := bb BK1356 hb; replace BK1357 := bb BK1357 hb; replace HB := sb HB hb; (try clear hb)) | ((with_reducible refine gate_callee (f := 24) rfl ?_); refine gl (some 29) Tryd.func24 #[.int .i64 a1] ?_; (with_reducible refine (Rf_KindErr.calls a1 t1371 _ A12.out).mono ?_); rintro e w' ⟨rfl, ⟨nd, rfl⟩⟩; refine ⟨_, rfl, ?_⟩))
      go_ret
      exact ez
     ·rw [if_neg c32] at H
      exact absurd H (by simp)
   ·rw [if_neg c11] at H
    have c11b0 := beq_eq_false_iff_ne.mpr c11
    have c11b1 := bne_iff_ne.mpr c11
    by_cases c46 : t1369 = t1370
    ·rw [if_pos c46] at H
     have c46b0 := beq_iff_eq.mpr c46
     have c46b1 := bne_eq_false_iff_eq.mpr c46
     clear c46
     obtain rfl := Option.some.inj H
     go_enter Tryd.func12, Tryd.ntmps12
     try go_wp2_with (first | ((with_reducible refine gate_dst (N := 3) rfl ?_); refine be 3 28 #[.slice A0_0 l0_0.length c0_0, .slice A0_1 l0_1.length c0_1, .int .i64 a0_2, .int .i64 a0_3] ?_; intro gb1356 hg w47 hbox hb; have BK1356 := m0 hbox; have GW1356 := m0 (bg (n := w.heap.size) hg); have GE1356 := m0 (bg (n := w.heap.size) hg); replace HB := sb HB hb; clear hb hbox hg) | ((with_reducible refine gate_dst (N := 5) rfl ?_); refine be 5 36 #[.int .i64 a2_0, .int .i64 a2_1, .int .i64 a2_2] ?_; intro gb1357 hg w48 hbox hb; have BK1357 := m0 hbox; have GW1357 := m0 (bg (n := w.heap.size) hg); have GE1357 := m0 (bg (n := w.heap.size) hg); replace HB := sb HB hb; have NB1356_1357 := nl BK1356 hg; have NB1357_1356 := ng (nl BK1356 hg); replace BK1356 := bb BK1356 hb; clear hb hbox hg) | ((with_reducible refine gate_callee (f := 18) rfl ?_); refine gl (some 11) Tryd.func18 #[] ?_; (with_reducible refine (Lw_awake.calls k  true _ ?side1 A4.out).mono ?_); (case side1 => exact EstG.below HG.out bz); rintro e w49 ⟨rfl, hb⟩; refine ⟨_, rfl, ?_⟩; replace BK1356 := bb BK1356 hb; replace BK1357 := bb BK1357 hb; replace HB := sb HB hb; (try clear hb); have hnb50 := NB1356_1357.out; have hnc50 := NB1357_1356.out; obtain ⟨_, _, _, _, _, _, _, _⟩ := b4 BK1356) | ((with_reducible refine gate_callee (f := 19) rfl ?_); refine gl (some 14) Tryd.func19 #[.agg #[.slice A0_0 l0_0.length c0_0, .slice A0_1 l0_1.length c0_1, .int .i64 a0_2, .int .i64 a0_3]] ?_; (with_reducible refine (Lw_light.calls k _ _ l0_0 _ _ l0_1 a0_2 a0_3 true _ ?side1 ?side2 ?side3 ?side4 A6.out).mono ?_); (case side1 => exact cb HR0_0 HB); (case side2 => exact HC0_0.out); (case side3 => exact cb HR0_1 HB); (case side4 => exact HC0_1.out); rintro e w52 ⟨rfl, hb⟩; refine ⟨_, rfl, ?_⟩; replace BK1356 := bb BK1356 hb; replace BK1357 := bb BK1357 hb; replace HB := sb HB hb; (try clear hb)))
     replace BK1356 := bd BK1356; replace BK1357 := bd BK1357; replace HB := sd HB
     refine start_ (n := 10) (S := fun w' => w'.cell? ⟨gb1356, 0, none⟩ = some (.slice A0_0 l0_0.length c0_0) ∧ w'.cell? ⟨gb1356, 1, none⟩ = some (.slice A0_1 l0_1.length c0_1) ∧ w'.cell? ⟨gb1356, 2, none⟩ = some (.int .i64 a0_2) ∧ w'.cell? ⟨gb1356, 3, none⟩ = some (.int .i64 a0_3) ∧ w'.cell? ⟨gb1357, 0, none⟩ = some (.int .i64 a2_0) ∧ w'.cell? ⟨gb1357, 1, none⟩ = some (.int .i64 a2_1) ∧ w'.cell? ⟨gb1357, 2, none⟩ = some (.int .i64 a2_2)) (ds := []) #[false, false, false, false, false, false, false, false, false, false] (by kernel_rfl) rfl rfl cz (fun hHeld => ?_); refine with_tabW Lw_LineProved.tab5 Lw_LineProved.bits5 (fun HT_ HW_ => ?_)
     generalize w52.drew = w53 at BK1356 BK1357 HB hHeld ⊢
     refine pureZ (i := 2) (N := some 19) #[false, false, true, false, false, false, false, false, false, false] HT_ ?_
     refine takeZ 0 (some 17) #[true, false, true, false, false, false, false, false, false, false] (take_ofW HT_.out HW_.out (by kernel_rfl)) hHeld ?_
     refine takeZ 3 (some 20) #[true, false, true, true, false, false, false, false, false, false] (take_ofW HT_.out HW_.out (by kernel_rfl)) hHeld ?_
     refine oneZ 1 (some 18) #[true, true, true, true, false, false, false, false, false, false] (one_of HT_.out (by kernel_rfl)) fun K hK => ?_
     refine goes_ Tryd.func21 (by kernel_rfl) rfl #[.agg #[.slice A0_0 l0_0.length c0_0, .slice A0_1 l0_1.length c0_1, .int .i64 a0_2, .int .i64 a0_3]] (by rfl) rfl rfl mz ?_
     with_reducible refine (Rf_CopyCase.calls _ _ l0_0 _ _ l0_1 a0_2 a0_3 t1360 t1363 t1366 t1367 _ ?side1 ?side2 ?side3 ?side4 A8.out).mono ?_
     (case side1 => exact cb HR0_0 HB)
     (case side2 => exact HC0_0.out)
     (case side3 => exact cb HR0_1 HB)
     (case side4 => exact HC0_1.out)
     rintro e w54 ⟨v1361, v1364, rfl, ho0, ho1, hb⟩
     refine ⟨_, rfl, ?_⟩
     have HO1362 := m0 (Kd.R_lower ho0 (below_size bz)); have HO1365 := m0 (Kd.R_lower ho1 (below_size bz)); replace BK1356 := bb BK1356 hb; replace BK1357 := bb BK1357 hb; replace HB := sb HB hb
     (try clear hb)
     (try clear ho0)
     (try clear ho1)
     obtain ⟨Ao55, co55, eo55⟩ := Kd.R_slice HO1362.out
     (first | subst eo55 | (injection eo55 with f1_ f2_ f3_; have f4_ := f1_.symm; have f5_ := f3_.symm; clear f1_ f2_ f3_; subst f4_; subst f5_))
     obtain ⟨Ao56, co56, eo56⟩ := Kd.R_slice HO1365.out
     (first | subst eo56 | (injection eo56 with f1_ f2_ f3_; have f4_ := f1_.symm; have f5_ := f3_.symm; clear f1_ f2_ f3_; subst f4_; subst f5_))
     refine hK.out _ _ cz (fun hHeld => ?_)
     clear hK K
     refine norm_ (a' := ?_) ?_ ?_
     rotate_left
     ·show Act.put _ (some 18) _ = _
      exact pz
     refine oneZ 4 (some 21) #[true, true, true, true, true, false, false, false, false, false] (one_of HT_.out (by kernel_rfl)) fun K hK => ?_
     refine goes_ Tryd.func69 (by kernel_rfl) rfl #[.agg #[.slice Ao55 t1360.length co55, .slice Ao56 t1363.length co56, .int .i64 t1366, .int .i64 t1367], .int .i64 a1, .agg #[.int .i64 a2_0, .int .i64 a2_1, .int .i64 a2_2]] (by rfl) rfl rfl mz ?_
     with_reducible refine (line_CheckWorst.calls k _ _ t1360 _ _ t1363 t1366 t1367 a1 a2_0 a2_1 a2_2 t1368 t1369 _ ?side1 ?side2 ?side3 ?side4 ?side5 A9.out).mono ?_
     (case side1 => exact bc (Kd.R_reads' HO1362.out).2.2)
     (case side2 => exact (Kd.R_reads' HO1362.out).2.1)
     (case side3 => exact bc (Kd.R_reads' HO1365.out).2.2)
     (case side4 => exact (Kd.R_reads' HO1365.out).2.1)
     (case side5 => exact EstG.below HG.out bz)
     rintro e w57 ⟨rfl, hb⟩
     refine ⟨_, rfl, ?_⟩
     replace HO1362 := rb HO1362 hb; replace HO1365 := rb HO1365 hb; replace BK1356 := bb BK1356 hb; replace BK1357 := bb BK1357 hb; replace HB := sb HB hb
     (try clear hb)
     refine hK.out _ _ cz (fun hHeld => ?_)
     clear hK K
     refine norm_ (a' := ?_) ?_ ?_
     rotate_left
     ·show Act.put _ (some 21) _ = _
      exact pz
     refine pureZ (i := 5) (N := some 16) #[true, true, true, true, true, true, false, false, false, false] HT_ ?_
     refine pureZ (i := 6) (N := some 22) #[true, true, true, true, true, true, true, false, false, false] HT_ ?_
     refine pureZ (i := 7) (N := some 23) #[true, true, true, true, true, true, true, true, false, false] HT_ ?_
     refine pureZ (i := 8) (N := some 7) #[true, true, true, true, true, true, true, true, true, false] HT_ ?_
     refine pureZ (i := 9) (N := some 8) #[true, true, true, true, true, true, true, true, true, true] HT_ ?_
     refine done_ (done_of HT_.out (by kernel_rfl)) ?_
     obtain ⟨_, _, _, _, _, _, _, _⟩ := b4 BK1356
     try go_wp2_with (first | ((with_reducible refine gate_callee (f := 23) rfl ?_); refine gl (some 25) Tryd.func23 #[.agg #[.slice A0_0 l0_0.length c0_0, .slice A0_1 l0_1.length c0_1, .int .i64 a0_2, .int .i64 a0_3]] ?_; (with_reducible refine (Rf_CaseErr.calls k _ _ l0_0 _ _ l0_1 a0_2 a0_3 t1370 _ ?side1 ?side2 ?side3 ?side4 A10.out).mono ?_); (case side1 => exact cb HR0_0 HB); (case side2 => exact HC0_0.out); (case side3 => exact cb HR0_1 HB); (case side4 => exact HC0_1.out); rintro e w59 ⟨rfl, hb⟩; refine ⟨_, rfl, ?_⟩; replace HO1362 := rb HO1362 hb; replace HO1365 := rb HO1365 hb; replace BK1356 := bb BK1356 hb; replace BK1357 := bb BK1357 hb; replace HB := sb HB hb; (try clear hb)))
     go_ret
     exact ez
    ·rw [if_neg c46] at H
     exact absurd H (by simp)
  ·replace c7 := Bool.eq_false_iff.mpr c7
   subst c7
   rw [if_neg (show ¬ (false = true) by decide)] at H
   obtain rfl := Option.some.inj H
   go_enter Tryd.func12, Tryd.ntmps12
   go_wp2_with (first | ((with_reducible refine gate_dst (N := 3) rfl ?_); refine be 3 28 #[.slice A0_0 l0_0.length c0_0, .slice A0_1 l0_1.length c0_1, .int .i64 a0_2, .int .i64 a0_3] ?_; intro gb1356 hg w60 hbox hb; have BK1356 := m0 hbox; have GW1356 := m0 (bg (n := w.heap.size) hg); have GE1356 := m0 (bg (n := w.heap.size) hg); replace HB := sb HB hb; clear hb hbox hg) | ((with_reducible refine gate_dst (N := 5) rfl ?_); refine be 5 36 #[.int .i64 a2_0, .int .i64 a2_1, .int .i64 a2_2] ?_; intro gb1357 hg w61 hbox hb; have BK1357 := m0 hbox; have GW1357 := m0 (bg (n := w.heap.size) hg); have GE1357 := m0 (bg (n := w.heap.size) hg); replace HB := sb HB hb; have NB1356_1357 := nl BK1356 hg; have NB1357_1356 := ng (nl BK1356 hg); replace BK1356 := bb BK1356 hb; clear hb hbox hg) | ((with_reducible refine gate_callee (f := 18) rfl ?_); refine gl (some 11) Tryd.func18 #[] ?_; (with_reducible refine (Lw_awake.calls k  true _ ?side1 A4.out).mono ?_); (case side1 => exact EstG.below HG.out bz); rintro e w62 ⟨rfl, hb⟩; refine ⟨_, rfl, ?_⟩; replace BK1356 := bb BK1356 hb; replace BK1357 := bb BK1357 hb; replace HB := sb HB hb; (try clear hb); have hnb63 := NB1356_1357.out; have hnc63 := NB1357_1356.out; obtain ⟨_, _, _, _, _, _, _, _⟩ := b4 BK1356) | ((with_reducible refine gate_callee (f := 19) rfl ?_); refine gl (some 14) Tryd.func19 #[.agg #[.slice A0_0 l0_0.length c0_0, .slice A0_1 l0_1.length c0_1, .int .i64 a0_2, .int .i64 a0_3]] ?_; (with_reducible refine (Lw_light.calls k _ _ l0_0 _ _ l0_1 a0_2 a0_3 false _ ?side1 ?side2 ?side3 ?side4 A6.out).mono ?_); (case side1 => exact cb HR0_0 HB); (case side2 => exact HC0_0.out); (case side3 => exact cb HR0_1 HB); (case side4 => exact HC0_1.out); rintro e w65 ⟨rfl, hb⟩; refine ⟨_, rfl, ?_⟩; replace BK1356 := bb BK1356 hb; replace BK1357 := bb BK1357 hb; replace HB := sb HB hb; (try clear hb)))
   go_ret
   exact ez
 ·replace c5 := Bool.eq_false_iff.mpr c5
  subst c5
  rw [if_neg (show ¬ (false = true) by decide)] at H
  exact absurd H (by simp)
end
end Go.Proofs.YtjnkphmcndaijaaDoor.A
