/- Walks of the program's functions (printed, made shorter), each with what it computes. -/
import Derived.Test.YtjnkphmcndaijaaDoorBes04
import Derived.Test.YtjnkphmcndaijaaDoorBes09
import Derived.Test.YtjnkphmcndaijaaDoorBes07
import Derived.Test.YtjnkphmcndaijaaDoorBes10
import Derived.Test.YtjnkphmcndaijaaDoorBes11
import Derived.Test.YtjnkphmcndaijaaDoorBes12
import Derived.Test.YtjnkphmcndaijaaDoorBes03
namespace Go.Proofs.YtjnkphmcndaijaaDoor.A
set_option maxHeartbeats 8000000
set_option maxRecDepth 100000
open Go.RowKit Go.Proofs.YtjnkphmcndaijaaDoorW.PrintWords Go.Proofs.YtjnkphmcndaijaaDoorW.PrintLast Go.Proofs.YtjnkphmcndaijaaDoorW.PrintMore
attribute [local go_sem] max2_int min2_int max_two min_two max_three min_three max_four min_four
set_option linter.unusedVariables false
set_option linter.unusedSimpArgs false
section
attribute [local go_sem high] eqA26 eqA36
def Lw_awake.f (k : Nat)  : Option (Bool) := (line_Estimated.f k (([1, 4, 2, 0] : List Int)) 2).bind fun bt344 => ((Lw_Noise.f).bind fun t348 => ((line_FalseRate.f k t348 2 1).bind fun bt351 => ((Lw_Case.f).bind fun bt355 => ((line_BiasOf.f k bt355.1 bt355.2.1 bt355.2.2.1 bt355.2.2.2 0).bind fun bt363 => ((Lw_Case.f).bind fun bt367 => ((line_WorstOf.f k bt367.1 bt367.2.1 bt367.2.2.1 bt367.2.2.2 1).bind fun bt375 => ((line_DetectionsIn.f k (([0, 5, 5, 1, 3] : List Int)) 3 1).bind fun bt383 => ((Bs_Lowest.f k 11 10).bind fun bt387 => ((line_SpeedAt.f k bt387.1 bt387.2 2 50 1).bind fun bt389 => (if bt344.2.2 = 0 then ((Bs_Lowest.f k 11 10).bind fun bt393 => (if (bt344.1 == bt393.1 && (bt344.2.1 == bt393.2)) = true then (if bt351.2.2 = 0 then ((Bs_Lowest.f k 3 4).bind fun bt395 => (if (bt351.1 == bt395.1 && (bt351.2.1 == bt395.2)) = true then (if bt363.2.2 = 0 then ((Bs_Lowest.f k 1 4).bind fun bt397 => (if (bt363.1 == bt397.1 && (bt363.2.1 == bt397.2)) = true then (if bt375.2.2.2 = 0 then ((Bs_Lowest.f k 3 5).bind fun bt399 => (if ((bt375.1 == bt399.1 && (bt375.2.1 == bt399.2)) && (bt375.2.2.1 == 2)) = true then (if bt383.2 = 0 then ((Bs_Ints.f k bt383.1 (([1, 4] : List Int))).bind fun t404 => (if t404 = true then (if bt389.2.2 = 0 then ((Bs_Whole.f (-45)).bind fun bt405 => (some (bt389.1 == bt405.1 && (bt389.2.1 == bt405.2)))) else (none)) else (none))) else (none)) else (none))) else (none)) else (none))) else (none)) else (none))) else (none)) else (none))) else (none)))))))))))
theorem Lw_awake.mono : ∀ k, LeO (Lw_awake.f k ) (Lw_awake.f (k + 1) ) := by
 intro  k
 unfold Lw_awake.f
 repeat' first
   | (with_reducible exact Bs_Ints.mono _ _ _)
   | (with_reducible exact Bs_Lowest.mono _ _ _)
   | (with_reducible exact line_BiasOf.mono _ _ _ _ _ _)
   | (with_reducible exact line_DetectionsIn.mono _ _ _ _)
   | (with_reducible exact line_Estimated.mono _ _ _)
   | (with_reducible exact line_FalseRate.mono _ _ _ _)
   | (with_reducible exact line_SpeedAt.mono _ _ _ _ _ _)
   | (with_reducible exact line_WorstOf.mono _ _ _ _ _ _)
   | (with_reducible exact LeO.refl _)
   | (with_reducible exact LeO.none _)
   | (with_reducible refine LeO.ite ?_ ?_)
   | (with_reducible refine LeO.bind ?_ (fun _ => ?_))
   | exact Bs_Ints.mono _ _ _
   | exact Bs_Lowest.mono _ _ _
   | exact line_BiasOf.mono _ _ _ _ _ _
   | exact line_DetectionsIn.mono _ _ _ _
   | exact line_Estimated.mono _ _ _
   | exact line_FalseRate.mono _ _ _ _
   | exact line_SpeedAt.mono _ _ _ _ _ _
   | exact line_WorstOf.mono _ _ _ _ _ _
   | exact LeO.none _
   | refine LeO.ite ?_ ?_
   | refine LeO.bind ?_ (fun _ => ?_)
def Lw_awake.T7 : Bool × List (List Nat × List Nat) := (true, [([], []), ([0], [0]), ([1], [1]), ([2], [2]), ([2, 2], [2]), ([3, 4, 2], [2, 3, 4]), ([2, 5], [2, 5]), ([6, 4], [6]), ([7], [7]), ([8, 7], [7, 8]), ([7, 9], [7, 9]), ([10, 7], [10]), ([11], [11]), ([11, 11], [11]), ([12, 13, 11], [11, 12, 13]), ([11, 14], [11, 14]), ([15, 13], [15]), ([16], [16]), ([17, 16], [16, 17]), ([16, 18], [16, 18]), ([19, 16], [19]), ([20], [20]), ([20, 20], [20]), ([21, 22, 20], [20, 21, 22]), ([20, 23], [20, 23]), ([24, 22], [24]), ([25], [25]), ([26, 25], [25, 26]), ([25, 27], [25, 27]), ([28, 25], [28]), ([29], [29]), ([29, 29], [29]), ([31, 29], [29, 31]), ([30, 32, 29], [29, 30, 32]), ([29, 33], [29, 33]), ([34, 31], [34]), ([35], [35]), ([36, 35], [35, 36]), ([35, 37], [35, 37]), ([38, 35], [38]), ([39], [39]), ([39], [39]), ([40, 41, 39, 39], [39, 40, 41]), ([39, 42], [39, 42]), ([43, 42], [43]), ([44], [44]), ([45, 44], [44, 45]), ([44, 46], [44, 46]), ([47, 44], [47]), ([48], [48]), ([48, 48], [48]), ([49, 50, 48], [48, 49, 50]), ([48, 51], [48, 51]), ([52, 50, 0, 1, 2, 3, 4, 5, 6, 7, 8, 9, 10, 11, 12, 13, 14, 15, 16, 17, 18, 19, 20, 21, 22, 23, 24, 25, 26, 27, 28, 29, 30, 31, 32, 33, 34, 35, 36, 37, 38, 39, 40, 41, 42, 43, 44, 45, 46, 47, 48, 49, 50, 51, 52], [52])])
def Lw_awake.B7 : List Nat := [0, 1, 3, 7, 7, 31, 63, 127, 255, 511, 1023, 2047, 4095, 4095, 16383, 32767, 65535, 131071, 262143, 524287, 1048575, 2097151, 2097151, 8388607, 16777215, 33554431, 67108863, 134217727, 268435455, 536870911, 1073741823, 1073741823, 3221225471, 8589934591, 17179869183, 34359738367, 68719476735, 137438953471, 274877906943, 549755813887, 1099511627775, 1099511627775, 4398046511103, 8796093022207, 17592186044415, 35184372088831, 70368744177663, 140737488355327, 281474976710655, 562949953421311, 562949953421311, 2251799813685247, 4503599627370495, 9007199254740991]
theorem Lw_awake.tab7 : rtab .any (opsOf Tryd.f18 7) = Lw_awake.T7 := by kernel_rfl
theorem Lw_awake.bits7 : waitsOk Lw_awake.T7.2 Lw_awake.B7 = true := by kernel_rfl
theorem Lw_awake.calls (k : Nat)  (r : Bool) (w : World) (hG : EstG w) (h : Lw_awake.f k  = some r) :
  Calls Tryd.prog 18 #[] w fun e w' => e = .returned (.bool r) ∧ Below w.heap.size w w' := by
 have hu26 := Tryd.underlying26
 have hu36 := Tryd.underlying36
 have hu57 := Tryd.underlying57
 have hu63 := Tryd.underlying63
 have HG := m0 hG
 clear hG
 have HB := m0 (Below.refl w.heap.size w)
 have H : ((line_Estimated.f k (([1, 4, 2, 0] : List Int)) 2).bind fun bt344 => ((Lw_Noise.f).bind fun t348 => ((line_FalseRate.f k t348 2 1).bind fun bt351 => ((Lw_Case.f).bind fun bt355 => ((line_BiasOf.f k bt355.1 bt355.2.1 bt355.2.2.1 bt355.2.2.2 0).bind fun bt363 => ((Lw_Case.f).bind fun bt367 => ((line_WorstOf.f k bt367.1 bt367.2.1 bt367.2.2.1 bt367.2.2.2 1).bind fun bt375 => ((line_DetectionsIn.f k (([0, 5, 5, 1, 3] : List Int)) 3 1).bind fun bt383 => ((Bs_Lowest.f k 11 10).bind fun bt387 => ((line_SpeedAt.f k bt387.1 bt387.2 2 50 1).bind fun bt389 => (if bt344.2.2 = 0 then ((Bs_Lowest.f k 11 10).bind fun bt393 => (if (bt344.1 == bt393.1 && (bt344.2.1 == bt393.2)) = true then (if bt351.2.2 = 0 then ((Bs_Lowest.f k 3 4).bind fun bt395 => (if (bt351.1 == bt395.1 && (bt351.2.1 == bt395.2)) = true then (if bt363.2.2 = 0 then ((Bs_Lowest.f k 1 4).bind fun bt397 => (if (bt363.1 == bt397.1 && (bt363.2.1 == bt397.2)) = true then (if bt375.2.2.2 = 0 then ((Bs_Lowest.f k 3 5).bind fun bt399 => (if ((bt375.1 == bt399.1 && (bt375.2.1 == bt399.2)) && (bt375.2.2.1 == 2)) = true then (if bt383.2 = 0 then ((Bs_Ints.f k bt383.1 (([1, 4] : List Int))).bind fun t404 => (if t404 = true then (if bt389.2.2 = 0 then ((Bs_Whole.f (-45)).bind fun bt405 => (some (bt389.1 == bt405.1 && (bt389.2.1 == bt405.2)))) else (none)) else (none))) else (none)) else (none))) else (none)) else (none))) else (none)) else (none))) else (none)) else (none))) else (none)))))))))))) = some r := h
 clear h
 obtain ⟨y341, hy341⟩ : ∃ y_ : List Int, y_ = (([1, 4, 2, 0] : List Int)) := ⟨_, rfl⟩
 replace H : ((line_Estimated.f k y341 2).bind fun bt344 => ((Lw_Noise.f).bind fun t348 => ((line_FalseRate.f k t348 2 1).bind fun bt351 => ((Lw_Case.f).bind fun bt355 => ((line_BiasOf.f k bt355.1 bt355.2.1 bt355.2.2.1 bt355.2.2.2 0).bind fun bt363 => ((Lw_Case.f).bind fun bt367 => ((line_WorstOf.f k bt367.1 bt367.2.1 bt367.2.2.1 bt367.2.2.2 1).bind fun bt375 => ((line_DetectionsIn.f k (([0, 5, 5, 1, 3] : List Int)) 3 1).bind fun bt383 => ((Bs_Lowest.f k 11 10).bind fun bt387 => ((line_SpeedAt.f k bt387.1 bt387.2 2 50 1).bind fun bt389 => (if bt344.2.2 = 0 then ((Bs_Lowest.f k 11 10).bind fun bt393 => (if (bt344.1 == bt393.1 && (bt344.2.1 == bt393.2)) = true then (if bt351.2.2 = 0 then ((Bs_Lowest.f k 3 4).bind fun bt395 => (if (bt351.1 == bt395.1 && (bt351.2.1 == bt395.2)) = true then (if bt363.2.2 = 0 then ((Bs_Lowest.f k 1 4).bind fun bt397 => (if (bt363.1 == bt397.1 && (bt363.2.1 == bt397.2)) = true then (if bt375.2.2.2 = 0 then ((Bs_Lowest.f k 3 5).bind fun bt399 => (if ((bt375.1 == bt399.1 && (bt375.2.1 == bt399.2)) && (bt375.2.2.1 == 2)) = true then (if bt383.2 = 0 then ((Bs_Ints.f k bt383.1 (([1, 4] : List Int))).bind fun t404 => (if t404 = true then (if bt389.2.2 = 0 then ((Bs_Whole.f (-45)).bind fun bt405 => (some (bt389.1 == bt405.1 && (bt389.2.1 == bt405.2)))) else (none)) else (none))) else (none)) else (none))) else (none)) else (none))) else (none)) else (none))) else (none)) else (none))) else (none)))))))))))) = some r := by first | (rw [hy341]; with_reducible exact H) | (have H2_ := (Option.bind_some _ _).symm.trans H; rw [hy341]; with_reducible exact H2_) | (have H2_ := (Option.bind_some _ _).symm.trans H; with_reducible exact H2_) | with_reducible exact H | (rw [hy341]; exact H) | exact H
 have Ny341 := m0 hy341
 clear hy341
 replace H := ob H
 obtain ⟨⟨t344, t345, t346⟩, A10, H⟩ := H
 (try dsimp only at H)
 have A1 := m0 A10
 clear A10
 replace H := ob H
 obtain ⟨t348, A20, H⟩ := H
 (try dsimp only at H)
 have A2 := m0 A20
 clear A20
 replace H := ob H
 obtain ⟨⟨t351, t352, t353⟩, A30, H⟩ := H
 (try dsimp only at H)
 have A3 := m0 A30
 clear A30
 replace H := ob H
 obtain ⟨⟨t355, t358, t361, t362⟩, A40, H⟩ := H
 (try dsimp only at H)
 have A4 := m0 A40
 clear A40
 replace H := ob H
 obtain ⟨⟨t363, t364, t365⟩, A50, H⟩ := H
 (try dsimp only at H)
 have A5 := m0 A50
 clear A50
 replace H := ob H
 obtain ⟨⟨t367, t370, t373, t374⟩, A60, H⟩ := H
 (try dsimp only at H)
 have A6 := m0 A60
 clear A60
 replace H := ob H
 obtain ⟨⟨t375, t376, t377, t378⟩, A70, H⟩ := H
 (try dsimp only at H)
 have A7 := m0 A70
 clear A70
 obtain ⟨y380, hy380⟩ : ∃ y_ : List Int, y_ = (([0, 5, 5, 1, 3] : List Int)) := ⟨_, rfl⟩
 replace H : ((line_DetectionsIn.f k y380 3 1).bind fun bt383 => ((Bs_Lowest.f k 11 10).bind fun bt387 => ((line_SpeedAt.f k bt387.1 bt387.2 2 50 1).bind fun bt389 => (if t346 = 0 then ((Bs_Lowest.f k 11 10).bind fun bt393 => (if (t344 == bt393.1 && (t345 == bt393.2)) = true then (if t353 = 0 then ((Bs_Lowest.f k 3 4).bind fun bt395 => (if (t351 == bt395.1 && (t352 == bt395.2)) = true then (if t365 = 0 then ((Bs_Lowest.f k 1 4).bind fun bt397 => (if (t363 == bt397.1 && (t364 == bt397.2)) = true then (if t378 = 0 then ((Bs_Lowest.f k 3 5).bind fun bt399 => (if ((t375 == bt399.1 && (t376 == bt399.2)) && (t377 == 2)) = true then (if bt383.2 = 0 then ((Bs_Ints.f k bt383.1 (([1, 4] : List Int))).bind fun t404 => (if t404 = true then (if bt389.2.2 = 0 then ((Bs_Whole.f (-45)).bind fun bt405 => (some (bt389.1 == bt405.1 && (bt389.2.1 == bt405.2)))) else (none)) else (none))) else (none)) else (none))) else (none)) else (none))) else (none)) else (none))) else (none)) else (none))) else (none))))) = some r := by first | (rw [hy380]; with_reducible exact H) | (have H2_ := (Option.bind_some _ _).symm.trans H; rw [hy380]; with_reducible exact H2_) | (have H2_ := (Option.bind_some _ _).symm.trans H; with_reducible exact H2_) | with_reducible exact H | (rw [hy380]; exact H) | exact H
 have Ny380 := m0 hy380
 clear hy380
 replace H := ob H
 obtain ⟨⟨t383, t386⟩, A80, H⟩ := H
 (try dsimp only at H)
 have A8 := m0 A80
 clear A80
 replace H := ob H
 obtain ⟨⟨t387, t388⟩, A90, H⟩ := H
 (try dsimp only at H)
 have A9 := m0 A90
 clear A90
 replace H := ob H
 obtain ⟨⟨t389, t390, t391⟩, A100, H⟩ := H
 (try dsimp only at H)
 have A10 := m0 A100
 clear A100
 by_cases c11 : t346 = 0
 ·rw [if_pos c11] at H
  have c11b0 := beq_iff_eq.mpr c11
  have c11b1 := bne_eq_false_iff_eq.mpr c11
  clear c11
  replace H := ob H
  obtain ⟨⟨t393, t394⟩, A120, H⟩ := H
  (try dsimp only at H)
  have A12 := m0 A120
  clear A120
  by_cases c13 : (t344 == t393 && (t345 == t394)) = true
  ·rw [if_pos c13] at H
   have c13b0 : (t344 == t393 && (t345 == t394)) = true := c13
   (try (have c13b1 : decide (t344 = t393 && (t345 == t394)) = true := by simpa using c13))
   (try (have c13b2 : (t344 == t393 && (t345 == t394)) = true := by simpa using c13))
   clear c13
   by_cases c14 : t353 = 0
   ·rw [if_pos c14] at H
    have c14b0 := beq_iff_eq.mpr c14
    have c14b1 := bne_eq_false_iff_eq.mpr c14
    clear c14
    replace H := ob H
    obtain ⟨⟨t395, t396⟩, A150, H⟩ := H
    (try dsimp only at H)
    have A15 := m0 A150
    clear A150
    by_cases c16 : (t351 == t395 && (t352 == t396)) = true
    ·rw [if_pos c16] at H
     have c16b0 : (t351 == t395 && (t352 == t396)) = true := c16
     (try (have c16b1 : decide (t351 = t395 && (t352 == t396)) = true := by simpa using c16))
     (try (have c16b2 : (t351 == t395 && (t352 == t396)) = true := by simpa using c16))
     clear c16
     by_cases c17 : t365 = 0
     ·rw [if_pos c17] at H
      have c17b0 := beq_iff_eq.mpr c17
      have c17b1 := bne_eq_false_iff_eq.mpr c17
      clear c17
      replace H := ob H
      obtain ⟨⟨t397, t398⟩, A180, H⟩ := H
      (try dsimp only at H)
      have A18 := m0 A180
      clear A180
      by_cases c19 : (t363 == t397 && (t364 == t398)) = true
      ·rw [if_pos c19] at H
       have c19b0 : (t363 == t397 && (t364 == t398)) = true := c19
       (try (have c19b1 : decide (t363 = t397 && (t364 == t398)) = true := by simpa using c19))
       (try (have c19b2 : (t363 == t397 && (t364 == t398)) = true := by simpa using c19))
       clear c19
       by_cases c20 : t378 = 0
       ·rw [if_pos c20] at H
        have c20b0 := beq_iff_eq.mpr c20
        have c20b1 := bne_eq_false_iff_eq.mpr c20
        clear c20
        replace H := ob H
        obtain ⟨⟨t399, t400⟩, A210, H⟩ := H
        (try dsimp only at H)
        have A21 := m0 A210
        clear A210
        by_cases c22 : ((t375 == t399 && (t376 == t400)) && (t377 == 2)) = true
        ·rw [if_pos c22] at H
         have c22b0 : ((t375 == t399 && (t376 == t400)) && (t377 == 2)) = true := c22
         clear c22
         by_cases c23 : t386 = 0
         ·rw [if_pos c23] at H
          have c23b0 := beq_iff_eq.mpr c23
          have c23b1 := bne_eq_false_iff_eq.mpr c23
          clear c23
          obtain ⟨y401, hy401⟩ : ∃ y_ : List Int, y_ = (([1, 4] : List Int)) := ⟨_, rfl⟩
          replace H : ((Bs_Ints.f k t383 y401).bind fun t404 => (if t404 = true then (if t391 = 0 then ((Bs_Whole.f (-45)).bind fun bt405 => (some (t389 == bt405.1 && (t390 == bt405.2)))) else (none)) else (none))) = some r := by first | (rw [hy401]; with_reducible exact H) | (have H2_ := (Option.bind_some _ _).symm.trans H; rw [hy401]; with_reducible exact H2_) | (have H2_ := (Option.bind_some _ _).symm.trans H; with_reducible exact H2_) | with_reducible exact H | (rw [hy401]; exact H) | exact H
          have Ny401 := m0 hy401
          clear hy401
          replace H := ob H
          obtain ⟨t404, A240, H⟩ := H
          (try dsimp only at H)
          have A24 := m0 A240
          clear A240
          by_cases c25 : t404 = true
          ·subst c25
           rw [if_pos rfl] at H
           by_cases c26 : t391 = 0
           ·rw [if_pos c26] at H
            have c26b0 := beq_iff_eq.mpr c26
            have c26b1 := bne_eq_false_iff_eq.mpr c26
            clear c26
            replace H := ob H
            obtain ⟨⟨t405, t406⟩, A270, H⟩ := H
            (try dsimp only at H)
            have A27 := m0 A270
            clear A270
            obtain rfl := Option.some.inj H
            go_enter Tryd.func18, Tryd.ntmps18
            try go_wp2_with (first | ((with_reducible refine gate_dst (N := 14) rfl ?_); (try (refine gate_guard (by rfl) ?_; dsimp only)); refine Kd.R_lit (Kd.int .i64) _ 3 ?hg (N := 14) ?hd (xs := ([1, 4, 2, 0] : List Int)) (inner := [.int .i64 1, .int .i64 4, .int .i64 2, .int .i64 0]) (ok := fun _ => True) (okp := fun _ => True) ?hr ?hp (fun _ hk => hk) trivial (Below.refl _ _) (Nat.le_refl _) (by simp) ?_; (case hd => rfl); (case hg => rfl); (case hr => first | (go_simp; done) | (go_simp; rfl)); (case hp => exact (Reps.one (show Kd.M (Kd.int .i64) _ _ _ 1 [.int .i64 1] from rfl) (Reps.one (show Kd.M (Kd.int .i64) _ _ _ 4 [.int .i64 4] from rfl) (Reps.one (show Kd.M (Kd.int .i64) _ _ _ 2 [.int .i64 2] from rfl) (Reps.one (show Kd.M (Kd.int .i64) _ _ _ 0 [.int .i64 0] from rfl) (Reps.none _ _)))))); intro v342 w28 ho29 hb hg_ hnew_; clear hg_ hnew_; (first | rw [← Ny341.out] at ho29 | (simp only [Int.reduceToNat] at ho29; rw [← Ny341.out] at ho29)); have HO343 := m0 (Kd.R_lower ho29 (below_size bz)); replace HB := sb HB hb; clear hb ho29; obtain ⟨Ao30, co30, eo30⟩ := Kd.R_slice HO343.out; subst eo30) | ((with_reducible refine gate_callee (f := 34) rfl ?_); refine gl (some 15) Tryd.func34 #[.slice Ao30 y341.length co30, .int .i64 2] ?_; (with_reducible refine (line_Estimated.calls k _ _ y341 2 t344 t345 t346 _ ?side1 ?side2 ?side3 A1.out).mono ?_); (case side1 => exact bc (Kd.R_reads' HO343.out).2.2); (case side2 => exact (Kd.R_reads' HO343.out).2.1); (case side3 => exact EstG.below HG.out bz); rintro e w31 ⟨rfl, hb⟩; refine ⟨_, rfl, ?_⟩; replace HO343 := rb HO343 hb; replace HB := sb HB hb; (try clear hb)) | ((with_reducible refine gate_dst (N := 1) rfl ?_); (try (refine gate_guard (by rfl) ?_; dsimp only)); refine be 1 26 #[.int .i64 0, .int .i64 0] ?_; intro gb347 hg w32 hbox hb; replace HO343 := rb HO343 hb; have BK347 := m0 hbox; have GW347 := m0 (bg (n := w.heap.size) hg); have GE347 := m0 (bg (n := w.heap.size) hg); replace HB := sb HB hb; clear hb hbox hg; obtain ⟨_, _, _, _⟩ := b2 BK347) | ((with_reducible refine gate_callee (f := 89) rfl ?_); refine gl (some 19) Tryd.func89 #[] ?_; (with_reducible refine (Lw_Noise.calls  t348 _ A2.out).mono ?_); rintro e w34 ⟨v349, rfl, ho0, hb⟩; refine ⟨_, rfl, ?_⟩; have HO350 := m0 (Kd.R_lower (Kd.R_new' ho0 (Kd.R_lt (by (with_reducible repeat (first | apply Kd.R_alloc | apply Kd.R_drewN | apply Kd.R_drew)); exact (Kd.R_mono (Kd.R_far (p := ⟨gb347, 1, none⟩) (Kd.R_far (p := ⟨gb347, 0, none⟩) (Kd.R_types HO343.out BK347.out (by decide)) (fun _ hk => hk.2) (.int .i64 t344)) (fun _ hk => hk.2) (.int .i64 t345)) (fun _ h_ => h_.1))))) (below_size bz)); replace HO343 := m0 (Kd.R_elder' (by (with_reducible repeat (first | apply Kd.R_alloc | apply Kd.R_drewN | apply Kd.R_drew)); exact (Kd.R_mono (Kd.R_far (p := ⟨gb347, 1, none⟩) (Kd.R_far (p := ⟨gb347, 0, none⟩) (Kd.R_types HO343.out BK347.out (by decide)) (fun _ hk => hk.2) (.int .i64 t344)) (fun _ hk => hk.2) (.int .i64 t345)) (fun _ h_ => h_.1))) (Kd.R_base ho0) hb); replace BK347 := m0 (blk_below (g := gb347) (o := .cells #[.int .i64 t344, .int .i64 t345] 26 (0, 0)) (bq BK347.out) hb); replace HB := sb HB hb; (try clear hb); (try clear ho0); obtain ⟨Ao35, co35, eo35⟩ := Kd.R_slice HO350.out; subst eo35) | ((with_reducible refine gate_callee (f := 83) rfl ?_); refine gl (some 20) Tryd.func83 #[.agg #[.slice Ao35 t348.length co35], .int .i64 2, .int .i64 1] ?_; (with_reducible refine (line_FalseRate.calls k _ _ t348 2 1 t351 t352 t353 _ ?side1 ?side2 A3.out).mono ?_); (case side1 => exact bc (Kd.R_reads' HO350.out).2.2); (case side2 => exact (Kd.R_reads' HO350.out).2.1); rintro e w36 ⟨rfl, hb⟩; refine ⟨_, rfl, ?_⟩; replace HO343 := rb HO343 hb; replace HO350 := rb HO350 hb; replace BK347 := bb BK347 hb; replace HB := sb HB hb; (try clear hb)) | ((with_reducible refine gate_dst (N := 3) rfl ?_); (try (refine gate_guard (by rfl) ?_; dsimp only)); refine be 3 26 #[.int .i64 0, .int .i64 0] ?_; intro gb354 hg w37 hbox hb; replace HO343 := rb HO343 hb; replace HO350 := rb HO350 hb; have BK354 := m0 hbox; have GW354 := m0 (bg (n := w.heap.size) hg); have GE354 := m0 (bg (n := w.heap.size) hg); replace HB := sb HB hb; have NB347_354 := nl BK347 hg; have NB354_347 := ng (nl BK347 hg); replace BK347 := bb BK347 hb; clear hb hbox hg; have hnb38 := NB354_347.out; have hnc38 := NB347_354.out; obtain ⟨_, _, _, _⟩ := b2 BK354) | ((with_reducible refine gate_callee (f := 90) rfl ?_); refine gl (some 24) Tryd.func90 #[] ?_; (with_reducible refine (Lw_Case.calls  t355 t358 t361 t362 _ A4.out).mono ?_); rintro e w40 ⟨v356, v359, rfl, ho0, ho1, hb⟩; refine ⟨_, rfl, ?_⟩; have HO357 := m0 (Kd.R_lower (Kd.R_new' (Kd.R_new' ho0 (Kd.R_lt (by (with_reducible repeat (first | apply Kd.R_alloc | apply Kd.R_drewN | apply Kd.R_drew)); exact (Kd.R_mono (Kd.R_far (p := ⟨gb354, 1, none⟩) (Kd.R_far (p := ⟨gb354, 0, none⟩) (Kd.R_types HO343.out BK354.out (by decide)) (fun _ hk => hk.2) (.int .i64 t351)) (fun _ hk => hk.2) (.int .i64 t352)) (fun _ h_ => h_.1))))) (Kd.R_lt (by (with_reducible repeat (first | apply Kd.R_alloc | apply Kd.R_drewN | apply Kd.R_drew)); exact (Kd.R_mono (Kd.R_far (p := ⟨gb354, 1, none⟩) (Kd.R_far (p := ⟨gb354, 0, none⟩) (Kd.R_types HO350.out BK354.out (by decide)) (fun _ hk => hk.2) (.int .i64 t351)) (fun _ hk => hk.2) (.int .i64 t352)) (fun _ h_ => h_.1))))) (below_size bz)); have HO360 := m0 (Kd.R_lower (Kd.R_new' (Kd.R_new' ho1 (Kd.R_lt (by (with_reducible repeat (first | apply Kd.R_alloc | apply Kd.R_drewN | apply Kd.R_drew)); exact (Kd.R_mono (Kd.R_far (p := ⟨gb354, 1, none⟩) (Kd.R_far (p := ⟨gb354, 0, none⟩) (Kd.R_types HO343.out BK354.out (by decide)) (fun _ hk => hk.2) (.int .i64 t351)) (fun _ hk => hk.2) (.int .i64 t352)) (fun _ h_ => h_.1))))) (Kd.R_lt (by (with_reducible repeat (first | apply Kd.R_alloc | apply Kd.R_drewN | apply Kd.R_drew)); exact (Kd.R_mono (Kd.R_far (p := ⟨gb354, 1, none⟩) (Kd.R_far (p := ⟨gb354, 0, none⟩) (Kd.R_types HO350.out BK354.out (by decide)) (fun _ hk => hk.2) (.int .i64 t351)) (fun _ hk => hk.2) (.int .i64 t352)) (fun _ h_ => h_.1))))) (below_size bz)); replace HO343 := m0 (Kd.R_mono (Kd.R_told (Kd.R_told (Kd.R_old (by (with_reducible repeat (first | apply Kd.R_alloc | apply Kd.R_drewN | apply Kd.R_drew)); exact (Kd.R_mono (Kd.R_far (p := ⟨gb354, 1, none⟩) (Kd.R_far (p := ⟨gb354, 0, none⟩) (Kd.R_types HO343.out BK354.out (by decide)) (fun _ hk => hk.2) (.int .i64 t351)) (fun _ hk => hk.2) (.int .i64 t352)) (fun _ h_ => h_.1))) hb) (Kd.R_base ho0)) (Kd.R_base ho1)) (fun _ h_ => h_.1)); replace HO350 := m0 (Kd.R_mono (Kd.R_told (Kd.R_told (Kd.R_old (by (with_reducible repeat (first | apply Kd.R_alloc | apply Kd.R_drewN | apply Kd.R_drew)); exact (Kd.R_mono (Kd.R_far (p := ⟨gb354, 1, none⟩) (Kd.R_far (p := ⟨gb354, 0, none⟩) (Kd.R_types HO350.out BK354.out (by decide)) (fun _ hk => hk.2) (.int .i64 t351)) (fun _ hk => hk.2) (.int .i64 t352)) (fun _ h_ => h_.1))) hb) (Kd.R_base ho0)) (Kd.R_base ho1)) (fun _ h_ => h_.1)); replace BK347 := m0 (blk_below (g := gb347) (o := .cells #[.int .i64 t344, .int .i64 t345] 26 (0, 0)) (bq BK347.out) hb); replace BK354 := m0 (blk_below (g := gb354) (o := .cells #[.int .i64 t351, .int .i64 t352] 26 (0, 0)) (bq BK354.out) hb); replace HB := sb HB hb; (try clear hb); (try clear ho0); (try clear ho1); obtain ⟨Ao41, co41, eo41⟩ := Kd.R_slice HO357.out; subst eo41; obtain ⟨Ao42, co42, eo42⟩ := Kd.R_slice HO360.out; subst eo42) | ((with_reducible refine gate_callee (f := 20) rfl ?_); refine gl (some 25) Tryd.func20 #[.agg #[.slice Ao41 t355.length co41, .slice Ao42 t358.length co42, .int .i64 t361, .int .i64 t362], .int .i64 0] ?_; (with_reducible refine (line_BiasOf.calls k _ _ t355 _ _ t358 t361 t362 0 t363 t364 t365 _ ?side1 ?side2 ?side3 ?side4 ?side5 A5.out).mono ?_); (case side1 => exact bc (Kd.R_reads' HO357.out).2.2); (case side2 => exact (Kd.R_reads' HO357.out).2.1); (case side3 => exact bc (Kd.R_reads' HO360.out).2.2); (case side4 => exact (Kd.R_reads' HO360.out).2.1); (case side5 => exact EstG.below HG.out bz); rintro e w43 ⟨rfl, hb⟩; refine ⟨_, rfl, ?_⟩; replace HO343 := rb HO343 hb; replace HO350 := rb HO350 hb; replace HO357 := rb HO357 hb; replace HO360 := rb HO360 hb; replace BK347 := bb BK347 hb; replace BK354 := bb BK354 hb; replace HB := sb HB hb; (try clear hb)) | ((with_reducible refine gate_dst (N := 5) rfl ?_); (try (refine gate_guard (by rfl) ?_; dsimp only)); refine be 5 26 #[.int .i64 0, .int .i64 0] ?_; intro gb366 hg w44 hbox hb; replace HO343 := rb HO343 hb; replace HO350 := rb HO350 hb; replace HO357 := rb HO357 hb; replace HO360 := rb HO360 hb; have BK366 := m0 hbox; have GW366 := m0 (bg (n := w.heap.size) hg); have GE366 := m0 (bg (n := w.heap.size) hg); replace HB := sb HB hb; have NB347_366 := nl BK347 hg; have NB366_347 := ng (nl BK347 hg); replace BK347 := bb BK347 hb; have NB354_366 := nl BK354 hg; have NB366_354 := ng (nl BK354 hg); replace BK354 := bb BK354 hb; clear hb hbox hg; have hnb45 := NB366_347.out; have hnc45 := NB347_366.out; have hnb46 := NB366_354.out; have hnc46 := NB354_366.out; obtain ⟨_, _, _, _⟩ := b2 BK366) | ((with_reducible refine gate_callee (f := 90) rfl ?_); refine gl (some 29) Tryd.func90 #[] ?_; (with_reducible refine (Lw_Case.calls  t367 t370 t373 t374 _ A6.out).mono ?_); rintro e w48 ⟨v368, v371, rfl, ho0, ho1, hb⟩; refine ⟨_, rfl, ?_⟩; have HO369 := m0 (Kd.R_lower (Kd.R_new' (Kd.R_new' (Kd.R_new' (Kd.R_new' ho0 (Kd.R_lt (by (with_reducible repeat (first | apply Kd.R_alloc | apply Kd.R_drewN | apply Kd.R_drew)); exact (Kd.R_mono (Kd.R_far (p := ⟨gb366, 1, none⟩) (Kd.R_far (p := ⟨gb366, 0, none⟩) (Kd.R_types HO343.out BK366.out (by decide)) (fun _ hk => hk.2) (.int .i64 t363)) (fun _ hk => hk.2) (.int .i64 t364)) (fun _ h_ => h_.1))))) (Kd.R_lt (by (with_reducible repeat (first | apply Kd.R_alloc | apply Kd.R_drewN | apply Kd.R_drew)); exact (Kd.R_mono (Kd.R_far (p := ⟨gb366, 1, none⟩) (Kd.R_far (p := ⟨gb366, 0, none⟩) (Kd.R_types HO350.out BK366.out (by decide)) (fun _ hk => hk.2) (.int .i64 t363)) (fun _ hk => hk.2) (.int .i64 t364)) (fun _ h_ => h_.1))))) (Kd.R_lt (by (with_reducible repeat (first | apply Kd.R_alloc | apply Kd.R_drewN | apply Kd.R_drew)); exact (Kd.R_mono (Kd.R_far (p := ⟨gb366, 1, none⟩) (Kd.R_far (p := ⟨gb366, 0, none⟩) (Kd.R_types HO357.out BK366.out (by decide)) (fun _ hk => hk.2) (.int .i64 t363)) (fun _ hk => hk.2) (.int .i64 t364)) (fun _ h_ => h_.1))))) (Kd.R_lt (by (with_reducible repeat (first | apply Kd.R_alloc | apply Kd.R_drewN | apply Kd.R_drew)); exact (Kd.R_mono (Kd.R_far (p := ⟨gb366, 1, none⟩) (Kd.R_far (p := ⟨gb366, 0, none⟩) (Kd.R_types HO360.out BK366.out (by decide)) (fun _ hk => hk.2) (.int .i64 t363)) (fun _ hk => hk.2) (.int .i64 t364)) (fun _ h_ => h_.1))))) (below_size bz)); have HO372 := m0 (Kd.R_lower (Kd.R_new' (Kd.R_new' (Kd.R_new' (Kd.R_new' ho1 (Kd.R_lt (by (with_reducible repeat (first | apply Kd.R_alloc | apply Kd.R_drewN | apply Kd.R_drew)); exact (Kd.R_mono (Kd.R_far (p := ⟨gb366, 1, none⟩) (Kd.R_far (p := ⟨gb366, 0, none⟩) (Kd.R_types HO343.out BK366.out (by decide)) (fun _ hk => hk.2) (.int .i64 t363)) (fun _ hk => hk.2) (.int .i64 t364)) (fun _ h_ => h_.1))))) (Kd.R_lt (by (with_reducible repeat (first | apply Kd.R_alloc | apply Kd.R_drewN | apply Kd.R_drew)); exact (Kd.R_mono (Kd.R_far (p := ⟨gb366, 1, none⟩) (Kd.R_far (p := ⟨gb366, 0, none⟩) (Kd.R_types HO350.out BK366.out (by decide)) (fun _ hk => hk.2) (.int .i64 t363)) (fun _ hk => hk.2) (.int .i64 t364)) (fun _ h_ => h_.1))))) (Kd.R_lt (by (with_reducible repeat (first | apply Kd.R_alloc | apply Kd.R_drewN | apply Kd.R_drew)); exact (Kd.R_mono (Kd.R_far (p := ⟨gb366, 1, none⟩) (Kd.R_far (p := ⟨gb366, 0, none⟩) (Kd.R_types HO357.out BK366.out (by decide)) (fun _ hk => hk.2) (.int .i64 t363)) (fun _ hk => hk.2) (.int .i64 t364)) (fun _ h_ => h_.1))))) (Kd.R_lt (by (with_reducible repeat (first | apply Kd.R_alloc | apply Kd.R_drewN | apply Kd.R_drew)); exact (Kd.R_mono (Kd.R_far (p := ⟨gb366, 1, none⟩) (Kd.R_far (p := ⟨gb366, 0, none⟩) (Kd.R_types HO360.out BK366.out (by decide)) (fun _ hk => hk.2) (.int .i64 t363)) (fun _ hk => hk.2) (.int .i64 t364)) (fun _ h_ => h_.1))))) (below_size bz)); replace HO343 := m0 (Kd.R_mono (Kd.R_told (Kd.R_told (Kd.R_old (by (with_reducible repeat (first | apply Kd.R_alloc | apply Kd.R_drewN | apply Kd.R_drew)); exact (Kd.R_mono (Kd.R_far (p := ⟨gb366, 1, none⟩) (Kd.R_far (p := ⟨gb366, 0, none⟩) (Kd.R_types HO343.out BK366.out (by decide)) (fun _ hk => hk.2) (.int .i64 t363)) (fun _ hk => hk.2) (.int .i64 t364)) (fun _ h_ => h_.1))) hb) (Kd.R_base ho0)) (Kd.R_base ho1)) (fun _ h_ => h_.1)); replace HO350 := m0 (Kd.R_mono (Kd.R_told (Kd.R_told (Kd.R_old (by (with_reducible repeat (first | apply Kd.R_alloc | apply Kd.R_drewN | apply Kd.R_drew)); exact (Kd.R_mono (Kd.R_far (p := ⟨gb366, 1, none⟩) (Kd.R_far (p := ⟨gb366, 0, none⟩) (Kd.R_types HO350.out BK366.out (by decide)) (fun _ hk => hk.2) (.int .i64 t363)) (fun _ hk => hk.2) (.int .i64 t364)) (fun _ h_ => h_.1))) hb) (Kd.R_base ho0)) (Kd.R_base ho1)) (fun _ h_ => h_.1)); replace HO357 := m0 (Kd.R_mono (Kd.R_told (Kd.R_told (Kd.R_old (by (with_reducible repeat (first | apply Kd.R_alloc | apply Kd.R_drewN | apply Kd.R_drew)); exact (Kd.R_mono (Kd.R_far (p := ⟨gb366, 1, none⟩) (Kd.R_far (p := ⟨gb366, 0, none⟩) (Kd.R_types HO357.out BK366.out (by decide)) (fun _ hk => hk.2) (.int .i64 t363)) (fun _ hk => hk.2) (.int .i64 t364)) (fun _ h_ => h_.1))) hb) (Kd.R_base ho0)) (Kd.R_base ho1)) (fun _ h_ => h_.1)); replace HO360 := m0 (Kd.R_mono (Kd.R_told (Kd.R_told (Kd.R_old (by (with_reducible repeat (first | apply Kd.R_alloc | apply Kd.R_drewN | apply Kd.R_drew)); exact (Kd.R_mono (Kd.R_far (p := ⟨gb366, 1, none⟩) (Kd.R_far (p := ⟨gb366, 0, none⟩) (Kd.R_types HO360.out BK366.out (by decide)) (fun _ hk => hk.2) (.int .i64 t363)) (fun _ hk => hk.2) (.int .i64 t364)) (fun _ h_ => h_.1))) hb) (Kd.R_base ho0)) (Kd.R_base ho1)) (fun _ h_ => h_.1)); replace BK347 := m0 (blk_below (g := gb347) (o := .cells #[.int .i64 t344, .int .i64 t345] 26 (0, 0)) (bq BK347.out) hb); replace BK354 := m0 (blk_below (g := gb354) (o := .cells #[.int .i64 t351, .int .i64 t352] 26 (0, 0)) (bq BK354.out) hb); replace BK366 := m0 (blk_below (g := gb366) (o := .cells #[.int .i64 t363, .int .i64 t364] 26 (0, 0)) (bq BK366.out) hb); replace HB := sb HB hb; (try clear hb); (try clear ho0); (try clear ho1); obtain ⟨Ao49, co49, eo49⟩ := Kd.R_slice HO369.out; subst eo49; obtain ⟨Ao50, co50, eo50⟩ := Kd.R_slice HO372.out; subst eo50) | ((with_reducible refine gate_callee (f := 22) rfl ?_); refine gl (some 30) Tryd.func22 #[.agg #[.slice Ao49 t367.length co49, .slice Ao50 t370.length co50, .int .i64 t373, .int .i64 t374], .int .i64 1] ?_; (with_reducible refine (line_WorstOf.calls k _ _ t367 _ _ t370 t373 t374 1 t375 t376 t377 t378 _ ?side1 ?side2 ?side3 ?side4 ?side5 A7.out).mono ?_); (case side1 => exact bc (Kd.R_reads' HO369.out).2.2); (case side2 => exact (Kd.R_reads' HO369.out).2.1); (case side3 => exact bc (Kd.R_reads' HO372.out).2.2); (case side4 => exact (Kd.R_reads' HO372.out).2.1); (case side5 => exact EstG.below HG.out bz); rintro e w51 ⟨rfl, hb⟩; refine ⟨_, rfl, ?_⟩; replace HO343 := rb HO343 hb; replace HO350 := rb HO350 hb; replace HO357 := rb HO357 hb; replace HO360 := rb HO360 hb; replace HO369 := rb HO369 hb; replace HO372 := rb HO372 hb; replace BK347 := bb BK347 hb; replace BK354 := bb BK354 hb; replace BK366 := bb BK366 hb; replace HB := sb HB hb; (try clear hb)) | ((with_reducible refine gate_dst (N := 7) rfl ?_); (try (refine gate_guard (by rfl) ?_; dsimp only)); refine be 7 36 #[.int .i64 0, .int .i64 0, .int .i64 0] ?_; intro gb379 hg w52 hbox hb; replace HO343 := rb HO343 hb; replace HO350 := rb HO350 hb; replace HO357 := rb HO357 hb; replace HO360 := rb HO360 hb; replace HO369 := rb HO369 hb; replace HO372 := rb HO372 hb; have BK379 := m0 hbox; have GW379 := m0 (bg (n := w.heap.size) hg); have GE379 := m0 (bg (n := w.heap.size) hg); replace HB := sb HB hb; have NB347_379 := nl BK347 hg; have NB379_347 := ng (nl BK347 hg); replace BK347 := bb BK347 hb; have NB354_379 := nl BK354 hg; have NB379_354 := ng (nl BK354 hg); replace BK354 := bb BK354 hb; have NB366_379 := nl BK366 hg; have NB379_366 := ng (nl BK366 hg); replace BK366 := bb BK366 hb; clear hb hbox hg; have hnb53 := NB379_347.out; have hnc53 := NB347_379.out; have hnb54 := NB379_354.out; have hnc54 := NB354_379.out; have hnb55 := NB379_366.out; have hnc55 := NB366_379.out; obtain ⟨_, _, _, _, _, _⟩ := b3 BK379) | ((with_reducible refine gate_dst (N := 34) rfl ?_); (try (refine gate_guard (by rfl) ?_; dsimp only)); refine Kd.R_lit (Kd.int .i64) _ 3 ?hg (N := 34) ?hd (xs := ([0, 5, 5, 1, 3] : List Int)) (inner := [.int .i64 0, .int .i64 5, .int .i64 5, .int .i64 1, .int .i64 3]) (ok := fun _ => True) (okp := fun _ => True) ?hr ?hp (fun _ hk => hk) trivial (Below.refl _ _) (Nat.le_refl _) (by simp) ?_; (case hd => rfl); (case hg => rfl); (case hr => first | (go_simp; done) | (go_simp; rfl)); (case hp => exact (Reps.one (show Kd.M (Kd.int .i64) _ _ _ 0 [.int .i64 0] from rfl) (Reps.one (show Kd.M (Kd.int .i64) _ _ _ 5 [.int .i64 5] from rfl) (Reps.one (show Kd.M (Kd.int .i64) _ _ _ 5 [.int .i64 5] from rfl) (Reps.one (show Kd.M (Kd.int .i64) _ _ _ 1 [.int .i64 1] from rfl) (Reps.one (show Kd.M (Kd.int .i64) _ _ _ 3 [.int .i64 3] from rfl) (Reps.none _ _))))))); intro v381 w57 ho58 hb hg_ hnew_; clear hg_ hnew_; (first | rw [← Ny380.out] at ho58 | (simp only [Int.reduceToNat] at ho58; rw [← Ny380.out] at ho58)); have HO382 := m0 (Kd.R_lower (Kd.R_new' (Kd.R_new' (Kd.R_new' (Kd.R_new' (Kd.R_new' (Kd.R_new' ho58 (Kd.R_lt (by (with_reducible repeat (first | apply Kd.R_alloc | apply Kd.R_drewN | apply Kd.R_drew)); exact (Kd.R_mono (Kd.R_far (p := ⟨gb379, 2, none⟩) (Kd.R_far (p := ⟨gb379, 1, none⟩) (Kd.R_far (p := ⟨gb379, 0, none⟩) (Kd.R_types HO343.out BK379.out (by decide)) (fun _ hk => hk.2) (.int .i64 t375)) (fun _ hk => hk.2) (.int .i64 t376)) (fun _ hk => hk.2) (.int .i64 t377)) (fun _ h_ => h_.1))))) (Kd.R_lt (by (with_reducible repeat (first | apply Kd.R_alloc | apply Kd.R_drewN | apply Kd.R_drew)); exact (Kd.R_mono (Kd.R_far (p := ⟨gb379, 2, none⟩) (Kd.R_far (p := ⟨gb379, 1, none⟩) (Kd.R_far (p := ⟨gb379, 0, none⟩) (Kd.R_types HO350.out BK379.out (by decide)) (fun _ hk => hk.2) (.int .i64 t375)) (fun _ hk => hk.2) (.int .i64 t376)) (fun _ hk => hk.2) (.int .i64 t377)) (fun _ h_ => h_.1))))) (Kd.R_lt (by (with_reducible repeat (first | apply Kd.R_alloc | apply Kd.R_drewN | apply Kd.R_drew)); exact (Kd.R_mono (Kd.R_far (p := ⟨gb379, 2, none⟩) (Kd.R_far (p := ⟨gb379, 1, none⟩) (Kd.R_far (p := ⟨gb379, 0, none⟩) (Kd.R_types HO357.out BK379.out (by decide)) (fun _ hk => hk.2) (.int .i64 t375)) (fun _ hk => hk.2) (.int .i64 t376)) (fun _ hk => hk.2) (.int .i64 t377)) (fun _ h_ => h_.1))))) (Kd.R_lt (by (with_reducible repeat (first | apply Kd.R_alloc | apply Kd.R_drewN | apply Kd.R_drew)); exact (Kd.R_mono (Kd.R_far (p := ⟨gb379, 2, none⟩) (Kd.R_far (p := ⟨gb379, 1, none⟩) (Kd.R_far (p := ⟨gb379, 0, none⟩) (Kd.R_types HO360.out BK379.out (by decide)) (fun _ hk => hk.2) (.int .i64 t375)) (fun _ hk => hk.2) (.int .i64 t376)) (fun _ hk => hk.2) (.int .i64 t377)) (fun _ h_ => h_.1))))) (Kd.R_lt (by (with_reducible repeat (first | apply Kd.R_alloc | apply Kd.R_drewN | apply Kd.R_drew)); exact (Kd.R_mono (Kd.R_far (p := ⟨gb379, 2, none⟩) (Kd.R_far (p := ⟨gb379, 1, none⟩) (Kd.R_far (p := ⟨gb379, 0, none⟩) (Kd.R_types HO369.out BK379.out (by decide)) (fun _ hk => hk.2) (.int .i64 t375)) (fun _ hk => hk.2) (.int .i64 t376)) (fun _ hk => hk.2) (.int .i64 t377)) (fun _ h_ => h_.1))))) (Kd.R_lt (by (with_reducible repeat (first | apply Kd.R_alloc | apply Kd.R_drewN | apply Kd.R_drew)); exact (Kd.R_mono (Kd.R_far (p := ⟨gb379, 2, none⟩) (Kd.R_far (p := ⟨gb379, 1, none⟩) (Kd.R_far (p := ⟨gb379, 0, none⟩) (Kd.R_types HO372.out BK379.out (by decide)) (fun _ hk => hk.2) (.int .i64 t375)) (fun _ hk => hk.2) (.int .i64 t376)) (fun _ hk => hk.2) (.int .i64 t377)) (fun _ h_ => h_.1))))) (below_size bz)); replace HO343 := m0 (Kd.R_elder' (by (with_reducible repeat (first | apply Kd.R_alloc | apply Kd.R_drewN | apply Kd.R_drew)); exact (Kd.R_mono (Kd.R_far (p := ⟨gb379, 2, none⟩) (Kd.R_far (p := ⟨gb379, 1, none⟩) (Kd.R_far (p := ⟨gb379, 0, none⟩) (Kd.R_types HO343.out BK379.out (by decide)) (fun _ hk => hk.2) (.int .i64 t375)) (fun _ hk => hk.2) (.int .i64 t376)) (fun _ hk => hk.2) (.int .i64 t377)) (fun _ h_ => h_.1))) (Kd.R_base ho58) hb); replace HO350 := m0 (Kd.R_elder' (by (with_reducible repeat (first | apply Kd.R_alloc | apply Kd.R_drewN | apply Kd.R_drew)); exact (Kd.R_mono (Kd.R_far (p := ⟨gb379, 2, none⟩) (Kd.R_far (p := ⟨gb379, 1, none⟩) (Kd.R_far (p := ⟨gb379, 0, none⟩) (Kd.R_types HO350.out BK379.out (by decide)) (fun _ hk => hk.2) (.int .i64 t375)) (fun _ hk => hk.2) (.int .i64 t376)) (fun _ hk => hk.2) (.int .i64 t377)) (fun _ h_ => h_.1))) (Kd.R_base ho58) hb); replace HO357 := m0 (Kd.R_elder' (by (with_reducible repeat (first | apply Kd.R_alloc | apply Kd.R_drewN | apply Kd.R_drew)); exact (Kd.R_mono (Kd.R_far (p := ⟨gb379, 2, none⟩) (Kd.R_far (p := ⟨gb379, 1, none⟩) (Kd.R_far (p := ⟨gb379, 0, none⟩) (Kd.R_types HO357.out BK379.out (by decide)) (fun _ hk => hk.2) (.int .i64 t375)) (fun _ hk => hk.2) (.int .i64 t376)) (fun _ hk => hk.2) (.int .i64 t377)) (fun _ h_ => h_.1))) (Kd.R_base ho58) hb); replace HO360 := m0 (Kd.R_elder' (by (with_reducible repeat (first | apply Kd.R_alloc | apply Kd.R_drewN | apply Kd.R_drew)); exact (Kd.R_mono (Kd.R_far (p := ⟨gb379, 2, none⟩) (Kd.R_far (p := ⟨gb379, 1, none⟩) (Kd.R_far (p := ⟨gb379, 0, none⟩) (Kd.R_types HO360.out BK379.out (by decide)) (fun _ hk => hk.2) (.int .i64 t375)) (fun _ hk => hk.2) (.int .i64 t376)) (fun _ hk => hk.2) (.int .i64 t377)) (fun _ h_ => h_.1))) (Kd.R_base ho58) hb); replace HO369 := m0 (Kd.R_elder' (by (with_reducible repeat (first | apply Kd.R_alloc | apply Kd.R_drewN | apply Kd.R_drew)); exact (Kd.R_mono (Kd.R_far (p := ⟨gb379, 2, none⟩) (Kd.R_far (p := ⟨gb379, 1, none⟩) (Kd.R_far (p := ⟨gb379, 0, none⟩) (Kd.R_types HO369.out BK379.out (by decide)) (fun _ hk => hk.2) (.int .i64 t375)) (fun _ hk => hk.2) (.int .i64 t376)) (fun _ hk => hk.2) (.int .i64 t377)) (fun _ h_ => h_.1))) (Kd.R_base ho58) hb); replace HO372 := m0 (Kd.R_elder' (by (with_reducible repeat (first | apply Kd.R_alloc | apply Kd.R_drewN | apply Kd.R_drew)); exact (Kd.R_mono (Kd.R_far (p := ⟨gb379, 2, none⟩) (Kd.R_far (p := ⟨gb379, 1, none⟩) (Kd.R_far (p := ⟨gb379, 0, none⟩) (Kd.R_types HO372.out BK379.out (by decide)) (fun _ hk => hk.2) (.int .i64 t375)) (fun _ hk => hk.2) (.int .i64 t376)) (fun _ hk => hk.2) (.int .i64 t377)) (fun _ h_ => h_.1))) (Kd.R_base ho58) hb); replace BK347 := m0 (blk_below (g := gb347) (o := .cells #[.int .i64 t344, .int .i64 t345] 26 (0, 0)) (bq BK347.out) hb); replace BK354 := m0 (blk_below (g := gb354) (o := .cells #[.int .i64 t351, .int .i64 t352] 26 (0, 0)) (bq BK354.out) hb); replace BK366 := m0 (blk_below (g := gb366) (o := .cells #[.int .i64 t363, .int .i64 t364] 26 (0, 0)) (bq BK366.out) hb); replace BK379 := m0 (blk_below (g := gb379) (o := .cells #[.int .i64 t375, .int .i64 t376, .int .i64 t377] 36 (0, 0)) (bq BK379.out) hb); replace HB := sb HB hb; clear hb ho58; obtain ⟨Ao59, co59, eo59⟩ := Kd.R_slice HO382.out; subst eo59) | ((with_reducible refine gate_callee (f := 43) rfl ?_); refine gl (some 36) Tryd.func43 #[.slice Ao59 y380.length co59, .agg #[.int .i64 3, .int .i64 1]] ?_; (with_reducible refine (line_DetectionsIn.calls k _ _ y380 3 1 t383 t386 _ ?side1 ?side2 A8.out).mono ?_); (case side1 => exact bc (Kd.R_reads' HO382.out).2.2); (case side2 => exact (Kd.R_reads' HO382.out).2.1); rintro e w60 ⟨v384, rfl, ho0, hb⟩; refine ⟨_, rfl, ?_⟩; have HO385 := m0 (Kd.R_lower (Kd.R_new' (Kd.R_new' (Kd.R_new' (Kd.R_new' (Kd.R_new' (Kd.R_new' (Kd.R_new' ho0 (Kd.R_lt (br HO343.out))) (Kd.R_lt (br HO350.out))) (Kd.R_lt (br HO357.out))) (Kd.R_lt (br HO360.out))) (Kd.R_lt (br HO369.out))) (Kd.R_lt (br HO372.out))) (Kd.R_lt (br HO382.out))) (below_size bz)); replace HO343 := m0 (Kd.R_elder' (br HO343.out) (Kd.R_base ho0) hb); replace HO350 := m0 (Kd.R_elder' (br HO350.out) (Kd.R_base ho0) hb); replace HO357 := m0 (Kd.R_elder' (br HO357.out) (Kd.R_base ho0) hb); replace HO360 := m0 (Kd.R_elder' (br HO360.out) (Kd.R_base ho0) hb); replace HO369 := m0 (Kd.R_elder' (br HO369.out) (Kd.R_base ho0) hb); replace HO372 := m0 (Kd.R_elder' (br HO372.out) (Kd.R_base ho0) hb); replace HO382 := m0 (Kd.R_elder' (br HO382.out) (Kd.R_base ho0) hb); replace BK347 := bb BK347 hb; replace BK354 := bb BK354 hb; replace BK366 := bb BK366 hb; replace BK379 := bb BK379 hb; replace HB := sb HB hb; (try clear hb); (try clear ho0)) | ((with_reducible refine gate_callee (f := 41) rfl ?_); refine gl (some 40) Tryd.func41 #[.int .i64 11, .int .i64 10] ?_; (with_reducible refine (Bs_Lowest.calls k 11 10 t387 t388 _ A9.out).mono ?_); rintro e w61 ⟨rfl, hb⟩; refine ⟨_, rfl, ?_⟩; replace HO343 := rb HO343 hb; replace HO350 := rb HO350 hb; replace HO357 := rb HO357 hb; replace HO360 := rb HO360 hb; replace HO369 := rb HO369 hb; replace HO372 := rb HO372 hb; replace HO382 := rb HO382 hb; replace HO385 := rb HO385 hb; replace BK347 := bb BK347 hb; replace BK354 := bb BK354 hb; replace BK366 := bb BK366 hb; replace BK379 := bb BK379 hb; replace HB := sb HB hb; (try clear hb)) | ((with_reducible refine gate_callee (f := 45) rfl ?_); refine gl (some 42) Tryd.func45 #[.agg #[.int .i64 t387, .int .i64 t388], .agg #[.int .i64 2, .int .i64 50, .int .i64 1]] ?_; (with_reducible refine (line_SpeedAt.calls k t387 t388 2 50 1 t389 t390 t391 _ A10.out).mono ?_); rintro e w62 ⟨rfl, hb⟩; refine ⟨_, rfl, ?_⟩; replace HO343 := rb HO343 hb; replace HO350 := rb HO350 hb; replace HO357 := rb HO357 hb; replace HO360 := rb HO360 hb; replace HO369 := rb HO369 hb; replace HO372 := rb HO372 hb; replace HO382 := rb HO382 hb; replace HO385 := rb HO385 hb; replace BK347 := bb BK347 hb; replace BK354 := bb BK354 hb; replace BK366 := bb BK366 hb; replace BK379 := bb BK379 hb; replace HB := sb HB hb; (try clear hb)) | ((with_reducible refine gate_dst (N := 11) rfl ?_); (try (refine gate_guard (by rfl) ?_; dsimp only)); refine be 11 26 #[.int .i64 0, .int .i64 0] ?_; intro gb392 hg w63 hbox hb; replace HO343 := rb HO343 hb; replace HO350 := rb HO350 hb; replace HO357 := rb HO357 hb; replace HO360 := rb HO360 hb; replace HO369 := rb HO369 hb; replace HO372 := rb HO372 hb; replace HO382 := rb HO382 hb; replace HO385 := rb HO385 hb; have BK392 := m0 hbox; have GW392 := m0 (bg (n := w.heap.size) hg); have GE392 := m0 (bg (n := w.heap.size) hg); replace HB := sb HB hb; have NB347_392 := nl BK347 hg; have NB392_347 := ng (nl BK347 hg); replace BK347 := bb BK347 hb; have NB354_392 := nl BK354 hg; have NB392_354 := ng (nl BK354 hg); replace BK354 := bb BK354 hb; have NB366_392 := nl BK366 hg; have NB392_366 := ng (nl BK366 hg); replace BK366 := bb BK366 hb; have NB379_392 := nl BK379 hg; have NB392_379 := ng (nl BK379 hg); replace BK379 := bb BK379 hb; clear hb hbox hg; have hnb64 := NB392_347.out; have hnc64 := NB347_392.out; have hnb65 := NB392_354.out; have hnc65 := NB354_392.out; have hnb66 := NB392_366.out; have hnc66 := NB366_392.out; have hnb67 := NB392_379.out; have hnc67 := NB379_392.out; obtain ⟨_, _, _, _⟩ := b2 BK392))
            have n0_ : Aside0 (Kd.R (Kd.int .i64) 3 ((w63.setCell ⟨gb392, 0, none⟩ (.int .i64 t389)).setCell ⟨gb392, 1, none⟩ (.int .i64 t390)) w.heap.size (fun k_ => some k_ ≠ (.slice Ao35 t348.length co35 : Value).ownBlock ∧ some k_ ≠ (.slice Ao41 t355.length co41 : Value).ownBlock ∧ some k_ ≠ (.slice Ao42 t358.length co42 : Value).ownBlock ∧ some k_ ≠ (.slice Ao49 t367.length co49 : Value).ownBlock ∧ some k_ ≠ (.slice Ao50 t370.length co50 : Value).ownBlock ∧ some k_ ≠ (.slice Ao59 y380.length co59 : Value).ownBlock ∧ some k_ ≠ (v384 : Value).ownBlock) (.slice Ao30 y341.length co30) y341) := ⟨by (with_reducible repeat (first | apply Kd.R_alloc | apply Kd.R_drewN | apply Kd.R_drew)); exact Kd.R_mono (Kd.R_far (p := ⟨gb392, 1, none⟩) (Kd.R_far (p := ⟨gb392, 0, none⟩) (Kd.R_types HO343.out BK392.out (by decide)) (fun _ hk => hk.2) (.int .i64 t389)) (fun _ hk => hk.2) (.int .i64 t390)) (fun _ hk => ⟨hk.1.1.1.1.1.1.1.2, ⟨hk.1.1.1.1.1.1.2, ⟨hk.1.1.1.1.1.2, ⟨hk.1.1.1.1.2, ⟨hk.1.1.1.2, ⟨hk.1.1.2, hk.1.2⟩⟩⟩⟩⟩⟩)⟩
            have n1_ : Aside0 (Kd.R (Kd.int .i64) 3 ((w63.setCell ⟨gb392, 0, none⟩ (.int .i64 t389)).setCell ⟨gb392, 1, none⟩ (.int .i64 t390)) w.heap.size (fun k_ => some k_ ≠ (.slice Ao30 y341.length co30 : Value).ownBlock ∧ some k_ ≠ (.slice Ao41 t355.length co41 : Value).ownBlock ∧ some k_ ≠ (.slice Ao42 t358.length co42 : Value).ownBlock ∧ some k_ ≠ (.slice Ao49 t367.length co49 : Value).ownBlock ∧ some k_ ≠ (.slice Ao50 t370.length co50 : Value).ownBlock ∧ some k_ ≠ (.slice Ao59 y380.length co59 : Value).ownBlock ∧ some k_ ≠ (v384 : Value).ownBlock) (.slice Ao35 t348.length co35) t348) := ⟨by (with_reducible repeat (first | apply Kd.R_alloc | apply Kd.R_drewN | apply Kd.R_drew)); exact Kd.R_mono (Kd.R_far (p := ⟨gb392, 1, none⟩) (Kd.R_far (p := ⟨gb392, 0, none⟩) (Kd.R_types HO350.out BK392.out (by decide)) (fun _ hk => hk.2) (.int .i64 t389)) (fun _ hk => hk.2) (.int .i64 t390)) (fun _ hk => ⟨hk.1.1.1.1.1.1.1.2, ⟨hk.1.1.1.1.1.1.2, ⟨hk.1.1.1.1.1.2, ⟨hk.1.1.1.1.2, ⟨hk.1.1.1.2, ⟨hk.1.1.2, hk.1.2⟩⟩⟩⟩⟩⟩)⟩
            have n2_ : Aside0 (Kd.R (Kd.int .i64) 3 ((w63.setCell ⟨gb392, 0, none⟩ (.int .i64 t389)).setCell ⟨gb392, 1, none⟩ (.int .i64 t390)) w.heap.size (fun k_ => some k_ ≠ (.slice Ao30 y341.length co30 : Value).ownBlock ∧ some k_ ≠ (.slice Ao35 t348.length co35 : Value).ownBlock ∧ some k_ ≠ (.slice Ao42 t358.length co42 : Value).ownBlock ∧ some k_ ≠ (.slice Ao49 t367.length co49 : Value).ownBlock ∧ some k_ ≠ (.slice Ao50 t370.length co50 : Value).ownBlock ∧ some k_ ≠ (.slice Ao59 y380.length co59 : Value).ownBlock ∧ some k_ ≠ (v384 : Value).ownBlock) (.slice Ao41 t355.length co41) t355) := ⟨by (with_reducible repeat (first | apply Kd.R_alloc | apply Kd.R_drewN | apply Kd.R_drew)); exact Kd.R_mono (Kd.R_far (p := ⟨gb392, 1, none⟩) (Kd.R_far (p := ⟨gb392, 0, none⟩) (Kd.R_types HO357.out BK392.out (by decide)) (fun _ hk => hk.2) (.int .i64 t389)) (fun _ hk => hk.2) (.int .i64 t390)) (fun _ hk => ⟨hk.1.1.1.1.1.1.2, ⟨hk.1.1.1.1.1.2, ⟨hk.1.1.1.1.1.1.1, ⟨hk.1.1.1.1.2, ⟨hk.1.1.1.2, ⟨hk.1.1.2, hk.1.2⟩⟩⟩⟩⟩⟩)⟩
            have n3_ : Aside0 (Kd.R (Kd.int .i64) 3 ((w63.setCell ⟨gb392, 0, none⟩ (.int .i64 t389)).setCell ⟨gb392, 1, none⟩ (.int .i64 t390)) w.heap.size (fun k_ => some k_ ≠ (.slice Ao30 y341.length co30 : Value).ownBlock ∧ some k_ ≠ (.slice Ao35 t348.length co35 : Value).ownBlock ∧ some k_ ≠ (.slice Ao41 t355.length co41 : Value).ownBlock ∧ some k_ ≠ (.slice Ao49 t367.length co49 : Value).ownBlock ∧ some k_ ≠ (.slice Ao50 t370.length co50 : Value).ownBlock ∧ some k_ ≠ (.slice Ao59 y380.length co59 : Value).ownBlock ∧ some k_ ≠ (v384 : Value).ownBlock) (.slice Ao42 t358.length co42) t358) := ⟨by (with_reducible repeat (first | apply Kd.R_alloc | apply Kd.R_drewN | apply Kd.R_drew)); exact Kd.R_mono (Kd.R_far (p := ⟨gb392, 1, none⟩) (Kd.R_far (p := ⟨gb392, 0, none⟩) (Kd.R_types HO360.out BK392.out (by decide)) (fun _ hk => hk.2) (.int .i64 t389)) (fun _ hk => hk.2) (.int .i64 t390)) (fun _ hk => ⟨hk.1.1.1.1.1.1.2, ⟨hk.1.1.1.1.1.2, ⟨hk.1.1.1.1.1.1.1, ⟨hk.1.1.1.1.2, ⟨hk.1.1.1.2, ⟨hk.1.1.2, hk.1.2⟩⟩⟩⟩⟩⟩)⟩
            have n4_ : Aside0 (Kd.R (Kd.int .i64) 3 ((w63.setCell ⟨gb392, 0, none⟩ (.int .i64 t389)).setCell ⟨gb392, 1, none⟩ (.int .i64 t390)) w.heap.size (fun k_ => some k_ ≠ (.slice Ao30 y341.length co30 : Value).ownBlock ∧ some k_ ≠ (.slice Ao35 t348.length co35 : Value).ownBlock ∧ some k_ ≠ (.slice Ao41 t355.length co41 : Value).ownBlock ∧ some k_ ≠ (.slice Ao42 t358.length co42 : Value).ownBlock ∧ some k_ ≠ (.slice Ao50 t370.length co50 : Value).ownBlock ∧ some k_ ≠ (.slice Ao59 y380.length co59 : Value).ownBlock ∧ some k_ ≠ (v384 : Value).ownBlock) (.slice Ao49 t367.length co49) t367) := ⟨by (with_reducible repeat (first | apply Kd.R_alloc | apply Kd.R_drewN | apply Kd.R_drew)); exact Kd.R_mono (Kd.R_far (p := ⟨gb392, 1, none⟩) (Kd.R_far (p := ⟨gb392, 0, none⟩) (Kd.R_types HO369.out BK392.out (by decide)) (fun _ hk => hk.2) (.int .i64 t389)) (fun _ hk => hk.2) (.int .i64 t390)) (fun _ hk => ⟨hk.1.1.1.1.1.1.2, ⟨hk.1.1.1.1.1.2, ⟨hk.1.1.1.1.2, ⟨hk.1.1.1.2, ⟨hk.1.1.1.1.1.1.1, ⟨hk.1.1.2, hk.1.2⟩⟩⟩⟩⟩⟩)⟩
            have n5_ : Aside0 (Kd.R (Kd.int .i64) 3 ((w63.setCell ⟨gb392, 0, none⟩ (.int .i64 t389)).setCell ⟨gb392, 1, none⟩ (.int .i64 t390)) w.heap.size (fun k_ => some k_ ≠ (.slice Ao30 y341.length co30 : Value).ownBlock ∧ some k_ ≠ (.slice Ao35 t348.length co35 : Value).ownBlock ∧ some k_ ≠ (.slice Ao41 t355.length co41 : Value).ownBlock ∧ some k_ ≠ (.slice Ao42 t358.length co42 : Value).ownBlock ∧ some k_ ≠ (.slice Ao49 t367.length co49 : Value).ownBlock ∧ some k_ ≠ (.slice Ao59 y380.length co59 : Value).ownBlock ∧ some k_ ≠ (v384 : Value).ownBlock) (.slice Ao50 t370.length co50) t370) := ⟨by (with_reducible repeat (first | apply Kd.R_alloc | apply Kd.R_drewN | apply Kd.R_drew)); exact Kd.R_mono (Kd.R_far (p := ⟨gb392, 1, none⟩) (Kd.R_far (p := ⟨gb392, 0, none⟩) (Kd.R_types HO372.out BK392.out (by decide)) (fun _ hk => hk.2) (.int .i64 t389)) (fun _ hk => hk.2) (.int .i64 t390)) (fun _ hk => ⟨hk.1.1.1.1.1.1.2, ⟨hk.1.1.1.1.1.2, ⟨hk.1.1.1.1.2, ⟨hk.1.1.1.2, ⟨hk.1.1.1.1.1.1.1, ⟨hk.1.1.2, hk.1.2⟩⟩⟩⟩⟩⟩)⟩
            have n6_ : Aside0 (Kd.R (Kd.int .i64) 3 ((w63.setCell ⟨gb392, 0, none⟩ (.int .i64 t389)).setCell ⟨gb392, 1, none⟩ (.int .i64 t390)) w.heap.size (fun k_ => some k_ ≠ (.slice Ao30 y341.length co30 : Value).ownBlock ∧ some k_ ≠ (.slice Ao35 t348.length co35 : Value).ownBlock ∧ some k_ ≠ (.slice Ao41 t355.length co41 : Value).ownBlock ∧ some k_ ≠ (.slice Ao42 t358.length co42 : Value).ownBlock ∧ some k_ ≠ (.slice Ao49 t367.length co49 : Value).ownBlock ∧ some k_ ≠ (.slice Ao50 t370.length co50 : Value).ownBlock ∧ some k_ ≠ (v384 : Value).ownBlock) (.slice Ao59 y380.length co59) y380) := ⟨by (with_reducible repeat (first | apply Kd.R_alloc | apply Kd.R_drewN | apply Kd.R_drew)); exact Kd.R_mono (Kd.R_far (p := ⟨gb392, 1, none⟩) (Kd.R_far (p := ⟨gb392, 0, none⟩) (Kd.R_types HO382.out BK392.out (by decide)) (fun _ hk => hk.2) (.int .i64 t389)) (fun _ hk => hk.2) (.int .i64 t390)) (fun _ hk => ⟨hk.1.1.1.1.1.1.1.2, ⟨hk.1.1.1.1.1.1.2, ⟨hk.1.1.1.1.1.2, ⟨hk.1.1.1.1.2, ⟨hk.1.1.1.2, ⟨hk.1.1.2, hk.1.2⟩⟩⟩⟩⟩⟩)⟩
            have n7_ : Aside0 (Kd.R (Kd.int .i64) 3 ((w63.setCell ⟨gb392, 0, none⟩ (.int .i64 t389)).setCell ⟨gb392, 1, none⟩ (.int .i64 t390)) w.heap.size (fun k_ => some k_ ≠ (.slice Ao30 y341.length co30 : Value).ownBlock ∧ some k_ ≠ (.slice Ao35 t348.length co35 : Value).ownBlock ∧ some k_ ≠ (.slice Ao41 t355.length co41 : Value).ownBlock ∧ some k_ ≠ (.slice Ao42 t358.length co42 : Value).ownBlock ∧ some k_ ≠ (.slice Ao49 t367.length co49 : Value).ownBlock ∧ some k_ ≠ (.slice Ao50 t370.length co50 : Value).ownBlock ∧ some k_ ≠ (.slice Ao59 y380.length co59 : Value).ownBlock) v384 t383) := ⟨by (with_reducible repeat (first | apply Kd.R_alloc | apply Kd.R_drewN | apply Kd.R_drew)); exact Kd.R_mono (Kd.R_far (p := ⟨gb392, 1, none⟩) (Kd.R_far (p := ⟨gb392, 0, none⟩) (Kd.R_types HO385.out BK392.out (by decide)) (fun _ hk => hk.2) (.int .i64 t389)) (fun _ hk => hk.2) (.int .i64 t390)) (fun _ hk => ⟨hk.1.1.1.1.1.1.1.2, ⟨hk.1.1.1.1.1.1.2, ⟨hk.1.1.1.1.1.2, ⟨hk.1.1.1.1.2, ⟨hk.1.1.1.2, ⟨hk.1.1.2, hk.1.2⟩⟩⟩⟩⟩⟩)⟩
            have n8_ : Aside0 (((w63.setCell ⟨gb392, 0, none⟩ (.int .i64 t389)).setCell ⟨gb392, 1, none⟩ (.int .i64 t390)).heap[gb347]? = some (.cells #[.int .i64 t344, .int .i64 t345] 26 (0, 0))) := ⟨bq BK347.out⟩
            have n9_ : Aside0 (((w63.setCell ⟨gb392, 0, none⟩ (.int .i64 t389)).setCell ⟨gb392, 1, none⟩ (.int .i64 t390)).heap[gb354]? = some (.cells #[.int .i64 t351, .int .i64 t352] 26 (0, 0))) := ⟨bq BK354.out⟩
            have n10_ : Aside0 (((w63.setCell ⟨gb392, 0, none⟩ (.int .i64 t389)).setCell ⟨gb392, 1, none⟩ (.int .i64 t390)).heap[gb366]? = some (.cells #[.int .i64 t363, .int .i64 t364] 26 (0, 0))) := ⟨bq BK366.out⟩
            have n11_ : Aside0 (((w63.setCell ⟨gb392, 0, none⟩ (.int .i64 t389)).setCell ⟨gb392, 1, none⟩ (.int .i64 t390)).heap[gb379]? = some (.cells #[.int .i64 t375, .int .i64 t376, .int .i64 t377] 36 (0, 0))) := ⟨bq BK379.out⟩
            have n12_ : Aside0 (((w63.setCell ⟨gb392, 0, none⟩ (.int .i64 t389)).setCell ⟨gb392, 1, none⟩ (.int .i64 t390)).heap[gb392]? = some (.cells #[.int .i64 t389, .int .i64 t390] 26 (0, 0))) := ⟨bq BK392.out⟩
            have n13_ : Aside0 (Below w.heap.size w ((w63.setCell ⟨gb392, 0, none⟩ (.int .i64 t389)).setCell ⟨gb392, 1, none⟩ (.int .i64 t390))) := ⟨bz⟩
            (try clear HO343)
            (try clear HO350)
            (try clear HO357)
            (try clear HO360)
            (try clear HO369)
            (try clear HO372)
            (try clear HO382)
            (try clear HO385)
            (try clear BK347)
            (try clear BK354)
            (try clear BK366)
            (try clear BK379)
            (try clear BK392)
            (try clear HB)
            generalize ((w63.setCell ⟨gb392, 0, none⟩ (.int .i64 t389)).setCell ⟨gb392, 1, none⟩ (.int .i64 t390)) = w69 at n0_ n1_ n2_ n3_ n4_ n5_ n6_ n7_ n8_ n9_ n10_ n11_ n12_ n13_ ⊢
            have HO343 := n0_
            have HO350 := n1_
            have HO357 := n2_
            have HO360 := n3_
            have HO369 := n4_
            have HO372 := n5_
            have HO382 := n6_
            have HO385 := n7_
            have BK347 := n8_
            have BK354 := n9_
            have BK366 := n10_
            have BK379 := n11_
            have BK392 := n12_
            have HB := n13_
            clear n0_ n1_ n2_ n3_ n4_ n5_ n6_ n7_ n8_ n9_ n10_ n11_ n12_ n13_
            replace HO343 := m0 (Kd.R_drew HO343.out); replace HO350 := m0 (Kd.R_drew HO350.out); replace HO357 := m0 (Kd.R_drew HO357.out); replace HO360 := m0 (Kd.R_drew HO360.out); replace HO369 := m0 (Kd.R_drew HO369.out); replace HO372 := m0 (Kd.R_drew HO372.out); replace HO382 := m0 (Kd.R_drew HO382.out); replace HO385 := m0 (Kd.R_drew HO385.out); replace BK347 := bd BK347; replace BK354 := bd BK354; replace BK366 := bd BK366; replace BK379 := bd BK379; replace BK392 := bd BK392; replace HB := sd HB
            refine start_ (n := 54) (S := fun w' => w'.cell? ⟨gb347, 0, none⟩ = some (.int .i64 t344) ∧ w'.cell? ⟨gb347, 1, none⟩ = some (.int .i64 t345) ∧ w'.cell? ⟨gb354, 0, none⟩ = some (.int .i64 t351) ∧ w'.cell? ⟨gb354, 1, none⟩ = some (.int .i64 t352) ∧ w'.cell? ⟨gb366, 0, none⟩ = some (.int .i64 t363) ∧ w'.cell? ⟨gb366, 1, none⟩ = some (.int .i64 t364) ∧ w'.cell? ⟨gb379, 0, none⟩ = some (.int .i64 t375) ∧ w'.cell? ⟨gb379, 1, none⟩ = some (.int .i64 t376) ∧ w'.cell? ⟨gb379, 2, none⟩ = some (.int .i64 t377) ∧ w'.cell? ⟨gb392, 0, none⟩ = some (.int .i64 t389) ∧ w'.cell? ⟨gb392, 1, none⟩ = some (.int .i64 t390)) (ds := []) #[false, false, false, false, false, false, false, false, false, false, false, false, false, false, false, false, false, false, false, false, false, false, false, false, false, false, false, false, false, false, false, false, false, false, false, false, false, false, false, false, false, false, false, false, false, false, false, false, false, false, false, false, false, false] (by kernel_rfl) rfl rfl cz (fun hHeld => ?_); refine with_tabW Lw_awake.tab7 Lw_awake.bits7 (fun HT_ HW_ => ?_)
            generalize w69.drew = w70 at HO343 HO350 HO357 HO360 HO369 HO372 HO382 HO385 BK347 BK354 BK366 BK379 BK392 HB hHeld ⊢
            refine pureZ (i := 0) (N := some 45) (bs 54 1) HT_ ?_
            refine pureZ (i := 1) (N := some 46) (bs 54 3) HT_ ?_
            refine pureZ (i := 2) (N := some 47) (bs 54 7) HT_ ?_
            refine takeZ 3 (some 48) (bs 54 15) (take_ofW HT_.out HW_.out (by kernel_rfl)) hHeld ?_
            refine oneZ 4 (some 49) (bs 54 31) (one_of HT_.out (by kernel_rfl)) fun K hK => ?_
            refine goes_ Tryd.func41 (by kernel_rfl) rfl #[.int .i64 11, .int .i64 10] (by rfl) rfl rfl mz ?_
            with_reducible refine (Bs_Lowest.calls k 11 10 t393 t394 _ A12.out).mono ?_
            rintro e w71 ⟨rfl, hb⟩
            refine ⟨_, rfl, ?_⟩
            replace HO343 := rb HO343 hb; replace HO350 := rb HO350 hb; replace HO357 := rb HO357 hb; replace HO360 := rb HO360 hb; replace HO369 := rb HO369 hb; replace HO372 := rb HO372 hb; replace HO382 := rb HO382 hb; replace HO385 := rb HO385 hb; replace BK347 := bb BK347 hb; replace BK354 := bb BK354 hb; replace BK366 := bb BK366 hb; replace BK379 := bb BK379 hb; replace BK392 := bb BK392 hb; replace HB := sb HB hb
            (try clear hb)
            refine hK.out _ _ cz (fun hHeld => ?_)
            clear hK K
            refine norm_ (a' := ?_) ?_ ?_
            rotate_left
            ·show Act.put _ (some 49) _ = _
             exact pz
            refine pureZ (i := 5) (N := some 50) (bs 54 63) HT_ ?_
            refine pureZ (i := 6) (N := some 51) (bs 54 127) HT_ ?_
            refine pureZ (i := 7) (N := some 52) (bs 54 255) HT_ ?_
            refine pureZ (i := 8) (N := some 53) (bs 54 511) HT_ ?_
            refine pureZ (i := 9) (N := some 54) (bs 54 1023) HT_ ?_
            refine pureZ (i := 10) (N := some 55) (bs 54 2047) HT_ ?_
            refine pureZ (i := 11) (N := some 56) (bs 54 4095) HT_ ?_
            refine takeZ 12 (some 57) (bs 54 8191) (take_ofW HT_.out HW_.out (by kernel_rfl)) hHeld ?_
            refine oneZ 13 (some 58) (bs 54 16383) (one_of HT_.out (by kernel_rfl)) fun K hK => ?_
            refine goes_ Tryd.func41 (by kernel_rfl) rfl #[.int .i64 3, .int .i64 4] (by rfl) rfl rfl mz ?_
            with_reducible refine (Bs_Lowest.calls k 3 4 t395 t396 _ A15.out).mono ?_
            rintro e w72 ⟨rfl, hb⟩
            refine ⟨_, rfl, ?_⟩
            replace HO343 := rb HO343 hb; replace HO350 := rb HO350 hb; replace HO357 := rb HO357 hb; replace HO360 := rb HO360 hb; replace HO369 := rb HO369 hb; replace HO372 := rb HO372 hb; replace HO382 := rb HO382 hb; replace HO385 := rb HO385 hb; replace BK347 := bb BK347 hb; replace BK354 := bb BK354 hb; replace BK366 := bb BK366 hb; replace BK379 := bb BK379 hb; replace BK392 := bb BK392 hb; replace HB := sb HB hb
            (try clear hb)
            refine hK.out _ _ cz (fun hHeld => ?_)
            clear hK K
            refine norm_ (a' := ?_) ?_ ?_
            rotate_left
            ·show Act.put _ (some 58) _ = _
             exact pz
            refine pureZ (i := 14) (N := some 59) (bs 54 32767) HT_ ?_
            refine pureZ (i := 15) (N := some 60) (bs 54 65535) HT_ ?_
            refine pureZ (i := 16) (N := some 61) (bs 54 131071) HT_ ?_
            refine pureZ (i := 17) (N := some 62) (bs 54 262143) HT_ ?_
            refine pureZ (i := 18) (N := some 63) (bs 54 524287) HT_ ?_
            refine pureZ (i := 19) (N := some 64) (bs 54 1048575) HT_ ?_
            refine pureZ (i := 20) (N := some 65) (bs 54 2097151) HT_ ?_
            refine takeZ 21 (some 66) (bs 54 4194303) (take_ofW HT_.out HW_.out (by kernel_rfl)) hHeld ?_
            refine oneZ 22 (some 67) (bs 54 8388607) (one_of HT_.out (by kernel_rfl)) fun K hK => ?_
            refine goes_ Tryd.func41 (by kernel_rfl) rfl #[.int .i64 1, .int .i64 4] (by rfl) rfl rfl mz ?_
            with_reducible refine (Bs_Lowest.calls k 1 4 t397 t398 _ A18.out).mono ?_
            rintro e w73 ⟨rfl, hb⟩
            refine ⟨_, rfl, ?_⟩
            replace HO343 := rb HO343 hb; replace HO350 := rb HO350 hb; replace HO357 := rb HO357 hb; replace HO360 := rb HO360 hb; replace HO369 := rb HO369 hb; replace HO372 := rb HO372 hb; replace HO382 := rb HO382 hb; replace HO385 := rb HO385 hb; replace BK347 := bb BK347 hb; replace BK354 := bb BK354 hb; replace BK366 := bb BK366 hb; replace BK379 := bb BK379 hb; replace BK392 := bb BK392 hb; replace HB := sb HB hb
            (try clear hb)
            refine hK.out _ _ cz (fun hHeld => ?_)
            clear hK K
            refine norm_ (a' := ?_) ?_ ?_
            rotate_left
            ·show Act.put _ (some 67) _ = _
             exact pz
            refine pureZ (i := 23) (N := some 68) (bs 54 16777215) HT_ ?_
            refine pureZ (i := 24) (N := some 69) (bs 54 33554431) HT_ ?_
            refine pureZ (i := 25) (N := some 70) (bs 54 67108863) HT_ ?_
            refine pureZ (i := 26) (N := some 71) (bs 54 134217727) HT_ ?_
            refine pureZ (i := 27) (N := some 72) (bs 54 268435455) HT_ ?_
            refine pureZ (i := 28) (N := some 73) (bs 54 536870911) HT_ ?_
            refine pureZ (i := 29) (N := some 74) (bs 54 1073741823) HT_ ?_
            refine takeZ 30 (some 75) (bs 54 2147483647) (take_ofW HT_.out HW_.out (by kernel_rfl)) hHeld ?_
            refine oneZ 31 (some 76) (bs 54 4294967295) (one_of HT_.out (by kernel_rfl)) fun K hK => ?_
            refine goes_ Tryd.func41 (by kernel_rfl) rfl #[.int .i64 3, .int .i64 5] (by rfl) rfl rfl mz ?_
            with_reducible refine (Bs_Lowest.calls k 3 5 t399 t400 _ A21.out).mono ?_
            rintro e w74 ⟨rfl, hb⟩
            refine ⟨_, rfl, ?_⟩
            replace HO343 := rb HO343 hb; replace HO350 := rb HO350 hb; replace HO357 := rb HO357 hb; replace HO360 := rb HO360 hb; replace HO369 := rb HO369 hb; replace HO372 := rb HO372 hb; replace HO382 := rb HO382 hb; replace HO385 := rb HO385 hb; replace BK347 := bb BK347 hb; replace BK354 := bb BK354 hb; replace BK366 := bb BK366 hb; replace BK379 := bb BK379 hb; replace BK392 := bb BK392 hb; replace HB := sb HB hb
            (try clear hb)
            refine hK.out _ _ cz (fun hHeld => ?_)
            clear hK K
            refine norm_ (a' := ?_) ?_ ?_
            rotate_left
            ·show Act.put _ (some 76) _ = _
             exact pz
            refine pureZ (i := 32) (N := some 77) (bs 54 8589934591) HT_ ?_
            refine pureZ (i := 33) (N := some 78) (bs 54 17179869183) HT_ ?_
            refine pureZ (i := 34) (N := some 79) (bs 54 34359738367) HT_ ?_
            refine pureZ (i := 35) (N := some 80) (bs 54 68719476735) HT_ ?_
            refine pureZ (i := 36) (N := some 81) (bs 54 137438953471) HT_ ?_
            refine pureZ (i := 37) (N := some 82) (bs 54 274877906943) HT_ ?_
            refine pureZ (i := 38) (N := some 83) (bs 54 549755813887) HT_ ?_
            refine pureZ (i := 39) (N := some 84) (bs 54 1099511627775) HT_ ?_
            refine pureZ (i := 40) (N := some 85) (bs 54 2199023255551) HT_ ?_
            refine oneZ 41 (some 86) (bs 54 4398046511103) (one_of HT_.out (by kernel_rfl)) fun K hK => ?_
            refine Kd.R_lit_step (Kd.int .i64) _ 3 ?hg (N := 86) ?hd (xs := ([1, 4] : List Int)) (inner := [.int .i64 1, .int .i64 4]) (ok := fun _ => True) (okp := fun _ => True) ?hr ?hp (fun _ hk => hk) trivial (Below.refl _ _) (Nat.le_refl _) (by simp) ?_; (case hd => rfl); (case hg => rfl); (case hr => first | (go_simp; done) | (go_simp; rfl)); (case hp => exact (Reps.one (show Kd.M (Kd.int .i64) _ _ _ 1 [.int .i64 1] from rfl) (Reps.one (show Kd.M (Kd.int .i64) _ _ _ 4 [.int .i64 4] from rfl) (Reps.none _ _))))
            intro v402 w75 ho76 hb hg_ hnew_
            clear hg_ hnew_
            (first | rw [← Ny401.out] at ho76 | (simp only [Int.reduceToNat] at ho76; rw [← Ny401.out] at ho76))
            have HO403 := m0 (Kd.R_lower (Kd.R_new' (Kd.R_new' (Kd.R_new' (Kd.R_new' (Kd.R_new' (Kd.R_new' (Kd.R_new' (Kd.R_new' ho76 (Kd.R_lt (br HO343.out))) (Kd.R_lt (br HO350.out))) (Kd.R_lt (br HO357.out))) (Kd.R_lt (br HO360.out))) (Kd.R_lt (br HO369.out))) (Kd.R_lt (br HO372.out))) (Kd.R_lt (br HO382.out))) (Kd.R_lt (br HO385.out))) (below_size bz)); replace HO343 := m0 (Kd.R_elder' (br HO343.out) (Kd.R_base ho76) hb); replace HO350 := m0 (Kd.R_elder' (br HO350.out) (Kd.R_base ho76) hb); replace HO357 := m0 (Kd.R_elder' (br HO357.out) (Kd.R_base ho76) hb); replace HO360 := m0 (Kd.R_elder' (br HO360.out) (Kd.R_base ho76) hb); replace HO369 := m0 (Kd.R_elder' (br HO369.out) (Kd.R_base ho76) hb); replace HO372 := m0 (Kd.R_elder' (br HO372.out) (Kd.R_base ho76) hb); replace HO382 := m0 (Kd.R_elder' (br HO382.out) (Kd.R_base ho76) hb); replace HO385 := m0 (Kd.R_elder' (br HO385.out) (Kd.R_base ho76) hb); replace BK347 := bb BK347 hb; replace BK354 := bb BK354 hb; replace BK366 := bb BK366 hb; replace BK379 := bb BK379 hb; replace BK392 := bb BK392 hb; replace HB := sb HB hb
            clear hb ho76
            obtain ⟨Ao77, co77, eo77⟩ := Kd.R_slice HO385.out
            (first | subst eo77 | (injection eo77 with f1_ f2_ f3_; have f4_ := f1_.symm; have f5_ := f3_.symm; clear f1_ f2_ f3_; subst f4_; subst f5_))
            obtain ⟨Ao78, co78, eo78⟩ := Kd.R_slice HO403.out
            (first | subst eo78 | (injection eo78 with f1_ f2_ f3_; have f4_ := f1_.symm; have f5_ := f3_.symm; clear f1_ f2_ f3_; subst f4_; subst f5_))
            refine hK.out _ _ cz (fun hHeld => ?_)
            clear hK K
            refine norm_ (a' := ?_) ?_ ?_
            rotate_left
            ·show Act.put _ (some 86) _ = _
             exact pz
            refine oneZ 42 (some 87) (bs 54 8796093022207) (one_of HT_.out (by kernel_rfl)) fun K hK => ?_
            refine goes_ Tryd.func57 (by kernel_rfl) rfl #[.slice Ao77 t383.length co77, .slice Ao78 y401.length co78] (by rfl) rfl rfl mz ?_
            with_reducible refine (Bs_Ints.calls k _ _ t383 _ _ y401 true _ ?side1 ?side2 ?side3 ?side4 A24.out).mono ?_
            (case side1 => exact bc (Kd.R_reads' HO385.out).2.2)
            (case side2 => exact (Kd.R_reads' HO385.out).2.1)
            (case side3 => exact bc (Kd.R_reads' HO403.out).2.2)
            (case side4 => exact (Kd.R_reads' HO403.out).2.1)
            rintro e w' ⟨rfl, ⟨nd, rfl⟩⟩
            refine ⟨_, rfl, ?_⟩
            refine hK.out _ _ cz (fun hHeld => ?_)
            clear hK K
            refine norm_ (a' := ?_) ?_ ?_
            rotate_left
            ·show Act.put _ (some 87) _ = _
             exact pz
            refine pureZ (i := 43) (N := some 88) (bs 54 17592186044415) HT_ ?_
            refine pureZ (i := 44) (N := some 89) (bs 54 35184372088831) HT_ ?_
            refine pureZ (i := 45) (N := some 90) (bs 54 70368744177663) HT_ ?_
            refine pureZ (i := 46) (N := some 91) (bs 54 140737488355327) HT_ ?_
            refine pureZ (i := 47) (N := some 92) (bs 54 281474976710655) HT_ ?_
            refine pureZ (i := 48) (N := some 93) (bs 54 562949953421311) HT_ ?_
            refine takeZ 49 (some 94) (bs 54 1125899906842623) (take_ofW HT_.out HW_.out (by kernel_rfl)) hHeld ?_
            refine oneZ 50 (some 95) (bs 54 2251799813685247) (one_of HT_.out (by kernel_rfl)) fun K hK => ?_
            refine goes_ Tryd.func38 (by kernel_rfl) rfl #[.int .i64 (-45)] (by rfl) rfl rfl mz ?_
            with_reducible refine (Bs_Whole.calls (-45) t405 t406 _ A27.out).mono ?_
            rintro e w79 ⟨rfl, hb⟩
            refine ⟨_, rfl, ?_⟩
            replace HO343 := rb HO343 hb; replace HO350 := rb HO350 hb; replace HO357 := rb HO357 hb; replace HO360 := rb HO360 hb; replace HO369 := rb HO369 hb; replace HO372 := rb HO372 hb; replace HO382 := rb HO382 hb; replace HO385 := rb HO385 hb; replace HO403 := rb HO403 hb; replace BK347 := bb BK347 hb; replace BK354 := bb BK354 hb; replace BK366 := bb BK366 hb; replace BK379 := bb BK379 hb; replace BK392 := bb BK392 hb; replace HB := sb HB hb
            (try clear hb)
            refine hK.out _ _ cz (fun hHeld => ?_)
            clear hK K
            refine norm_ (a' := ?_) ?_ ?_
            rotate_left
            ·show Act.put _ (some 95) _ = _
             exact pz
            refine pureZ (i := 51) (N := some 96) (bs 54 4503599627370495) HT_ ?_
            refine pureZ (i := 52) (N := some 97) (bs 54 9007199254740991) HT_ ?_
            refine pureZ (i := 53) (N := some 0) (bs 54 18014398509481983) HT_ ?_
            refine done_ (done_of HT_.out (by kernel_rfl)) ?_
            try go_wp2
            go_ret
            exact ez
           ·rw [if_neg c26] at H
            have c26b0 := beq_eq_false_iff_ne.mpr c26
            have c26b1 := bne_iff_ne.mpr c26
            exact absurd H (by simp)
          ·replace c25 := Bool.eq_false_iff.mpr c25
           subst c25
           rw [if_neg (show ¬ (false = true) by decide)] at H
           exact absurd H (by simp)
         ·rw [if_neg c23] at H
          have c23b0 := beq_eq_false_iff_ne.mpr c23
          have c23b1 := bne_iff_ne.mpr c23
          exact absurd H (by simp)
        ·rw [if_neg c22] at H
         have c22b0 : ((t375 == t399 && (t376 == t400)) && (t377 == 2)) = false := by simpa using c22
         clear c22
         exact absurd H (by simp)
       ·rw [if_neg c20] at H
        have c20b0 := beq_eq_false_iff_ne.mpr c20
        have c20b1 := bne_iff_ne.mpr c20
        exact absurd H (by simp)
      ·rw [if_neg c19] at H
       have c19b0 : (t363 == t397 && (t364 == t398)) = false := by simpa using c19
       (try (have c19b1 : decide (t363 = t397 && (t364 == t398)) = false := by simpa using c19))
       (try (have c19b2 : (t363 == t397 && (t364 == t398)) = false := by simpa using c19))
       (try (have c19b3 : ¬ (t363 = t397 && (t364 == t398)) := by simpa using c19))
       clear c19
       exact absurd H (by simp)
     ·rw [if_neg c17] at H
      have c17b0 := beq_eq_false_iff_ne.mpr c17
      have c17b1 := bne_iff_ne.mpr c17
      exact absurd H (by simp)
    ·rw [if_neg c16] at H
     have c16b0 : (t351 == t395 && (t352 == t396)) = false := by simpa using c16
     (try (have c16b1 : decide (t351 = t395 && (t352 == t396)) = false := by simpa using c16))
     (try (have c16b2 : (t351 == t395 && (t352 == t396)) = false := by simpa using c16))
     (try (have c16b3 : ¬ (t351 = t395 && (t352 == t396)) := by simpa using c16))
     clear c16
     exact absurd H (by simp)
   ·rw [if_neg c14] at H
    have c14b0 := beq_eq_false_iff_ne.mpr c14
    have c14b1 := bne_iff_ne.mpr c14
    exact absurd H (by simp)
  ·rw [if_neg c13] at H
   have c13b0 : (t344 == t393 && (t345 == t394)) = false := by simpa using c13
   (try (have c13b1 : decide (t344 = t393 && (t345 == t394)) = false := by simpa using c13))
   (try (have c13b2 : (t344 == t393 && (t345 == t394)) = false := by simpa using c13))
   (try (have c13b3 : ¬ (t344 = t393 && (t345 == t394)) := by simpa using c13))
   clear c13
   exact absurd H (by simp)
 ·rw [if_neg c11] at H
  have c11b0 := beq_eq_false_iff_ne.mpr c11
  have c11b1 := bne_iff_ne.mpr c11
  exact absurd H (by simp)
end
section
def Bs_IsLowest.f (k : Nat) (a0_0 : Int) (a0_1 : Int) : Option (Bool) := if a0_1 > 0 then ((Bs_Gcd.f k a0_0 a0_1).bind fun t419 => (some (t419 == 1))) else (some false)
theorem Bs_IsLowest.mono : ∀ a0 a1 k, LeO (Bs_IsLowest.f k a0 a1) (Bs_IsLowest.f (k + 1) a0 a1) := by
 intro a0 a1 k
 unfold Bs_IsLowest.f
 repeat' first
   | (with_reducible exact Bs_Gcd.mono _ _ _)
   | (with_reducible exact LeO.refl _)
   | (with_reducible exact LeO.none _)
   | (with_reducible refine LeO.ite ?_ ?_)
   | (with_reducible refine LeO.bind ?_ (fun _ => ?_))
   | exact Bs_Gcd.mono _ _ _
   | exact LeO.none _
   | refine LeO.ite ?_ ?_
   | refine LeO.bind ?_ (fun _ => ?_)
theorem Bs_IsLowest.calls (k : Nat) (a0_0 : Int) (a0_1 : Int) (r : Bool) (w : World) (h : Bs_IsLowest.f k a0_0 a0_1 = some r) :
  Calls Tryd.prog 35 #[.agg #[.int .i64 a0_0, .int .i64 a0_1]] w fun e w' => e = .returned (.bool r) ∧ Below w.heap.size w w' := by
 have hu26 := Tryd.underlying26
 have HB := m0 (Below.refl w.heap.size w)
 have H : (if a0_1 > 0 then ((Bs_Gcd.f k a0_0 a0_1).bind fun t419 => (some (t419 == 1))) else (some false)) = some r := h
 clear h
 by_cases c2 : a0_1 > 0
 ·rw [if_pos c2] at H
  have c2b0 := decide_eq_true c2
  clear c2
  replace H := ob H
  obtain ⟨t419, A30, H⟩ := H
  (try dsimp only at H)
  have A3 := m0 A30
  clear A30
  obtain rfl := Option.some.inj H
  go_enter Tryd.func35, Tryd.ntmps35
  go_wp2_with (first | ((with_reducible refine gate_dst (N := 1) rfl ?_); refine be 1 26 #[.int .i64 a0_0, .int .i64 a0_1] ?_; intro gb418 hg w4 hbox hb; have BK418 := m0 hbox; have GW418 := m0 (bg (n := w.heap.size) hg); have GE418 := m0 (bg (n := w.heap.size) hg); replace HB := sb HB hb; clear hb hbox hg; obtain ⟨_, _, _, _⟩ := b2 BK418) | (go_at_call 104; (with_reducible refine (Bs_Gcd.calls k a0_0 a0_1 t419 _ A3.out).mono ?_); rintro e w6 ⟨rfl, hb⟩; replace BK418 := bb BK418 hb; replace HB := sb HB hb; (try clear hb)))
  go_ret
  exact ez
 ·rw [if_neg c2] at H
  have c2b0 := decide_eq_false c2
  clear c2
  obtain rfl := Option.some.inj H
  go_enter Tryd.func35, Tryd.ntmps35
  go_wp2_with (first | ((with_reducible refine gate_dst (N := 1) rfl ?_); refine be 1 26 #[.int .i64 a0_0, .int .i64 a0_1] ?_; intro gb418 hg w7 hbox hb; have BK418 := m0 hbox; have GW418 := m0 (bg (n := w.heap.size) hg); have GE418 := m0 (bg (n := w.heap.size) hg); replace HB := sb HB hb; clear hb hbox hg; obtain ⟨_, _, _, _⟩ := b2 BK418))
  go_ret
  exact ez
end
section
def Bs_Within.f (a0 : Int) (a1 : Int) (a2 : Int) : Option (Bool) := if a1 ≤ a0 then (some (decide (a0 ≤ a2))) else (some false)
theorem Bs_Within.calls (a0 : Int) (a1 : Int) (a2 : Int) (r : Bool) (w : World) (h : Bs_Within.f a0 a1 a2 = some r) :
  Calls Tryd.prog 31 #[.int .i64 a0, .int .i64 a1, .int .i64 a2] w fun e w' => e = .returned (.bool r) ∧ Drawn0 w w' := by
 have H : (if a1 ≤ a0 then (some (decide (a0 ≤ a2))) else (some false)) = some r := h
 clear h
 by_cases c4 : a1 ≤ a0
 ·rw [if_pos c4] at H
  have c4b0 := decide_eq_true c4
  clear c4
  obtain rfl := Option.some.inj H
  go_enter Tryd.func31, Tryd.ntmps31
  go_wp2
  go_ret
  exact ⟨by first | rfl | (simp; done) | (simp [*]; done), by repeat (first | exact Drawn0.refl _ | apply Drawn0.step)⟩
 ·rw [if_neg c4] at H
  have c4b0 := decide_eq_false c4
  clear c4
  obtain rfl := Option.some.inj H
  go_enter Tryd.func31, Tryd.ntmps31
  go_wp2
  go_ret
  exact ⟨by first | rfl | (simp; done) | (simp [*]; done), by repeat (first | exact Drawn0.refl _ | apply Drawn0.step)⟩
end
section
def Bs_IsSmall.f (a0_0 : Int) (a0_1 : Int) : Option (Bool) := (Bs_Within.f a0_0 (-1000000000) 1000000000).bind fun t421 => (if t421 = true then ((Bs_Within.f a0_1 1 1000000000).bind fun t422 => (some t422)) else (some false))
theorem Bs_IsSmall.calls (a0_0 : Int) (a0_1 : Int) (r : Bool) (w : World) (h : Bs_IsSmall.f a0_0 a0_1 = some r) :
  Calls Tryd.prog 36 #[.agg #[.int .i64 a0_0, .int .i64 a0_1]] w fun e w' => e = .returned (.bool r) ∧ Below w.heap.size w w' := by
 have hu26 := Tryd.underlying26
 have HB := m0 (Below.refl w.heap.size w)
 have H : ((Bs_Within.f a0_0 (-1000000000) 1000000000).bind fun t421 => (if t421 = true then ((Bs_Within.f a0_1 1 1000000000).bind fun t422 => (some t422)) else (some false))) = some r := h
 clear h
 replace H := ob H
 obtain ⟨t421, A20, H⟩ := H
 (try dsimp only at H)
 have A2 := m0 A20
 clear A20
 by_cases c3 : t421 = true
 ·subst c3
  rw [if_pos rfl] at H
  replace H := ob H
  obtain ⟨t422, A40, H⟩ := H
  (try dsimp only at H)
  have A4 := m0 A40
  clear A40
  obtain rfl := Option.some.inj H
  go_enter Tryd.func36, Tryd.ntmps36
  go_wp2_with (first | ((with_reducible refine gate_dst (N := 1) rfl ?_); refine be 1 26 #[.int .i64 a0_0, .int .i64 a0_1] ?_; intro gb420 hg w5 hbox hb; have BK420 := m0 hbox; have GW420 := m0 (bg (n := w.heap.size) hg); have GE420 := m0 (bg (n := w.heap.size) hg); replace HB := sb HB hb; clear hb hbox hg; obtain ⟨_, _, _, _⟩ := b2 BK420) | ((with_reducible refine gate_callee (f := 31) rfl ?_); refine gl (some 5) Tryd.func31 #[.int .i64 a0_0, .int .i64 (-1000000000), .int .i64 1000000000] ?_; (with_reducible refine (Bs_Within.calls a0_0 (-1000000000) 1000000000 true _ A2.out).mono ?_); rintro e w' ⟨rfl, ⟨nd, rfl⟩⟩; refine ⟨_, rfl, ?_⟩) | (go_at_call 31; (with_reducible refine (Bs_Within.calls a0_1 1 1000000000 t422 _ A4.out).mono ?_); rintro e w' ⟨rfl, ⟨nd, rfl⟩⟩))
  go_ret
  exact ez
 ·replace c3 := Bool.eq_false_iff.mpr c3
  subst c3
  rw [if_neg (show ¬ (false = true) by decide)] at H
  obtain rfl := Option.some.inj H
  go_enter Tryd.func36, Tryd.ntmps36
  go_wp2_with (first | ((with_reducible refine gate_dst (N := 1) rfl ?_); refine be 1 26 #[.int .i64 a0_0, .int .i64 a0_1] ?_; intro gb420 hg w7 hbox hb; have BK420 := m0 hbox; have GW420 := m0 (bg (n := w.heap.size) hg); have GE420 := m0 (bg (n := w.heap.size) hg); replace HB := sb HB hb; clear hb hbox hg; obtain ⟨_, _, _, _⟩ := b2 BK420) | ((with_reducible refine gate_callee (f := 31) rfl ?_); refine gl (some 5) Tryd.func31 #[.int .i64 a0_0, .int .i64 (-1000000000), .int .i64 1000000000] ?_; (with_reducible refine (Bs_Within.calls a0_0 (-1000000000) 1000000000 false _ A2.out).mono ?_); rintro e w' ⟨rfl, ⟨nd, rfl⟩⟩; refine ⟨_, rfl, ?_⟩))
  go_ret
  exact ez
end
section
def Rf_CheckSpectrum.l0 : Nat → List Int → Int → Option (Int × Int)
  | 0, _, _ => none
  | k + 1, x0, x4 => if x4 < (x0.length : Int) then (if 0 ≤ x4 then ((Bs_Within.f (rd x0 x4) 0 10000).bind fun t408 => (if t408 = true then (Rf_CheckSpectrum.l0 k x0 (wrap64 (x4 + 1))) else (some (x4, 2)))) else (none)) else (some (0, 0))
def Rf_CheckSpectrum.f (k : Nat) (l0 : List Int) : Option (Int × Int) := if (l0.length : Int) = 0 then (some (0, 10)) else (if (l0.length : Int) > 16 then (some (0, 8)) else (Rf_CheckSpectrum.l0 k l0 0))
theorem Rf_CheckSpectrum.mono_l : ∀ k, (∀ y0 y1, LeO (Rf_CheckSpectrum.l0 k y0 y1) (Rf_CheckSpectrum.l0 (k + 1) y0 y1))
  | 0 => fun _ _ r h => by simp [Rf_CheckSpectrum.l0] at h
  | k + 1 => by
    have ih0 := Rf_CheckSpectrum.mono_l k
    · intro y0 y1
      unfold Rf_CheckSpectrum.l0
      repeat' first
      | (with_reducible exact ih0 _ _)
      | (with_reducible exact LeO.refl _)
      | (with_reducible exact LeO.none _)
      | (with_reducible refine LeO.ite ?_ ?_)
      | (with_reducible refine LeO.bind ?_ (fun _ => ?_))
      | exact ih0 _ _
      | exact LeO.none _
      | refine LeO.ite ?_ ?_
      | refine LeO.bind ?_ (fun _ => ?_)
theorem Rf_CheckSpectrum.mono : ∀ a0 k, LeO (Rf_CheckSpectrum.f k a0) (Rf_CheckSpectrum.f (k + 1) a0) := by
  intro a0 k
  have ih0 := Rf_CheckSpectrum.mono_l k
  unfold Rf_CheckSpectrum.f
  repeat' first
      | (with_reducible exact ih0 _ _)
      | (with_reducible exact LeO.refl _)
      | (with_reducible exact LeO.none _)
      | (with_reducible refine LeO.ite ?_ ?_)
      | (with_reducible refine LeO.bind ?_ (fun _ => ?_))
      | exact ih0 _ _
      | exact LeO.none _
      | refine LeO.ite ?_ ?_
      | refine LeO.bind ?_ (fun _ => ?_)
theorem Rf_CheckSpectrum.calls (k : Nat) (A0 : Option Addr) (c0 : Nat) (l0 : List Int) (r1 : Int) (r2 : Int) (w : World) (hr0 : Kd.C (Kd.int .i64) w A0 l0.length l0) (hc0 : l0.length ≤ c0) (h : Rf_CheckSpectrum.f k l0 = some (r1, r2)) :
    Calls Tryd.prog 78 #[.slice A0 l0.length c0] w fun e w' => e = .returned (.tuple #[.int .i64 r1, .int .i64 r2]) ∧ Drawn0 w w' := by
  have HR0 := m0 hr0
  have HC0 := m0 hc0
  clear hr0 hc0
  have H : (if (l0.length : Int) = 0 then (some (0, 10)) else (if (l0.length : Int) > 16 then (some (0, 8)) else (Rf_CheckSpectrum.l0 k l0 0))) = some (r1, r2) := h
  clear h
  by_cases c2 : (l0.length : Int) = 0
  · rw [if_pos c2] at H
    have c2b0 := beq_iff_eq.mpr c2
    have c2b1 := bne_eq_false_iff_eq.mpr c2
    clear c2
    simp only [Option.some.injEq, Prod.mk.injEq] at H
    obtain ⟨rfl, rfl⟩ := H
    go_enter Tryd.func78, Tryd.ntmps78
    go_wp2
    go_ret2
    exact ⟨by first | rfl | (simp; done) | (simp [*]; done), by repeat (first | exact Drawn0.refl _ | apply Drawn0.step)⟩
  · rw [if_neg c2] at H
    have c2b0 := beq_eq_false_iff_ne.mpr c2
    have c2b1 := bne_iff_ne.mpr c2
    have c2b2 : ¬ (l0 = []) := fun h_ => c2 (by rw [h_]; rfl)
    by_cases c3 : (l0.length : Int) > 16
    · rw [if_pos c3] at H
      have c3b0 := decide_eq_true c3
      have c3b1 : decide (16 < l0.length) = true := decide_eq_true (by omega)
      clear c3
      simp only [Option.some.injEq, Prod.mk.injEq] at H
      obtain ⟨rfl, rfl⟩ := H
      go_enter Tryd.func78, Tryd.ntmps78
      go_wp2
      go_ret2
      exact ⟨by first | rfl | (simp; done) | (simp [*]; done), by repeat (first | exact Drawn0.refl _ | apply Drawn0.step)⟩
    · rw [if_neg c3] at H
      have c3b0 := decide_eq_false c3
      have c3b1 : decide (16 < l0.length) = false := decide_eq_false (by omega)
      clear c3
      have H' := m0 H
      clear H
      go_enter Tryd.func78, Tryd.ntmps78
      go_wp2
      go_loopg [4] k (fun kq v4 w' => ∃ (x4_1 : Int), v4 = .int .i64 x4_1 ∧ Aside0 (Rf_CheckSpectrum.l0 kq l0 x4_1 = some (r1, r2)) ∧ Aside0 (kq ≤ k) ∧ Drawn0 w w')
      case atStart => exact ⟨(0), (by first | rfl | (simp; done) | (simp [*]; done)), H', ⟨Nat.le_refl _⟩, by repeat (first | exact Drawn0.refl _ | apply Drawn0.step)⟩
      case round =>
        clear H'
        try clear c2
        try clear c2b0
        try clear c2b1
        try clear c2b2
        try clear p2
        try clear c3
        try clear c3b0
        try clear c3b1
        obtain ⟨x4_1, rfl, HA, HK1, ⟨m1, rfl⟩⟩ := hrel
        cases gk with
        | zero => exact absurd HA.out (by simp [Rf_CheckSpectrum.l0])
        | succ k1 =>
          have H := HA.out
          clear HA
          simp only [Rf_CheckSpectrum.l0] at H
          by_cases c4 : x4_1 < (l0.length : Int)
          · rw [if_pos c4] at H
            have c4b0 := decide_eq_true c4
            clear c4
            by_cases c5 : 0 ≤ x4_1
            · rw [if_pos c5] at H
              have c5b0 := decide_eq_true c5
              clear c5
              replace H := ob H
              obtain ⟨t408, A60, H⟩ := H
              (try dsimp only at H)
              have A6 := m0 A60
              clear A60
              by_cases c7 : t408 = true
              · subst c7
                rw [if_pos rfl] at H
                have H' := m0 H
                clear H
                have p407 : 0 ≤ (x4_1 : Int) := of_decide_eq_true (by first | (with_reducible assumption) | assumption)
                have q407 : x4_1 < (l0.length : Int) := of_decide_eq_true (by first | (with_reducible assumption) | assumption)
                obtain ⟨ad407, e407, hx407_0⟩ := Kd.at_int HR0.out x4_1 p407 q407
                cases e407
                replace p407 := eq_true p407
                replace q407 := eq_true q407
                go_wp2_with (first | ((with_reducible refine gate_callee (f := 31) rfl ?_); refine gl (some 21) Tryd.func31 #[.int .i64 (rd l0 x4_1), .int .i64 0, .int .i64 10000] ?_; (with_reducible refine (Bs_Within.calls (rd l0 x4_1) 0 10000 true _ A6.out).mono ?_); rintro e w' ⟨rfl, ⟨nd, rfl⟩⟩; refine ⟨_, rfl, ?_⟩))
                go_roundg k1
                case measure => have := HK1.out; omega
                case rel => exact ⟨(wrap64 (x4_1 + 1)), (by first | rfl | (simp; done) | (simp [*]; done)), H', ⟨by have := HK1.out; omega⟩, by repeat (first | exact Drawn0.refl _ | apply Drawn0.step)⟩
              · replace c7 := Bool.eq_false_iff.mpr c7
                subst c7
                rw [if_neg (show ¬ (false = true) by decide)] at H
                simp only [Option.some.injEq, Prod.mk.injEq] at H
                obtain ⟨rfl, rfl⟩ := H
                have p407 : 0 ≤ (x4_1 : Int) := of_decide_eq_true (by first | (with_reducible assumption) | assumption)
                have q407 : x4_1 < (l0.length : Int) := of_decide_eq_true (by first | (with_reducible assumption) | assumption)
                obtain ⟨ad407, e407, hx407_0⟩ := Kd.at_int HR0.out x4_1 p407 q407
                cases e407
                replace p407 := eq_true p407
                replace q407 := eq_true q407
                go_wp2_with (first | ((with_reducible refine gate_callee (f := 31) rfl ?_); refine gl (some 21) Tryd.func31 #[.int .i64 (rd l0 x4_1), .int .i64 0, .int .i64 10000] ?_; (with_reducible refine (Bs_Within.calls (rd l0 x4_1) 0 10000 false _ A6.out).mono ?_); rintro e w' ⟨rfl, ⟨nd, rfl⟩⟩; refine ⟨_, rfl, ?_⟩))
                go_ret2
                exact ⟨by first | rfl | (simp; done) | (simp [*]; done), by repeat (first | exact Drawn0.refl _ | apply Drawn0.step)⟩
            · rw [if_neg c5] at H
              exact absurd H (by simp)
          · rw [if_neg c4] at H
            have c4b0 := decide_eq_false c4
            clear c4
            simp only [Option.some.injEq, Prod.mk.injEq] at H
            obtain ⟨rfl, rfl⟩ := H
            go_wp2
            go_ret2
            exact ⟨by first | rfl | (simp; done) | (simp [*]; done), by repeat (first | exact Drawn0.refl _ | apply Drawn0.step)⟩
end
section
def Rf_SpectrumErr.f (k : Nat) (l0 : List Int) : Option (Int) := (Rf_CheckSpectrum.f k l0).bind fun bt409 => (some bt409.2)
theorem Rf_SpectrumErr.mono : ∀ a0 k, LeO (Rf_SpectrumErr.f k a0) (Rf_SpectrumErr.f (k + 1) a0) := by
 intro a0 k
 unfold Rf_SpectrumErr.f
 repeat' first
   | (with_reducible exact Rf_CheckSpectrum.mono _ _)
   | (with_reducible exact LeO.refl _)
   | (with_reducible exact LeO.none _)
   | (with_reducible refine LeO.ite ?_ ?_)
   | (with_reducible refine LeO.bind ?_ (fun _ => ?_))
   | exact Rf_CheckSpectrum.mono _ _
   | exact LeO.none _
   | refine LeO.ite ?_ ?_
   | refine LeO.bind ?_ (fun _ => ?_)
theorem Rf_SpectrumErr.calls (k : Nat) (A0 : Option Addr) (c0 : Nat) (l0 : List Int) (r : Int) (w : World) (hr0 : Kd.C (Kd.int .i64) w A0 l0.length l0) (hc0 : l0.length ≤ c0) (h : Rf_SpectrumErr.f k l0 = some r) :
  Calls Tryd.prog 30 #[.slice A0 l0.length c0] w fun e w' => e = .returned (.int .i64 r) ∧ Drawn0 w w' := by
 have HR0 := m0 hr0
 have HC0 := m0 hc0
 clear hr0 hc0
 have H : ((Rf_CheckSpectrum.f k l0).bind fun bt409 => (some bt409.2)) = some r := h
 clear h
 replace H := ob H
 obtain ⟨⟨t409, t410⟩, A20, H⟩ := H
 (try dsimp only at H)
 have A2 := m0 A20
 clear A20
 obtain rfl := Option.some.inj H
 go_enter Tryd.func30, Tryd.ntmps30
 go_wp2_with (first | ((with_reducible refine gate_callee (f := 78) rfl ?_); refine gl (some 7) Tryd.func78 #[.slice A0 l0.length c0] ?_; (with_reducible refine (Rf_CheckSpectrum.calls k _ _ l0 t409 t410 _ ?side1 ?side2 A2.out).mono ?_); (case side1 => repeat (first | exact HR0.out | (with_reducible refine Kd.C_alloc ?_ _) | (with_reducible refine Kd.C_drewN ?_ _) | (with_reducible refine Kd.C_drew ?_))); (case side2 => exact HC0.out); rintro e w' ⟨rfl, ⟨nd, rfl⟩⟩; refine ⟨_, rfl, ?_⟩))
 go_ret
 exact ⟨by first | rfl | (simp; done) | (simp [*]; done), by repeat (first | exact Drawn0.refl _ | apply Drawn0.step)⟩
end
section
def Rf_Cases.l0 : Nat → Int → Int → Int → List Int → Option (Int)
 | 0, _, _, _, _ => none
 | k + 1, x1, x5, x6, x412000 => if x6 < x1 then (if (wrap64 (x5 * (x412000.length : Int))) > 4096 then (some 4097) else (Rf_Cases.l0 k x1 (wrap64 (x5 * (x412000.length : Int))) (wrap64 (x6 + 1)) x412000)) else (some x5)
def Rf_Cases.f (k : Nat) (l0_0 : List Int) (a1 : Int) : Option (Int) := Rf_Cases.l0 k a1 1 0 l0_0
theorem Rf_Cases.mono_l : ∀ k, (∀ y0 y1 y2 y3, LeO (Rf_Cases.l0 k y0 y1 y2 y3) (Rf_Cases.l0 (k + 1) y0 y1 y2 y3))
 | 0 => fun _ _ _ _ r h => by simp [Rf_Cases.l0] at h
 | k + 1 => by
  have ih0 := Rf_Cases.mono_l k
  ·intro y0 y1 y2 y3
   unfold Rf_Cases.l0
   repeat' first
   | (with_reducible exact ih0 _ _ _ _)
   | (with_reducible exact LeO.refl _)
   | (with_reducible exact LeO.none _)
   | (with_reducible refine LeO.ite ?_ ?_)
   | (with_reducible refine LeO.bind ?_ (fun _ => ?_))
   | exact ih0 _ _ _ _
   | exact LeO.none _
   | refine LeO.ite ?_ ?_
   | refine LeO.bind ?_ (fun _ => ?_)
theorem Rf_Cases.mono : ∀ a0 a1 k, LeO (Rf_Cases.f k a0 a1) (Rf_Cases.f (k + 1) a0 a1) := by
 intro a0 a1 k
 have ih0 := Rf_Cases.mono_l k
 unfold Rf_Cases.f
 repeat' first
   | (with_reducible exact ih0 _ _ _ _)
   | (with_reducible exact LeO.refl _)
   | (with_reducible exact LeO.none _)
   | (with_reducible refine LeO.ite ?_ ?_)
   | (with_reducible refine LeO.bind ?_ (fun _ => ?_))
   | exact ih0 _ _ _ _
   | exact LeO.none _
   | refine LeO.ite ?_ ?_
   | refine LeO.bind ?_ (fun _ => ?_)
theorem Rf_Cases.calls (k : Nat) (A0_0 : Option Addr) (c0_0 : Nat) (l0_0 : List Int) (a1 : Int) (r : Int) (w : World) (hr0_0 : Kd.C (Kd.int .i64) w A0_0 l0_0.length l0_0) (hc0_0 : l0_0.length ≤ c0_0) (h : Rf_Cases.f k l0_0 a1 = some r) :
  Calls Tryd.prog 56 #[.agg #[.slice A0_0 l0_0.length c0_0], .int .i64 a1] w fun e w' => e = .returned (.int .i64 r) ∧ Below w.heap.size w w' := by
 have hu24 := Tryd.underlying24
 have HR0_0 := m0 hr0_0
 have HC0_0 := m0 hc0_0
 clear hr0_0 hc0_0
 have HB := m0 (Below.refl w.heap.size w)
 have H : (Rf_Cases.l0 k a1 1 0 l0_0) = some r := h
 clear h
 have H' := m0 H
 clear H
 go_enter Tryd.func56, Tryd.ntmps56
 go_wp2_with (first | ((with_reducible refine gate_dst (N := 2) rfl ?_); refine be 2 24 #[.slice A0_0 l0_0.length c0_0] ?_; intro gb411 hg w3 hbox hb; have BK411 := m0 hbox; have GW411 := m0 (bg (n := w.heap.size) hg); have GE411 := m0 (bg (n := w.heap.size) hg); replace HB := sb HB hb; clear hb hbox hg))
 go_loopg [5, 6] k (fun kq v5 v6 w' => ∃ (x5_1 : Int) (x6_1 : Int), v5 = .int .i64 x5_1 ∧ v6 = .int .i64 x6_1 ∧ Aside0 (Rf_Cases.l0 kq a1 x5_1 x6_1 l0_0 = some r) ∧ Aside0 (kq ≤ k) ∧ Aside0 (w'.heap[gb411]? = some (.cells #[(.slice A0_0 l0_0.length c0_0)] 24 (0, 0))) ∧ Aside0 (Below w.heap.size w w'))
 case atStart => exact ⟨(1), (0), (by first | rfl | (simp; done) | (simp [*]; done)), (by first | rfl | (simp; done) | (simp [*]; done)), H', ⟨Nat.le_refl _⟩, ⟨bk BK411.out⟩, ⟨bz⟩⟩
 case round =>
  clear H'
  try clear p2
  obtain ⟨x5_1, x6_1, rfl, rfl, HA, HK1, BK411, HB⟩ := hrel
  cases gk with
  | zero => exact absurd HA.out (by simp [Rf_Cases.l0])
  | succ k1 =>
   have H := HA.out
   clear HA
   simp only [Rf_Cases.l0] at H
   by_cases c4 : x6_1 < a1
   ·rw [if_pos c4] at H
    have c4b0 := decide_eq_true c4
    clear c4
    by_cases c5 : (wrap64 (x5_1 * (l0_0.length : Int))) > 4096
    ·rw [if_pos c5] at H
     have c5b0 := decide_eq_true c5
     clear c5
     obtain rfl := Option.some.inj H
     obtain ⟨_, _⟩ := b1 BK411
     go_wp2
     go_ret
     exact ez
    ·rw [if_neg c5] at H
     have c5b0 := decide_eq_false c5
     clear c5
     have H' := m0 H
     clear H
     obtain ⟨_, _⟩ := b1 BK411
     go_wp2
     go_roundg k1
     case measure => have := HK1.out; omega
     case rel => exact ⟨(wrap64 (x5_1 * (l0_0.length : Int))), (wrap64 (x6_1 + 1)), (by first | rfl | (simp; done) | (simp [*]; done)), (by first | rfl | (simp; done) | (simp [*]; done)), H', ⟨by have := HK1.out; omega⟩, ⟨bk BK411.out⟩, ⟨bz⟩⟩
   ·rw [if_neg c4] at H
    have c4b0 := decide_eq_false c4
    clear c4
    obtain rfl := Option.some.inj H
    go_wp2
    go_ret
    exact ez
end
section
def Rf_CheckNoise.l0 : Nat → Int → List Int → Option (Int × Int)
  | 0, _, _ => none
  | k + 1, x4, x413000 => if x4 < (x413000.length : Int) then (if 0 ≤ x4 then ((Bs_Within.f (rd x413000 x4) 0 1000).bind fun t414 => (if t414 = true then (Rf_CheckNoise.l0 k (wrap64 (x4 + 1)) x413000) else (some (x4, 2)))) else (none)) else (some (0, 0))
def Rf_CheckNoise.f (k : Nat) (l0_0 : List Int) : Option (Int × Int) := if (l0_0.length : Int) = 0 then (some (0, 10)) else (if (l0_0.length : Int) > 4 then (some (0, 8)) else (Rf_CheckNoise.l0 k 0 l0_0))
theorem Rf_CheckNoise.mono_l : ∀ k, (∀ y0 y1, LeO (Rf_CheckNoise.l0 k y0 y1) (Rf_CheckNoise.l0 (k + 1) y0 y1))
  | 0 => fun _ _ r h => by simp [Rf_CheckNoise.l0] at h
  | k + 1 => by
    have ih0 := Rf_CheckNoise.mono_l k
    · intro y0 y1
      unfold Rf_CheckNoise.l0
      repeat' first
      | (with_reducible exact ih0 _ _)
      | (with_reducible exact LeO.refl _)
      | (with_reducible exact LeO.none _)
      | (with_reducible refine LeO.ite ?_ ?_)
      | (with_reducible refine LeO.bind ?_ (fun _ => ?_))
      | exact ih0 _ _
      | exact LeO.none _
      | refine LeO.ite ?_ ?_
      | refine LeO.bind ?_ (fun _ => ?_)
theorem Rf_CheckNoise.mono : ∀ a0 k, LeO (Rf_CheckNoise.f k a0) (Rf_CheckNoise.f (k + 1) a0) := by
  intro a0 k
  have ih0 := Rf_CheckNoise.mono_l k
  unfold Rf_CheckNoise.f
  repeat' first
      | (with_reducible exact ih0 _ _)
      | (with_reducible exact LeO.refl _)
      | (with_reducible exact LeO.none _)
      | (with_reducible refine LeO.ite ?_ ?_)
      | (with_reducible refine LeO.bind ?_ (fun _ => ?_))
      | exact ih0 _ _
      | exact LeO.none _
      | refine LeO.ite ?_ ?_
      | refine LeO.bind ?_ (fun _ => ?_)
theorem Rf_CheckNoise.calls (k : Nat) (A0_0 : Option Addr) (c0_0 : Nat) (l0_0 : List Int) (r1 : Int) (r2 : Int) (w : World) (hr0_0 : Kd.C (Kd.int .i64) w A0_0 l0_0.length l0_0) (hc0_0 : l0_0.length ≤ c0_0) (h : Rf_CheckNoise.f k l0_0 = some (r1, r2)) :
    Calls Tryd.prog 55 #[.agg #[.slice A0_0 l0_0.length c0_0]] w fun e w' => e = .returned (.tuple #[.int .i64 r1, .int .i64 r2]) ∧ Below w.heap.size w w' := by
  have hu24 := Tryd.underlying24
  have HR0_0 := m0 hr0_0
  have HC0_0 := m0 hc0_0
  clear hr0_0 hc0_0
  have HB := m0 (Below.refl w.heap.size w)
  have H : (if (l0_0.length : Int) = 0 then (some (0, 10)) else (if (l0_0.length : Int) > 4 then (some (0, 8)) else (Rf_CheckNoise.l0 k 0 l0_0))) = some (r1, r2) := h
  clear h
  by_cases c2 : (l0_0.length : Int) = 0
  · rw [if_pos c2] at H
    have c2b0 := beq_iff_eq.mpr c2
    have c2b1 := bne_eq_false_iff_eq.mpr c2
    clear c2
    simp only [Option.some.injEq, Prod.mk.injEq] at H
    obtain ⟨rfl, rfl⟩ := H
    go_enter Tryd.func55, Tryd.ntmps55
    go_wp2_with (first | ((with_reducible refine gate_dst (N := 1) rfl ?_); refine be 1 24 #[.slice A0_0 l0_0.length c0_0] ?_; intro gb412 hg w3 hbox hb; have BK412 := m0 hbox; have GW412 := m0 (bg (n := w.heap.size) hg); have GE412 := m0 (bg (n := w.heap.size) hg); replace HB := sb HB hb; clear hb hbox hg; obtain ⟨hcz4_0, hfz4_0⟩ := b1 BK412))
    go_ret2
    exact ez
  · rw [if_neg c2] at H
    have c2b0 := beq_eq_false_iff_ne.mpr c2
    have c2b1 := bne_iff_ne.mpr c2
    have c2b2 : ¬ (l0_0 = []) := fun h_ => c2 (by rw [h_]; rfl)
    by_cases c5 : (l0_0.length : Int) > 4
    · rw [if_pos c5] at H
      have c5b0 := decide_eq_true c5
      have c5b1 : decide (4 < l0_0.length) = true := decide_eq_true (by omega)
      clear c5
      simp only [Option.some.injEq, Prod.mk.injEq] at H
      obtain ⟨rfl, rfl⟩ := H
      go_enter Tryd.func55, Tryd.ntmps55
      go_wp2_with (first | ((with_reducible refine gate_dst (N := 1) rfl ?_); refine be 1 24 #[.slice A0_0 l0_0.length c0_0] ?_; intro gb412 hg w6 hbox hb; have BK412 := m0 hbox; have GW412 := m0 (bg (n := w.heap.size) hg); have GE412 := m0 (bg (n := w.heap.size) hg); replace HB := sb HB hb; clear hb hbox hg; obtain ⟨hcz7_0, hfz7_0⟩ := b1 BK412))
      go_ret2
      exact ez
    · rw [if_neg c5] at H
      have c5b0 := decide_eq_false c5
      have c5b1 : decide (4 < l0_0.length) = false := decide_eq_false (by omega)
      clear c5
      have H' := m0 H
      clear H
      go_enter Tryd.func55, Tryd.ntmps55
      go_wp2_with (first | ((with_reducible refine gate_dst (N := 1) rfl ?_); refine be 1 24 #[.slice A0_0 l0_0.length c0_0] ?_; intro gb412 hg w8 hbox hb; have BK412 := m0 hbox; have GW412 := m0 (bg (n := w.heap.size) hg); have GE412 := m0 (bg (n := w.heap.size) hg); replace HB := sb HB hb; clear hb hbox hg; obtain ⟨hcz9_0, hfz9_0⟩ := b1 BK412))
      go_loopg [4] k (fun kq v4 w' => ∃ (x4_1 : Int), v4 = .int .i64 x4_1 ∧ Aside0 (Rf_CheckNoise.l0 kq x4_1 l0_0 = some (r1, r2)) ∧ Aside0 (kq ≤ k) ∧ Aside0 (w'.heap[gb412]? = some (.cells #[(.slice A0_0 l0_0.length c0_0)] 24 (0, 0))) ∧ Aside0 (Below w.heap.size w w'))
      case atStart => exact ⟨(0), (by first | rfl | (simp; done) | (simp [*]; done)), H', ⟨Nat.le_refl _⟩, ⟨bk BK412.out⟩, ⟨bz⟩⟩
      case round =>
        clear H'
        try clear c2
        try clear c2b0
        try clear c2b1
        try clear c2b2
        try clear p2
        try clear c5
        try clear c5b0
        try clear c5b1
        try clear hcz4_0
        try clear hcz7_0
        try clear hcz9_0
        try clear hfz4_0
        try clear hfz7_0
        try clear hfz9_0
        obtain ⟨x4_1, rfl, HA, HK1, BK412, HB⟩ := hrel
        cases gk with
        | zero => exact absurd HA.out (by simp [Rf_CheckNoise.l0])
        | succ k1 =>
          have H := HA.out
          clear HA
          simp only [Rf_CheckNoise.l0] at H
          by_cases c10 : x4_1 < (l0_0.length : Int)
          · rw [if_pos c10] at H
            have c10b0 := decide_eq_true c10
            clear c10
            by_cases c11 : 0 ≤ x4_1
            · rw [if_pos c11] at H
              have c11b0 := decide_eq_true c11
              clear c11
              replace H := ob H
              obtain ⟨t414, A120, H⟩ := H
              (try dsimp only at H)
              have A12 := m0 A120
              clear A120
              by_cases c13 : t414 = true
              · subst c13
                rw [if_pos rfl] at H
                have H' := m0 H
                clear H
                obtain ⟨_, _⟩ := b1 BK412
                have p413 : 0 ≤ (x4_1 : Int) := of_decide_eq_true (by first | (with_reducible assumption) | assumption)
                have q413 : x4_1 < (l0_0.length : Int) := of_decide_eq_true (by first | (with_reducible assumption) | assumption)
                obtain ⟨ad413, e413, hx413_0⟩ := Kd.at_int HR0_0.out x4_1 p413 q413
                cases e413
                replace hx413_0 := (HB.out.cell (World.block_lt_of_cell? w _ hx413_0)).trans hx413_0
                replace p413 := eq_true p413
                replace q413 := eq_true q413
                go_wp2_with (first | ((with_reducible refine gate_callee (f := 31) rfl ?_); refine gl (some 25) Tryd.func31 #[.int .i64 (rd l0_0 x4_1), .int .i64 0, .int .i64 1000] ?_; (with_reducible refine (Bs_Within.calls (rd l0_0 x4_1) 0 1000 true _ A12.out).mono ?_); rintro e w' ⟨rfl, ⟨nd, rfl⟩⟩; refine ⟨_, rfl, ?_⟩))
                go_roundg k1
                case measure => have := HK1.out; omega
                case rel => exact ⟨(wrap64 (x4_1 + 1)), (by first | rfl | (simp; done) | (simp [*]; done)), H', ⟨by have := HK1.out; omega⟩, ⟨bk BK412.out⟩, ⟨bz⟩⟩
              · replace c13 := Bool.eq_false_iff.mpr c13
                subst c13
                rw [if_neg (show ¬ (false = true) by decide)] at H
                simp only [Option.some.injEq, Prod.mk.injEq] at H
                obtain ⟨rfl, rfl⟩ := H
                obtain ⟨_, _⟩ := b1 BK412
                have p413 : 0 ≤ (x4_1 : Int) := of_decide_eq_true (by first | (with_reducible assumption) | assumption)
                have q413 : x4_1 < (l0_0.length : Int) := of_decide_eq_true (by first | (with_reducible assumption) | assumption)
                obtain ⟨ad413, e413, hx413_0⟩ := Kd.at_int HR0_0.out x4_1 p413 q413
                cases e413
                replace hx413_0 := (HB.out.cell (World.block_lt_of_cell? w _ hx413_0)).trans hx413_0
                replace p413 := eq_true p413
                replace q413 := eq_true q413
                go_wp2_with (first | ((with_reducible refine gate_callee (f := 31) rfl ?_); refine gl (some 25) Tryd.func31 #[.int .i64 (rd l0_0 x4_1), .int .i64 0, .int .i64 1000] ?_; (with_reducible refine (Bs_Within.calls (rd l0_0 x4_1) 0 1000 false _ A12.out).mono ?_); rintro e w' ⟨rfl, ⟨nd, rfl⟩⟩; refine ⟨_, rfl, ?_⟩))
                go_ret2
                exact ez
            · rw [if_neg c11] at H
              exact absurd H (by simp)
          · rw [if_neg c10] at H
            have c10b0 := decide_eq_false c10
            clear c10
            simp only [Option.some.injEq, Prod.mk.injEq] at H
            obtain ⟨rfl, rfl⟩ := H
            obtain ⟨_, _⟩ := b1 BK412
            go_wp2
            go_ret2
            exact ez
end
section
def Rf_NoiseErr.f (k : Nat) (l0_0 : List Int) : Option (Int) := (Rf_CheckNoise.f k l0_0).bind fun bt416 => (some bt416.2)
theorem Rf_NoiseErr.mono : ∀ a0 k, LeO (Rf_NoiseErr.f k a0) (Rf_NoiseErr.f (k + 1) a0) := by
 intro a0 k
 unfold Rf_NoiseErr.f
 repeat' first
   | (with_reducible exact Rf_CheckNoise.mono _ _)
   | (with_reducible exact LeO.refl _)
   | (with_reducible exact LeO.none _)
   | (with_reducible refine LeO.ite ?_ ?_)
   | (with_reducible refine LeO.bind ?_ (fun _ => ?_))
   | exact Rf_CheckNoise.mono _ _
   | exact LeO.none _
   | refine LeO.ite ?_ ?_
   | refine LeO.bind ?_ (fun _ => ?_)
theorem Rf_NoiseErr.calls (k : Nat) (A0_0 : Option Addr) (c0_0 : Nat) (l0_0 : List Int) (r : Int) (w : World) (hr0_0 : Kd.C (Kd.int .i64) w A0_0 l0_0.length l0_0) (hc0_0 : l0_0.length ≤ c0_0) (h : Rf_NoiseErr.f k l0_0 = some r) :
  Calls Tryd.prog 82 #[.agg #[.slice A0_0 l0_0.length c0_0]] w fun e w' => e = .returned (.int .i64 r) ∧ Below w.heap.size w w' := by
 have hu24 := Tryd.underlying24
 have HR0_0 := m0 hr0_0
 have HC0_0 := m0 hc0_0
 clear hr0_0 hc0_0
 have HB := m0 (Below.refl w.heap.size w)
 have H : ((Rf_CheckNoise.f k l0_0).bind fun bt416 => (some bt416.2)) = some r := h
 clear h
 replace H := ob H
 obtain ⟨⟨t416, t417⟩, A20, H⟩ := H
 (try dsimp only at H)
 have A2 := m0 A20
 clear A20
 obtain rfl := Option.some.inj H
 go_enter Tryd.func82, Tryd.ntmps82
 go_wp2_with (first | ((with_reducible refine gate_dst (N := 1) rfl ?_); refine be 1 24 #[.slice A0_0 l0_0.length c0_0] ?_; intro gb415 hg w3 hbox hb; have BK415 := m0 hbox; have GW415 := m0 (bg (n := w.heap.size) hg); have GE415 := m0 (bg (n := w.heap.size) hg); replace HB := sb HB hb; clear hb hbox hg; obtain ⟨_, _⟩ := b1 BK415) | ((with_reducible refine gate_callee (f := 55) rfl ?_); refine gl (some 7) Tryd.func55 #[.agg #[.slice A0_0 l0_0.length c0_0]] ?_; (with_reducible refine (Rf_CheckNoise.calls k _ _ l0_0 t416 t417 _ ?side1 ?side2 A2.out).mono ?_); (case side1 => exact cb HR0_0 HB); (case side2 => exact HC0_0.out); rintro e w5 ⟨rfl, hb⟩; refine ⟨_, rfl, ?_⟩; replace BK415 := bb BK415 hb; replace HB := sb HB hb; (try clear hb)))
 go_ret
 exact ez
end
end Go.Proofs.YtjnkphmcndaijaaDoor.A
