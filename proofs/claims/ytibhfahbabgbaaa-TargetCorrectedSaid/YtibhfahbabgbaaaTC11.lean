/- Walks of the program's functions (printed, made shorter), each with what it computes. -/
import Derived.Test.YtibhfahbabgbaaaTC04
import Derived.Test.YtibhfahbabgbaaaTC06
import Derived.Test.YtibhfahbabgbaaaTC08
import Derived.Test.YtibhfahbabgbaaaTC09
import Derived.Test.YtibhfahbabgbaaaTC10
import Derived.Test.YtibhfahbabgbaaaTC03
import Derived.Test.YtibhfahbabgbaaaTC07
import Derived.Test.YtibhfahbabgbaaaTC05
namespace Go.Proofs.Ytibhfahbabgbaaa.A
set_option maxHeartbeats 8000000
set_option maxRecDepth 100000
open Go.RowKit Go.Proofs.YtibhfahbabgbaaaW.PrintWords Go.Proofs.YtibhfahbabgbaaaW.PrintLast Go.Proofs.YtibhfahbabgbaaaW.PrintMore
attribute [local go_sem] max2_int min2_int max_two min_two max_three min_three max_four min_four
set_option linter.unusedVariables false
set_option linter.unusedSimpArgs false
section
attribute [local go_sem high] eqA56 eqA58
def Lw_awake.f (k : Nat)  : Option (Bool) := (Lw_Readings.f).bind fun t296 => ((L_VotedIn.f k t296).bind fun bt299 => ((Lw_Steps.f).bind fun t304 => ((L_LineOf.f k t304).bind fun bt307 => ((Lw_Sights.f).bind fun t312 => ((L_PointingOf.f k t312).bind fun bt315 => ((Lw_Tasks.f).bind fun t318 => ((L_DaysOf.f k t318 7).bind fun bt321 => ((Lw_Tasks.f).bind fun t325 => ((L_LackOf.f k t325 7).bind fun bt328 => (if bt299.2.2.2 = 0 then (if (bt299.1 == 3 && (bt299.2.1 == 5)) = true then (if bt299.2.2.1 = 2 then (if bt307.2.2.2 = 0 then (if (bt307.1 == 7 && (bt307.2.1 == 1 && (bt307.2.2.1 == 2))) = true then (if bt315.2.2 = 0 then (if bt315.1 = 7 then (if bt315.2.1 = 2 then (if bt321.2 = 0 then ((Bs_Ints.f k bt321.1 (([3, 1] : List Int))).bind fun t334 => (if t334 = true then (if bt328.2.2 = 0 then (if bt328.1 = 2 then (some (bt328.2.1 == 2)) else (none)) else (none)) else (none))) else (none)) else (none)) else (none)) else (none)) else (none)) else (none)) else (none)) else (none)) else (none)))))))))))
theorem Lw_awake.mono : ∀ k, LeO (Lw_awake.f k ) (Lw_awake.f (k + 1) ) := by
 intro  k
 unfold Lw_awake.f
 repeat' with_reducible first
  | exact Bs_Ints.mono ..
  | exact L_DaysOf.mono ..
  | exact L_LackOf.mono ..
  | exact L_LineOf.mono ..
  | exact L_PointingOf.mono ..
  | exact L_VotedIn.mono ..
  | exact LeO.refl ..
  | exact LeO.none ..
  | refine LeO.ite ?_ ?_
  | refine LeO.bind ?_ (fun _ => ?_)
theorem Lw_awake.calls (k : Nat)  (r : Bool) (w : World) (h : Lw_awake.f k  = some r) :
  Calls Try.prog 14 #[] w fun e w' => e = .returned (.bool r) ∧ Below w.heap.size w w' := by
 have hu58 := Try.underlying58
 have hu56 := Try.underlying56
 have HB := m0 (Below.refl w.heap.size w)
 have H : ((Lw_Readings.f).bind fun t296 => ((L_VotedIn.f k t296).bind fun bt299 => ((Lw_Steps.f).bind fun t304 => ((L_LineOf.f k t304).bind fun bt307 => ((Lw_Sights.f).bind fun t312 => ((L_PointingOf.f k t312).bind fun bt315 => ((Lw_Tasks.f).bind fun t318 => ((L_DaysOf.f k t318 7).bind fun bt321 => ((Lw_Tasks.f).bind fun t325 => ((L_LackOf.f k t325 7).bind fun bt328 => (if bt299.2.2.2 = 0 then (if (bt299.1 == 3 && (bt299.2.1 == 5)) = true then (if bt299.2.2.1 = 2 then (if bt307.2.2.2 = 0 then (if (bt307.1 == 7 && (bt307.2.1 == 1 && (bt307.2.2.1 == 2))) = true then (if bt315.2.2 = 0 then (if bt315.1 = 7 then (if bt315.2.1 = 2 then (if bt321.2 = 0 then ((Bs_Ints.f k bt321.1 (([3, 1] : List Int))).bind fun t334 => (if t334 = true then (if bt328.2.2 = 0 then (if bt328.1 = 2 then (some (bt328.2.1 == 2)) else (none)) else (none)) else (none))) else (none)) else (none)) else (none)) else (none)) else (none)) else (none)) else (none)) else (none)) else (none)))))))))))) = some r := h
 clear h
 replace H := ob H
 obtain ⟨t296, A1, H⟩ := H
 (try dsimp only at H)
 replace A1 := m0 A1
 replace H := ob H
 obtain ⟨⟨t299, t300, t301, t302⟩, A2, H⟩ := H
 (try dsimp only at H)
 replace A2 := m0 A2
 replace H := ob H
 obtain ⟨t304, A3, H⟩ := H
 (try dsimp only at H)
 replace A3 := m0 A3
 replace H := ob H
 obtain ⟨⟨t307, t308, t309, t310⟩, A4, H⟩ := H
 (try dsimp only at H)
 replace A4 := m0 A4
 replace H := ob H
 obtain ⟨t312, A5, H⟩ := H
 (try dsimp only at H)
 replace A5 := m0 A5
 replace H := ob H
 obtain ⟨⟨t315, t316, t317⟩, A6, H⟩ := H
 (try dsimp only at H)
 replace A6 := m0 A6
 replace H := ob H
 obtain ⟨t318, A7, H⟩ := H
 (try dsimp only at H)
 replace A7 := m0 A7
 replace H := ob H
 obtain ⟨⟨t321, t322⟩, A8, H⟩ := H
 (try dsimp only at H)
 replace A8 := m0 A8
 replace H := ob H
 obtain ⟨t325, A9, H⟩ := H
 (try dsimp only at H)
 replace A9 := m0 A9
 replace H := ob H
 obtain ⟨⟨t328, t329, t330⟩, A10, H⟩ := H
 (try dsimp only at H)
 replace A10 := m0 A10
 by_cases c11 : t302 = 0
 ·rw [if_pos c11] at H
  have c11b0 := beq_iff_eq.mpr c11
  have c11b1 := bne_eq_false_iff_eq.mpr c11
  clear c11
  by_cases c12 : (t299 == 3 && (t300 == 5)) = true
  ·rw [if_pos c12] at H
   have c12b0 : (t299 == 3 && (t300 == 5)) = true := c12
   (try (have c12b1 : decide (t299 = 3 && (t300 == 5)) = true := by simpa using c12))
   (try (have c12b2 : (t299 == 3 && (t300 == 5)) = true := by simpa using c12))
   clear c12
   by_cases c13 : t301 = 2
   ·rw [if_pos c13] at H
    have c13b0 := beq_iff_eq.mpr c13
    have c13b1 := bne_eq_false_iff_eq.mpr c13
    clear c13
    by_cases c14 : t310 = 0
    ·rw [if_pos c14] at H
     have c14b0 := beq_iff_eq.mpr c14
     have c14b1 := bne_eq_false_iff_eq.mpr c14
     clear c14
     by_cases c15 : (t307 == 7 && (t308 == 1 && (t309 == 2))) = true
     ·rw [if_pos c15] at H
      have c15b0 : (t307 == 7 && (t308 == 1 && (t309 == 2))) = true := c15
      (try (have c15b1 : decide (t307 = 7 && (t308 == 1 && (t309 == 2))) = true := by simpa using c15))
      (try (have c15b2 : (t307 == 7 && (t308 == 1 && (t309 == 2))) = true := by simpa using c15))
      clear c15
      by_cases c16 : t317 = 0
      ·rw [if_pos c16] at H
       have c16b0 := beq_iff_eq.mpr c16
       have c16b1 := bne_eq_false_iff_eq.mpr c16
       clear c16
       by_cases c17 : t315 = 7
       ·rw [if_pos c17] at H
        have c17b0 := beq_iff_eq.mpr c17
        have c17b1 := bne_eq_false_iff_eq.mpr c17
        clear c17
        by_cases c18 : t316 = 2
        ·rw [if_pos c18] at H
         have c18b0 := beq_iff_eq.mpr c18
         have c18b1 := bne_eq_false_iff_eq.mpr c18
         clear c18
         by_cases c19 : t322 = 0
         ·rw [if_pos c19] at H
          have c19b0 := beq_iff_eq.mpr c19
          have c19b1 := bne_eq_false_iff_eq.mpr c19
          clear c19
          obtain ⟨y331, hy331⟩ : ∃ y_ : List Int, y_ = (([3, 1] : List Int)) := ⟨_, rfl⟩
          replace H : ((Bs_Ints.f k t321 y331).bind fun t334 => (if t334 = true then (if t330 = 0 then (if t328 = 2 then (some (t329 == 2)) else (none)) else (none)) else (none))) = some r := by first | (rw [hy331]; with_reducible exact H) | (have H2_ := (Option.bind_some _ _).symm.trans H; rw [hy331]; with_reducible exact H2_) | (have H2_ := (Option.bind_some _ _).symm.trans H; with_reducible exact H2_) | with_reducible exact H | (rw [hy331]; exact H) | exact H
          have Ny331 := m0 hy331
          clear hy331
          replace H := ob H
          obtain ⟨t334, A20, H⟩ := H
          (try dsimp only at H)
          replace A20 := m0 A20
          by_cases c21 : t334 = true
          ·subst c21
           rw [if_pos rfl] at H
           by_cases c22 : t330 = 0
           ·rw [if_pos c22] at H
            have c22b0 := beq_iff_eq.mpr c22
            have c22b1 := bne_eq_false_iff_eq.mpr c22
            clear c22
            by_cases c23 : t328 = 2
            ·rw [if_pos c23] at H
             have c23b0 := beq_iff_eq.mpr c23
             have c23b1 := bne_eq_false_iff_eq.mpr c23
             clear c23
             obtain rfl := Option.some.inj H
             go_enter Try.func14, Try.ntmps14
             go_wp2_with (first | ((with_reducible refine gate_callee (f := 71) rfl ?_); refine gl (some 15) Try.func71 #[] ?_; (with_reducible refine (Lw_Readings.calls  t296 _ A1.out).mono ?_); rintro e w24 ⟨v297, rfl, ho0, hb⟩; refine ⟨_, rfl, ?_⟩; have HO298 := m0 (Kd.R_lower ho0 (below_size bz)); replace HB := sb HB hb; (try clear hb); (try clear ho0); obtain ⟨Ao25, co25, eo25⟩ := Kd.R_slice HO298.out; subst eo25) | ((with_reducible refine gate_callee (f := 56) rfl ?_); refine gl (some 16) Try.func56 #[.slice Ao25 t296.length co25] ?_; (with_reducible refine (L_VotedIn.calls k _ _ t296 t299 t300 t301 t302 _ ?side1 ?side2 A2.out).mono ?_); (case side1 => exact bc (Kd.R_reads' HO298.out).2.2); (case side2 => exact (Kd.R_reads' HO298.out).2.1); rintro e w26 ⟨rfl, hb⟩; refine ⟨_, rfl, ?_⟩; replace HO298 := rb HO298 hb; replace HB := sb HB hb; (try clear hb)) | ((with_reducible refine gate_dst (N := 1) rfl ?_); (try (refine gate_guard (by rfl) ?_; dsimp only)); refine be 1 58 #[.int .i64 0, .int .i64 0] ?_; intro gb303 hg w27 hbox hb; replace HO298 := rb HO298 hb; have BK303 := m0 hbox; have GE303 := gw w hg; replace HB := sb HB hb; clear hb hbox hg; obtain ⟨_, _, _, _⟩ := b2 BK303) | ((with_reducible refine gate_callee (f := 72) rfl ?_); refine gl (some 21) Try.func72 #[] ?_; (with_reducible refine (Lw_Steps.calls  t304 _ A3.out).mono ?_); rintro e w29 ⟨v305, rfl, ho0, hb⟩; refine ⟨_, rfl, ?_⟩; have HO306 := m0 (Kd.R_lower (Kd.R_new' ho0 (Kd.R_lt (by (with_reducible repeat (first | apply Kd.R_alloc | apply Kd.R_drewN | apply Kd.R_drew)); exact (Kd.R_mono (Kd.R_far (p := ⟨gb303, 1, none⟩) (Kd.R_far (p := ⟨gb303, 0, none⟩) (Kd.R_types HO298.out BK303.out (by decide)) (fun _ hk => hk.2) (.int .i64 t299)) (fun _ hk => hk.2) (.int .i64 t300)) (fun _ h_ => h_.1))))) (below_size bz)); replace HO298 := m0 (Kd.R_elder' (by (with_reducible repeat (first | apply Kd.R_alloc | apply Kd.R_drewN | apply Kd.R_drew)); exact (Kd.R_mono (Kd.R_far (p := ⟨gb303, 1, none⟩) (Kd.R_far (p := ⟨gb303, 0, none⟩) (Kd.R_types HO298.out BK303.out (by decide)) (fun _ hk => hk.2) (.int .i64 t299)) (fun _ hk => hk.2) (.int .i64 t300)) (fun _ h_ => h_.1))) (Kd.R_base ho0) hb); replace BK303 := m0 (blk_below (g := gb303) (o := .cells #[.int .i64 t299, .int .i64 t300] 58 (0, 0)) (bq BK303.out) hb); replace HB := sb HB hb; (try clear hb); (try clear ho0); obtain ⟨Ao30, co30, eo30⟩ := Kd.R_slice HO306.out; subst eo30) | ((with_reducible refine gate_callee (f := 37) rfl ?_); refine gl (some 22) Try.func37 #[.slice Ao30 t304.length co30] ?_; (with_reducible refine (L_LineOf.calls k _ _ t304 t307 t308 t309 t310 _ ?side1 ?side2 A4.out).mono ?_); (case side1 => exact bc (Kd.R_reads' HO306.out).2.2); (case side2 => exact (Kd.R_reads' HO306.out).2.1); rintro e w31 ⟨rfl, hb⟩; refine ⟨_, rfl, ?_⟩; replace HO298 := rb HO298 hb; replace HO306 := rb HO306 hb; replace BK303 := bb BK303 hb; replace HB := sb HB hb; (try clear hb)) | ((with_reducible refine gate_dst (N := 4) rfl ?_); (try (refine gate_guard (by rfl) ?_; dsimp only)); refine be 4 56 #[.int .i64 0, .int .i64 0, .int .i64 0] ?_; intro gb311 hg w32 hbox hb; replace HO298 := rb HO298 hb; replace HO306 := rb HO306 hb; have BK311 := m0 hbox; have GE311 := gw w hg; replace HB := sb HB hb; have NB303_311 := nl BK303 hg; have NB311_303 := ng (nl BK303 hg); replace BK303 := bb BK303 hb; clear hb hbox hg; have hnb33 := NB311_303.out; have hnc33 := NB303_311.out; obtain ⟨_, _, _, _, _, _⟩ := b3 BK311) | ((with_reducible refine gate_callee (f := 73) rfl ?_); refine gl (some 26) Try.func73 #[] ?_; (with_reducible refine (Lw_Sights.calls  t312 _ A5.out).mono ?_); rintro e w35 ⟨v313, rfl, ho0, hb⟩; refine ⟨_, rfl, ?_⟩; replace HO298 := m0 (Kd.R_below (by (with_reducible repeat (first | apply Kd.R_alloc | apply Kd.R_drewN | apply Kd.R_drew)); exact (Kd.R_mono (Kd.R_far (p := ⟨gb311, 2, none⟩) (Kd.R_far (p := ⟨gb311, 1, none⟩) (Kd.R_far (p := ⟨gb311, 0, none⟩) (Kd.R_types HO298.out BK311.out (by decide)) (fun _ hk => hk.2) (.int .i64 t307)) (fun _ hk => hk.2) (.int .i64 t308)) (fun _ hk => hk.2) (.int .i64 t309)) (fun _ h_ => h_.1))) hb); replace HO306 := m0 (Kd.R_below (by (with_reducible repeat (first | apply Kd.R_alloc | apply Kd.R_drewN | apply Kd.R_drew)); exact (Kd.R_mono (Kd.R_far (p := ⟨gb311, 2, none⟩) (Kd.R_far (p := ⟨gb311, 1, none⟩) (Kd.R_far (p := ⟨gb311, 0, none⟩) (Kd.R_types HO306.out BK311.out (by decide)) (fun _ hk => hk.2) (.int .i64 t307)) (fun _ hk => hk.2) (.int .i64 t308)) (fun _ hk => hk.2) (.int .i64 t309)) (fun _ h_ => h_.1))) hb); have HO314 := m0 (Kd.R_lower ho0 (below_size bz)); replace BK303 := m0 (blk_below (g := gb303) (o := .cells #[.int .i64 t299, .int .i64 t300] 58 (0, 0)) (bq BK303.out) hb); replace BK311 := m0 (blk_below (g := gb311) (o := .cells #[.int .i64 t307, .int .i64 t308, .int .i64 t309] 56 (0, 0)) (bq BK311.out) hb); replace HB := sb HB hb; (try clear hb); (try clear ho0); obtain ⟨Ao36, co36, eo36⟩ := Kd.R_slice HO314.out; subst eo36) | ((with_reducible refine gate_callee (f := 65) rfl ?_); refine gl (some 27) Try.func65 #[.slice Ao36 t312.length co36] ?_; (with_reducible refine (L_PointingOf.calls k _ _ t312 t315 t316 t317 _ ?side1 ?side2 A6.out).mono ?_); (case side1 => exact bc (Kd.R_reads' HO314.out).2.2); (case side2 => exact (Kd.R_reads' HO314.out).2.1); rintro e w37 ⟨rfl, hb⟩; refine ⟨_, rfl, ?_⟩; replace HO298 := rb HO298 hb; replace HO306 := rb HO306 hb; replace HO314 := rb HO314 hb; replace BK303 := bb BK303 hb; replace BK311 := bb BK311 hb; replace HB := sb HB hb; (try clear hb)) | ((with_reducible refine gate_callee (f := 74) rfl ?_); refine gl (some 32) Try.func74 #[] ?_; (with_reducible refine (Lw_Tasks.calls  t318 _ A7.out).mono ?_); rintro e w38 ⟨v319, rfl, ho0, hb⟩; refine ⟨_, rfl, ?_⟩; replace HO298 := rb HO298 hb; replace HO306 := rb HO306 hb; replace HO314 := rb HO314 hb; have HO320 := m0 (Kd.R_lower ho0 (below_size bz)); replace BK303 := bb BK303 hb; replace BK311 := bb BK311 hb; replace HB := sb HB hb; (try clear hb); (try clear ho0); obtain ⟨Ao39, co39, eo39⟩ := Kd.R_slice HO320.out; subst eo39) | ((with_reducible refine gate_callee (f := 17) rfl ?_); refine gl (some 33) Try.func17 #[.slice Ao39 t318.length co39, .int .i64 7] ?_; (with_reducible refine (L_DaysOf.calls k _ _ t318 7 t321 t322 _ ?side1 ?side2 A8.out).mono ?_); (case side1 => exact bc (Kd.R_reads' HO320.out).2.2); (case side2 => exact (Kd.R_reads' HO320.out).2.1); rintro e w40 ⟨v323, rfl, ho0, hb⟩; refine ⟨_, rfl, ?_⟩; replace HO298 := rb HO298 hb; replace HO306 := rb HO306 hb; replace HO314 := rb HO314 hb; replace HO320 := rb HO320 hb; have HO324 := m0 (Kd.R_lower ho0 (below_size bz)); replace BK303 := bb BK303 hb; replace BK311 := bb BK311 hb; replace HB := sb HB hb; (try clear hb); (try clear ho0)) | ((with_reducible refine gate_callee (f := 74) rfl ?_); refine gl (some 37) Try.func74 #[] ?_; (with_reducible refine (Lw_Tasks.calls  t325 _ A9.out).mono ?_); rintro e w41 ⟨v326, rfl, ho0, hb⟩; refine ⟨_, rfl, ?_⟩; replace HO298 := rb HO298 hb; replace HO306 := rb HO306 hb; replace HO314 := rb HO314 hb; replace HO324 := rb HO324 hb; have HO327 := m0 (Kd.R_lower (Kd.R_new' ho0 (Kd.R_lt (br HO320.out))) (below_size bz)); replace HO320 := m0 (Kd.R_elder' (br HO320.out) (Kd.R_base ho0) hb); replace BK303 := bb BK303 hb; replace BK311 := bb BK311 hb; replace HB := sb HB hb; (try clear hb); (try clear ho0); obtain ⟨Ao42, co42, eo42⟩ := Kd.R_slice HO327.out; subst eo42) | ((with_reducible refine gate_callee (f := 18) rfl ?_); refine gl (some 38) Try.func18 #[.slice Ao42 t325.length co42, .int .i64 7] ?_; (with_reducible refine (L_LackOf.calls k _ _ t325 7 t328 t329 t330 _ ?side1 ?side2 A10.out).mono ?_); (case side1 => exact bc (Kd.R_reads' HO327.out).2.2); (case side2 => exact (Kd.R_reads' HO327.out).2.1); rintro e w43 ⟨rfl, hb⟩; refine ⟨_, rfl, ?_⟩; replace HO298 := rb HO298 hb; replace HO306 := rb HO306 hb; replace HO314 := rb HO314 hb; replace HO320 := rb HO320 hb; replace HO324 := rb HO324 hb; replace HO327 := rb HO327 hb; replace BK303 := bb BK303 hb; replace BK311 := bb BK311 hb; replace HB := sb HB hb; (try clear hb); obtain ⟨_, _, _, _⟩ := b2 BK303; obtain ⟨_, _, _, _, _, _⟩ := b3 BK311) | ((with_reducible refine gate_dst (N := 80) rfl ?_); (try (refine gate_guard (by rfl) ?_; dsimp only)); refine Kd.R_lit (Kd.int .i64) _ 3 ?hg (N := 80) ?hd (xs := ([3, 1] : List Int)) (inner := [.int .i64 3, .int .i64 1]) (ok := fun _ => True) (okp := fun _ => True) ?hr ?hp (fun _ hk => hk) trivial (Below.refl _ _) (Nat.le_refl _) (by simp) ?_; (case hd => rfl); (case hg => rfl); (case hr => first | (go_simp; done) | (go_simp; rfl)); (case hp => exact (Reps.one (show Kd.M (Kd.int .i64) _ _ _ 3 [.int .i64 3] from rfl) (Reps.one (show Kd.M (Kd.int .i64) _ _ _ 1 [.int .i64 1] from rfl) (Reps.none _ _)))); intro v332 w46 ho47 hb hg_ hnew_; clear hg_ hnew_; (first | rw [← Ny331.out] at ho47 | (simp only [Int.reduceToNat] at ho47; rw [← Ny331.out] at ho47)); replace HO298 := rb HO298 hb; replace HO306 := rb HO306 hb; replace HO314 := rb HO314 hb; replace HO320 := rb HO320 hb; replace HO327 := rb HO327 hb; have HO333 := m0 (Kd.R_lower (Kd.R_new' ho47 (Kd.R_lt (br HO324.out))) (below_size bz)); replace HO324 := m0 (Kd.R_elder' (br HO324.out) (Kd.R_base ho47) hb); replace BK303 := bb BK303 hb; replace BK311 := bb BK311 hb; replace HB := sb HB hb; clear hb ho47; obtain ⟨Ao48, co48, eo48⟩ := Kd.R_slice HO324.out; subst eo48; obtain ⟨Ao49, co49, eo49⟩ := Kd.R_slice HO333.out; subst eo49) | (go_at_call 21; (with_reducible refine (Bs_Ints.calls k _ _ t321 _ _ y331 true _ ?side1 ?side2 ?side3 ?side4 A20.out).mono ?_); (case side1 => exact bc (Kd.R_reads' HO324.out).2.2); (case side2 => exact (Kd.R_reads' HO324.out).2.1); (case side3 => exact bc (Kd.R_reads' HO333.out).2.2); (case side4 => exact (Kd.R_reads' HO333.out).2.1); rintro e w' ⟨rfl, ⟨nd, rfl⟩⟩))
             go_ret
             exact ez
            ·rw [if_neg c23] at H
             exact absurd H (by simp)
           ·rw [if_neg c22] at H
            exact absurd H (by simp)
          ·replace c21 := Bool.eq_false_iff.mpr c21
           subst c21
           rw [if_neg (show ¬ (false = true) by decide)] at H
           exact absurd H (by simp)
         ·rw [if_neg c19] at H
          exact absurd H (by simp)
        ·rw [if_neg c18] at H
         exact absurd H (by simp)
       ·rw [if_neg c17] at H
        exact absurd H (by simp)
      ·rw [if_neg c16] at H
       exact absurd H (by simp)
     ·rw [if_neg c15] at H
      exact absurd H (by simp)
    ·rw [if_neg c14] at H
     exact absurd H (by simp)
   ·rw [if_neg c13] at H
    exact absurd H (by simp)
  ·rw [if_neg c12] at H
   exact absurd H (by simp)
 ·rw [if_neg c11] at H
  exact absurd H (by simp)
end
section
def Bs_Within.f (a0 : Int) (a1 : Int) (a2 : Int) : Option (Bool) := if a1 ≤ a0 then (some (decide (a0 ≤ a2))) else (some false)
theorem Bs_Within.calls (a0 : Int) (a1 : Int) (a2 : Int) (r : Bool) (w : World) (h : Bs_Within.f a0 a1 a2 = some r) :
  Calls Try.prog 24 #[.int .i64 a0, .int .i64 a1, .int .i64 a2] w fun e w' => e = .returned (.bool r) ∧ Drawn0 w w' := by
 have H : (if a1 ≤ a0 then (some (decide (a0 ≤ a2))) else (some false)) = some r := h
 clear h
 by_cases c4 : a1 ≤ a0
 ·rw [if_pos c4] at H
  have c4b0 := decide_eq_true c4
  clear c4
  obtain rfl := Option.some.inj H
  go_enter Try.func24, Try.ntmps24
  go_wp2
  go_ret
  exact ⟨by first | rfl | (simp; done) | (simp [*]; done), by repeat (first | exact Drawn0.refl _ | apply Drawn0.step)⟩
 ·rw [if_neg c4] at H
  have c4b0 := decide_eq_false c4
  clear c4
  obtain rfl := Option.some.inj H
  go_enter Try.func24, Try.ntmps24
  go_wp2
  go_ret
  exact ⟨by first | rfl | (simp; done) | (simp [*]; done), by repeat (first | exact Drawn0.refl _ | apply Drawn0.step)⟩
end
section
def L_lineErr.j0 : Nat → Bool → Int → Int → Int → Option (Int)
 | 0, _, _, _, _ => none
 | k + 1, x3, x527000, x527001, x527002 => if x3 = true then ((L_divisor.f k (([x527000, x527001, x527002] : List Int))).bind fun t533 => ((L_unless.f (t533 == 1) 3).bind fun t534 => (some t534))) else (some 2)
def L_lineErr.f (k : Nat) (a0_0 : Int) (a0_1 : Int) (a0_2 : Int) : Option (Int) := (L_within.f a0_2 1 1000000000).bind fun t527 => (if t527 = true then ((L_isSized.f a0_0 1000000000).bind fun t528 => (if t528 = true then ((L_isSized.f a0_1 1000000000000).bind fun t529 => (L_lineErr.j0 k t529 a0_0 a0_1 a0_2)) else (L_lineErr.j0 k false a0_0 a0_1 a0_2))) else (L_lineErr.j0 k false a0_0 a0_1 a0_2))
theorem L_lineErr.mono_l : ∀ k, (∀ y0 y1 y2 y3, LeO (L_lineErr.j0 k y0 y1 y2 y3) (L_lineErr.j0 (k + 1) y0 y1 y2 y3))
 | 0 => fun _ _ _ _ r h => by simp [L_lineErr.j0] at h
 | k + 1 => by
  have ih0 := L_lineErr.mono_l k
  ·intro y0 y1 y2 y3
   unfold L_lineErr.j0
   repeat' with_reducible first
    | exact ih0 ..
    | exact L_divisor.mono ..
    | exact LeO.refl ..
    | exact LeO.none ..
    | refine LeO.ite ?_ ?_
    | refine LeO.bind ?_ (fun _ => ?_)
theorem L_lineErr.mono : ∀ a0 a1 a2 k, LeO (L_lineErr.f k a0 a1 a2) (L_lineErr.f (k + 1) a0 a1 a2) := by
 intro a0 a1 a2 k
 have ih0 := L_lineErr.mono_l k
 unfold L_lineErr.f
 repeat' with_reducible first
  | exact ih0 ..
  | exact L_divisor.mono ..
  | exact LeO.refl ..
  | exact LeO.none ..
  | refine LeO.ite ?_ ?_
  | refine LeO.bind ?_ (fun _ => ?_)
theorem L_lineErr.calls (k : Nat) (a0_0 : Int) (a0_1 : Int) (a0_2 : Int) (r : Int) (w : World) (h : L_lineErr.f k a0_0 a0_1 a0_2 = some r) :
  Calls Try.prog 90 #[.agg #[.int .i64 a0_0, .int .i64 a0_1, .int .i64 a0_2]] w fun e w' => e = .returned (.int .i64 r) ∧ Below w.heap.size w w' := by
 have hu56 := Try.underlying56
 have HB := m0 (Below.refl w.heap.size w)
 have H : ((L_within.f a0_2 1 1000000000).bind fun t527 => (if t527 = true then ((L_isSized.f a0_0 1000000000).bind fun t528 => (if t528 = true then ((L_isSized.f a0_1 1000000000000).bind fun t529 => (L_lineErr.j0 k t529 a0_0 a0_1 a0_2)) else (L_lineErr.j0 k false a0_0 a0_1 a0_2))) else (L_lineErr.j0 k false a0_0 a0_1 a0_2))) = some r := h
 clear h
 have HC2 := m0 H
 clear H
 go_enter Try.func90, Try.ntmps90
 go_upto_region 1 with (first | ((with_reducible refine gate_dst (N := 1) rfl ?_); refine be 1 56 #[.int .i64 a0_0, .int .i64 a0_1, .int .i64 a0_2] ?_; intro gb526 hg w3 hbox hb; have BK526 := m0 hbox; have GE526 := gw w hg; replace HB := sb HB hb; clear hb hbox hg))
 (try simp only [Act.put, List.setIfInBounds_toArray, List.set_cons_zero, List.set_cons_succ])
 go_cut [3] (fun v3 wc => ∃ (kq : Nat) (x3_1 : Bool), v3 = .bool x3_1 ∧ Aside0 (L_lineErr.j0 kq x3_1 a0_0 a0_1 a0_2 = some r) ∧ Aside0 (kq ≤ k) ∧ Aside0 (wc.heap[gb526]? = some (.cells #[.int .i64 a0_0, .int .i64 a0_1, .int .i64 a0_2] 56 (0, 0))) ∧ Aside0 (Below w.heap.size w wc))
 case first =>
  have H := HC2.out
  clear HC2
  replace H := ob H
  obtain ⟨t527, A4, H⟩ := H
  (try dsimp only at H)
  replace A4 := m0 A4
  by_cases c5 : t527 = true
  ·subst c5
   rw [if_pos rfl] at H
   replace H := ob H
   obtain ⟨t528, A6, H⟩ := H
   (try dsimp only at H)
   replace A6 := m0 A6
   by_cases c7 : t528 = true
   ·subst c7
    rw [if_pos rfl] at H
    replace H := ob H
    obtain ⟨t529, A8, H⟩ := H
    (try dsimp only at H)
    replace A8 := m0 A8
    have H' := m0 H
    clear H
    obtain ⟨hcz9_0, hcz9_1, hcz9_2, hfz9_0, hfz9_1, hfz9_2⟩ := b3 BK526
    go_wp2_with (first | ((with_reducible refine gate_callee (f := 78) rfl ?_); refine gl (some 6) Try.func78 #[.int .i64 a0_2, .int .i64 1, .int .i64 1000000000] ?_; (with_reducible refine (L_within.calls a0_2 1 1000000000 true _ A4.out).mono ?_); rintro e w' ⟨rfl, ⟨nd, rfl⟩⟩; refine ⟨_, rfl, ?_⟩) | (go_at_call 107; (with_reducible refine (L_isSized.calls a0_0 1000000000 true _ A6.out).mono ?_); rintro e w' ⟨rfl, ⟨nd, rfl⟩⟩) | (go_at_call 107; (with_reducible refine (L_isSized.calls a0_1 1000000000000 t529 _ A8.out).mono ?_); rintro e w' ⟨rfl, ⟨nd, rfl⟩⟩))
    go_meet
    case rel => exact ⟨_, (t529), (by first | rfl | (simp; done) | (simp [*]; done)), H', ⟨by first | omega | exact Nat.le_refl _⟩, ⟨bk BK526.out⟩, ⟨bz⟩⟩
   ·replace c7 := Bool.eq_false_iff.mpr c7
    subst c7
    rw [if_neg (show ¬ (false = true) by decide)] at H
    have H' := m0 H
    clear H
    obtain ⟨hcz10_0, hcz10_1, hcz10_2, hfz10_0, hfz10_1, hfz10_2⟩ := b3 BK526
    go_wp2_with (first | ((with_reducible refine gate_callee (f := 78) rfl ?_); refine gl (some 6) Try.func78 #[.int .i64 a0_2, .int .i64 1, .int .i64 1000000000] ?_; (with_reducible refine (L_within.calls a0_2 1 1000000000 true _ A4.out).mono ?_); rintro e w' ⟨rfl, ⟨nd, rfl⟩⟩; refine ⟨_, rfl, ?_⟩) | (go_at_call 107; (with_reducible refine (L_isSized.calls a0_0 1000000000 false _ A6.out).mono ?_); rintro e w' ⟨rfl, ⟨nd, rfl⟩⟩))
    go_meet
    case rel => exact ⟨_, (false), (by first | rfl | (simp; done) | (simp [*]; done)), H', ⟨by first | omega | exact Nat.le_refl _⟩, ⟨bk BK526.out⟩, ⟨bz⟩⟩
  ·replace c5 := Bool.eq_false_iff.mpr c5
   subst c5
   rw [if_neg (show ¬ (false = true) by decide)] at H
   have H' := m0 H
   clear H
   obtain ⟨hcz11_0, hcz11_1, hcz11_2, hfz11_0, hfz11_1, hfz11_2⟩ := b3 BK526
   go_wp2_with (first | ((with_reducible refine gate_callee (f := 78) rfl ?_); refine gl (some 6) Try.func78 #[.int .i64 a0_2, .int .i64 1, .int .i64 1000000000] ?_; (with_reducible refine (L_within.calls a0_2 1 1000000000 false _ A4.out).mono ?_); rintro e w' ⟨rfl, ⟨nd, rfl⟩⟩; refine ⟨_, rfl, ?_⟩))
   go_meet
   case rel => exact ⟨_, (false), (by first | rfl | (simp; done) | (simp [*]; done)), H', ⟨by first | omega | exact Nat.le_refl _⟩, ⟨bk BK526.out⟩, ⟨bz⟩⟩
 case rest =>
  clear HC2
  try clear hcz10_0
  try clear hcz10_1
  try clear hcz10_2
  try clear hcz11_0
  try clear hcz11_1
  try clear hcz11_2
  try clear hcz9_0
  try clear hcz9_1
  try clear hcz9_2
  try clear hfz10_0
  try clear hfz10_1
  try clear hfz10_2
  try clear hfz11_0
  try clear hfz11_1
  try clear hfz11_2
  try clear hfz9_0
  try clear hfz9_1
  try clear hfz9_2
  obtain ⟨kq, x3_1, rfl, HA, HJ1, BK526, HB⟩ := hcut
  cases kq with
  | zero => exact absurd HA.out (by simp [L_lineErr.j0])
  | succ kj1 =>
   have H := HA.out
   clear HA
   simp only [L_lineErr.j0] at H
   by_cases c12 : x3_1 = true
   ·subst c12
    rw [if_pos rfl] at H
    obtain ⟨y530, hy530⟩ : ∃ y_ : List Int, y_ = (([a0_0, a0_1, a0_2] : List Int)) := ⟨_, rfl⟩
    replace H : ((L_divisor.f kj1 y530).bind fun t533 => ((L_unless.f (t533 == 1) 3).bind fun t534 => (some t534))) = some r := by first | (rw [hy530]; with_reducible exact H) | (have H2_ := (Option.bind_some _ _).symm.trans H; rw [hy530]; with_reducible exact H2_) | (have H2_ := (Option.bind_some _ _).symm.trans H; with_reducible exact H2_) | with_reducible exact H | (rw [hy530]; exact H) | exact H
    have Ny530 := m0 hy530
    clear hy530
    replace H := ob H
    obtain ⟨t533, A13, H⟩ := H
    (try dsimp only at H)
    replace A13 := m0 A13
    replace H := ob H
    obtain ⟨t534, A14, H⟩ := H
    (try dsimp only at H)
    replace A14 := m0 A14
    obtain rfl := Option.some.inj H
    obtain ⟨_, _, _, _, _, _⟩ := b3 BK526
    go_wp2_with (first | ((with_reducible refine gate_dst (N := 25) rfl ?_); refine Kd.R_lit (Kd.int .i64) _ 3 ?hg (N := 25) ?hd (xs := ([a0_0, a0_1, a0_2] : List Int)) (inner := [.int .i64 a0_0, .int .i64 a0_1, .int .i64 a0_2]) (ok := fun _ => True) (okp := fun _ => True) ?hr ?hp (fun _ hk => hk) trivial (Below.refl _ _) (Nat.le_refl _) (by simp) ?_; (case hd => rfl); (case hg => rfl); (case hr => first | (go_simp; done) | (go_simp; rfl)); (case hp => exact (Reps.one (show Kd.M (Kd.int .i64) _ _ _ a0_0 [.int .i64 a0_0] from rfl) (Reps.one (show Kd.M (Kd.int .i64) _ _ _ a0_1 [.int .i64 a0_1] from rfl) (Reps.one (show Kd.M (Kd.int .i64) _ _ _ a0_2 [.int .i64 a0_2] from rfl) (Reps.none _ _))))); intro v531 w16 ho17 hb hg_ hnew_; clear hg_ hnew_; (first | rw [← Ny530.out] at ho17 | (simp only [Int.reduceToNat] at ho17; rw [← Ny530.out] at ho17)); have HO532 := m0 (Kd.R_lower ho17 (below_size bz)); replace BK526 := bb BK526 hb; replace HB := sb HB hb; clear hb ho17; obtain ⟨Ao18, co18, eo18⟩ := Kd.R_slice HO532.out; subst eo18) | ((with_reducible refine gate_callee (f := 97) rfl ?_); refine gl (some 26) Try.func97 #[.slice Ao18 y530.length co18] ?_; (with_reducible refine (L_divisor.calls kj1 _ _ y530 t533 _ ?side1 ?side2 A13.out).mono ?_); (case side1 => exact bc (Kd.R_reads' HO532.out).2.2); (case side2 => exact (Kd.R_reads' HO532.out).2.1); rintro e w19 ⟨rfl, hb⟩; refine ⟨_, rfl, ?_⟩; replace HO532 := rb HO532 hb; replace BK526 := bb BK526 hb; replace HB := sb HB hb; (try clear hb)) | ((with_reducible refine gate_callee (f := 76) rfl ?_); refine gl (some 28) Try.func76 #[.bool (t533 == 1), .int .i64 3] ?_; (with_reducible refine (L_unless.calls (t533 == 1) 3 t534 _ A14.out).mono ?_); rintro e w' ⟨rfl, ⟨nd, rfl⟩⟩; refine ⟨_, rfl, ?_⟩))
    go_ret
    exact ez
   ·replace c12 := Bool.eq_false_iff.mpr c12
    subst c12
    rw [if_neg (show ¬ (false = true) by decide)] at H
    obtain rfl := Option.some.inj H
    go_wp2
    go_ret
    exact ez
end
section
def L_LineAt.f (k : Nat) (a0_0 : Int) (a0_1 : Int) (a0_2 : Int) (a1 : Int) : Option (Int × Int × Int) := (L_lineErr.f k a0_0 a0_1 a0_2).bind fun t537 => ((L_within.f a1 0 2000).bind fun t538 => ((L_unless.f t538 2).bind fun t539 => ((L_first.f k (([t537, t539] : List Int))).bind fun t543 => (if t543 = 0 then ((L_floor.f (wrap64 ((wrap64 (a0_0 * a1)) + a0_1)) a0_2).bind fun t544 => ((L_ceil.f (wrap64 ((wrap64 (a0_0 * a1)) + a0_1)) a0_2).bind fun t545 => (some (t544, t545, 0)))) else (some (0, 0, t543))))))
theorem L_LineAt.mono : ∀ a0 a1 a2 a3 k, LeO (L_LineAt.f k a0 a1 a2 a3) (L_LineAt.f (k + 1) a0 a1 a2 a3) := by
 intro a0 a1 a2 a3 k
 unfold L_LineAt.f
 repeat' with_reducible first
  | exact L_first.mono ..
  | exact L_lineErr.mono ..
  | exact LeO.refl ..
  | exact LeO.none ..
  | refine LeO.ite ?_ ?_
  | refine LeO.bind ?_ (fun _ => ?_)
def L_LineAt.T5 : Bool × List (List Nat × List Nat) := (true, [([], []), ([], []), ([1], [1]), ([0, 2], [0, 2]), ([], []), ([], []), ([5], [5]), ([4, 6, 3], [4, 6]), ([3, 7], [3, 7]), ([8, 7, 0, 1, 2, 3, 4, 5, 6, 7, 8], [8]), ([9, 0, 1, 2, 3, 4, 5, 6, 7, 8, 9], [])])
def L_LineAt.B5 : List Nat := [0, 0, 2, 7, 0, 0, 32, 127, 255, 511, 1023]
theorem L_LineAt.tab5 : rtab .any (opsOf Try.f30 5) = L_LineAt.T5 := by kernel_rfl
theorem L_LineAt.bits5 : waitsOk L_LineAt.T5.2 L_LineAt.B5 = true := by kernel_rfl
theorem L_LineAt.calls (k : Nat) (a0_0 : Int) (a0_1 : Int) (a0_2 : Int) (a1 : Int) (r1 : Int) (r2 : Int) (r3 : Int) (w : World) (h : L_LineAt.f k a0_0 a0_1 a0_2 a1 = some (r1, r2, r3)) :
  Calls Try.prog 30 #[.agg #[.int .i64 a0_0, .int .i64 a0_1, .int .i64 a0_2], .int .i64 a1] w fun e w' => e = .returned (.tuple #[.agg #[.int .i64 r1, .int .i64 r2], .int .i64 r3]) ∧ Below w.heap.size w w' := by
 have hu56 := Try.underlying56
 have hu58 := Try.underlying58
 have HB := m0 (Below.refl w.heap.size w)
 have H : ((L_lineErr.f k a0_0 a0_1 a0_2).bind fun t537 => ((L_within.f a1 0 2000).bind fun t538 => ((L_unless.f t538 2).bind fun t539 => ((L_first.f k (([t537, t539] : List Int))).bind fun t543 => (if t543 = 0 then ((L_floor.f (wrap64 ((wrap64 (a0_0 * a1)) + a0_1)) a0_2).bind fun t544 => ((L_ceil.f (wrap64 ((wrap64 (a0_0 * a1)) + a0_1)) a0_2).bind fun t545 => (some (t544, t545, 0)))) else (some (0, 0, t543))))))) = some (r1, r2, r3) := h
 clear h
 replace H := ob H
 obtain ⟨t537, A3, H⟩ := H
 (try dsimp only at H)
 replace A3 := m0 A3
 replace H := ob H
 obtain ⟨t538, A4, H⟩ := H
 (try dsimp only at H)
 replace A4 := m0 A4
 replace H := ob H
 obtain ⟨t539, A5, H⟩ := H
 (try dsimp only at H)
 replace A5 := m0 A5
 obtain ⟨y540, hy540⟩ : ∃ y_ : List Int, y_ = (([t537, t539] : List Int)) := ⟨_, rfl⟩
 replace H : ((L_first.f k y540).bind fun t543 => (if t543 = 0 then ((L_floor.f (wrap64 ((wrap64 (a0_0 * a1)) + a0_1)) a0_2).bind fun t544 => ((L_ceil.f (wrap64 ((wrap64 (a0_0 * a1)) + a0_1)) a0_2).bind fun t545 => (some (t544, t545, 0)))) else (some (0, 0, t543)))) = some (r1, r2, r3) := by first | (rw [hy540]; with_reducible exact H) | (have H2_ := (Option.bind_some _ _).symm.trans H; rw [hy540]; with_reducible exact H2_) | (have H2_ := (Option.bind_some _ _).symm.trans H; with_reducible exact H2_) | with_reducible exact H | (rw [hy540]; exact H) | exact H
 have Ny540 := m0 hy540
 clear hy540
 replace H := ob H
 obtain ⟨t543, A6, H⟩ := H
 (try dsimp only at H)
 replace A6 := m0 A6
 by_cases c7 : t543 = 0
 ·rw [if_pos c7] at H
  have c7b0 := beq_iff_eq.mpr c7
  have c7b1 := bne_eq_false_iff_eq.mpr c7
  clear c7
  replace H := ob H
  obtain ⟨t544, A8, H⟩ := H
  (try dsimp only at H)
  replace A8 := m0 A8
  replace H := ob H
  obtain ⟨t545, A9, H⟩ := H
  (try dsimp only at H)
  replace A9 := m0 A9
  simp only [Option.some.injEq, Prod.mk.injEq] at H
  obtain ⟨rfl, rfl, rfl⟩ := H
  go_enter Try.func30, Try.ntmps30
  try go_wp2_with (first | ((with_reducible refine gate_dst (N := 2) rfl ?_); refine be 2 56 #[.int .i64 a0_0, .int .i64 a0_1, .int .i64 a0_2] ?_; intro gb535 hg w10 hbox hb; have BK535 := m0 hbox; have GE535 := gw w hg; replace HB := sb HB hb; clear hb hbox hg) | ((with_reducible refine gate_dst (N := 4) rfl ?_); refine be 4 58 #[.int .i64 0, .int .i64 0] ?_; intro gb536 hg w11 hbox hb; have BK536 := m0 hbox; have GE536 := gw w hg; replace HB := sb HB hb; have NB535_536 := nl BK535 hg; have NB536_535 := ng (nl BK535 hg); replace BK535 := bb BK535 hb; clear hb hbox hg; have hnb12 := NB535_536.out; have hnc12 := NB536_535.out; obtain ⟨_, _, _, _, _, _⟩ := b3 BK535) | ((with_reducible refine gate_callee (f := 90) rfl ?_); refine gl (some 9) Try.func90 #[.agg #[.int .i64 a0_0, .int .i64 a0_1, .int .i64 a0_2]] ?_; (with_reducible refine (L_lineErr.calls k a0_0 a0_1 a0_2 t537 _ A3.out).mono ?_); rintro e w14 ⟨rfl, hb⟩; refine ⟨_, rfl, ?_⟩; replace BK535 := bb BK535 hb; replace BK536 := bb BK536 hb; replace HB := sb HB hb; (try clear hb)) | ((with_reducible refine gate_callee (f := 78) rfl ?_); refine gl (some 11) Try.func78 #[.int .i64 a1, .int .i64 0, .int .i64 2000] ?_; (with_reducible refine (L_within.calls a1 0 2000 t538 _ A4.out).mono ?_); rintro e w' ⟨rfl, ⟨nd, rfl⟩⟩; refine ⟨_, rfl, ?_⟩; (try (rw [drewN_self w14]; generalize hq_ : World.drewN w14 _ = w14; replace BK535 := gd BK535 hq_; replace BK536 := gd BK536 hq_; replace HB := gs HB hq_; clear hq_))) | ((with_reducible refine gate_callee (f := 76) rfl ?_); refine gl (some 12) Try.func76 #[.bool t538, .int .i64 2] ?_; (with_reducible refine (L_unless.calls t538 2 t539 _ A5.out).mono ?_); rintro e w' ⟨rfl, ⟨nd, rfl⟩⟩; refine ⟨_, rfl, ?_⟩; (try (rw [drewN_self w14]; generalize hq_ : World.drewN w14 _ = w14; replace BK535 := gd BK535 hq_; replace BK536 := gd BK536 hq_; replace HB := gs HB hq_; clear hq_))) | ((with_reducible refine gate_dst (N := 13) rfl ?_); refine Kd.R_lit (Kd.int .i64) _ 24 ?hg (N := 13) ?hd (xs := ([t537, t539] : List Int)) (inner := [.int .i64 t537, .int .i64 t539]) (ok := fun _ => True) (okp := fun _ => True) ?hr ?hp (fun _ hk => hk) trivial (Below.refl _ _) (Nat.le_refl _) (by simp) ?_; (case hd => rfl); (case hg => rfl); (case hr => first | (go_simp; done) | (go_simp; rfl)); (case hp => exact (Reps.one (show Kd.M (Kd.int .i64) _ _ _ t537 [.int .i64 t537] from rfl) (Reps.one (show Kd.M (Kd.int .i64) _ _ _ t539 [.int .i64 t539] from rfl) (Reps.none _ _)))); intro v541 w15 ho16 hb hg_ hnew_; clear hg_ hnew_; (first | rw [← Ny540.out] at ho16 | (simp only [Int.reduceToNat] at ho16; rw [← Ny540.out] at ho16)); have HO542 := m0 (Kd.R_lower ho16 (below_size bz)); replace BK535 := bb BK535 hb; replace BK536 := bb BK536 hb; replace HB := sb HB hb; clear hb ho16; obtain ⟨Ao17, co17, eo17⟩ := Kd.R_slice HO542.out; subst eo17) | ((with_reducible refine gate_callee (f := 75) rfl ?_); refine gl (some 14) Try.func75 #[.slice Ao17 y540.length co17] ?_; (with_reducible refine (L_first.calls k _ _ y540 t543 _ ?side1 ?side2 A6.out).mono ?_); (case side1 => exact bc (Kd.R_reads' HO542.out).2.2); (case side2 => exact (Kd.R_reads' HO542.out).2.1); rintro e w' ⟨rfl, ⟨nd, rfl⟩⟩; refine ⟨_, rfl, ?_⟩; (try (rw [drewN_self w15]; generalize hq_ : World.drewN w15 _ = w15; replace HO542 := gr HO542 hq_; replace BK535 := gd BK535 hq_; replace BK536 := gd BK536 hq_; replace HB := gs HB hq_; clear hq_)); obtain ⟨_, _, _, _, _, _⟩ := b3 BK535))
  replace HO542 := m0 (Kd.R_drew HO542.out); replace BK535 := bd BK535; replace BK536 := bd BK536; replace HB := sd HB
  refine start_ (n := 11) (S := fun w' => w'.cell? ⟨gb535, 0, none⟩ = some (.int .i64 a0_0) ∧ w'.cell? ⟨gb535, 1, none⟩ = some (.int .i64 a0_1) ∧ w'.cell? ⟨gb535, 2, none⟩ = some (.int .i64 a0_2)) (ds := []) #[false, false, false, false, false, false, false, false, false, false, false] (by kernel_rfl) rfl rfl cz (fun hH => ?_); refine with_tabW L_LineAt.tab5 L_LineAt.bits5 (fun HT_ HW_ => ?_)
  generalize w15.drew = w19 at HO542 BK535 BK536 HB hH ⊢
  refine pZ 0 (some 26) #[true, false, false, false, false, false, false, false, false, false, false] HT_ ?_
  refine pZ 1 (some 27) #[true, true, false, false, false, false, false, false, false, false, false] HT_ ?_
  refine pZ 4 (some 30) #[true, true, false, false, true, false, false, false, false, false, false] HT_ ?_
  refine pZ 5 (some 31) #[true, true, false, false, true, true, false, false, false, false, false] HT_ ?_
  refine takeZ 2 (some 28) #[true, true, true, false, true, true, false, false, false, false, false] (take_ofW HT_.out HW_.out (by kernel_rfl)) hH ?_
  refine takeZ 6 (some 32) #[true, true, true, false, true, true, true, false, false, false, false] (take_ofW HT_.out HW_.out (by kernel_rfl)) hH ?_
  refine oneZ 3 (some 29) #[true, true, true, true, true, true, true, false, false, false, false] (one_of HT_.out (by kernel_rfl)) fun K hK => ?_
  refine gz Try.func91 #[.int .i64 (wrap64 ((wrap64 (a0_0 * a1)) + a0_1)), .int .i64 a0_2] ?_
  with_reducible refine (L_floor.calls (wrap64 ((wrap64 (a0_0 * a1)) + a0_1)) a0_2 t544 _ A8.out).mono ?_
  rintro e w' ⟨rfl, ⟨nd, rfl⟩⟩
  refine ⟨_, rfl, ?_⟩
  refine hK.out _ _ cz (fun hH => ?_)
  clear hK K
  refine norm_ (a' := ?_) ?_ ?_
  rotate_left
  ·show Act.put _ (some 29) _ = _
   exact pz
  refine oneZ 7 (some 33) #[true, true, true, true, true, true, true, true, false, false, false] (one_of HT_.out (by kernel_rfl)) fun K hK => ?_
  refine gz Try.func80 #[.int .i64 (wrap64 ((wrap64 (a0_0 * a1)) + a0_1)), .int .i64 a0_2] ?_
  with_reducible refine (L_ceil.calls (wrap64 ((wrap64 (a0_0 * a1)) + a0_1)) a0_2 t545 _ A9.out).mono ?_
  rintro e w' ⟨rfl, ⟨nd, rfl⟩⟩
  refine ⟨_, rfl, ?_⟩
  refine hK.out _ _ cz (fun hH => ?_)
  clear hK K
  refine norm_ (a' := ?_) ?_ ?_
  rotate_left
  ·show Act.put _ (some 33) _ = _
   exact pz
  refine pZ 8 (some 34) #[true, true, true, true, true, true, true, true, true, false, false] HT_ ?_
  refine oneZ 9 (none) #[true, true, true, true, true, true, true, true, true, true, false] (one_of HT_.out (by kernel_rfl)) fun K hK => ?_
  have hs20 : w19.cell? ⟨gb536, 0, none⟩ = some (.int .i64 0) := (blk_cell BK536.out 0).trans rfl
  have hfs20 := blk_frozen BK536.out 0
  have hs21 : w19.cell? ⟨gb536, 1, none⟩ = some (.int .i64 0) := (blk_cell BK536.out 1).trans rfl
  have hfs21 := blk_frozen BK536.out 1
  refine skip_ (w1 := ?_) (by rfl) rfl ?_ ?_
  rotate_left
  ·go_simp
   rfl
  refine hK.out _ _ (cf hH) (fun hH => ?_)
  clear hK K
  refine pZ 10 (some 5) #[true, true, true, true, true, true, true, true, true, true, true] HT_ ?_
  refine done_ (done_of HT_.out (by kernel_rfl)) ?_
  try go_wp2
  refine bodyPost_ret (results_ct rfl _ _ gb536 58 #[.int .i64 t544, .int .i64 t545] (0, 0) _ rfl (bq BK536.out) Try.underlying58 rfl (by kernel_rfl)) rfl ?_
  exact ez
 ·rw [if_neg c7] at H
  have c7b0 := beq_eq_false_iff_ne.mpr c7
  have c7b1 := bne_iff_ne.mpr c7
  simp only [Option.some.injEq, Prod.mk.injEq] at H
  obtain ⟨rfl, rfl, rfl⟩ := H
  go_enter Try.func30, Try.ntmps30
  go_wp2_with (first | ((with_reducible refine gate_dst (N := 2) rfl ?_); refine be 2 56 #[.int .i64 a0_0, .int .i64 a0_1, .int .i64 a0_2] ?_; intro gb535 hg w22 hbox hb; have BK535 := m0 hbox; have GE535 := gw w hg; replace HB := sb HB hb; clear hb hbox hg) | ((with_reducible refine gate_dst (N := 4) rfl ?_); refine be 4 58 #[.int .i64 0, .int .i64 0] ?_; intro gb536 hg w23 hbox hb; have BK536 := m0 hbox; have GE536 := gw w hg; replace HB := sb HB hb; have NB535_536 := nl BK535 hg; have NB536_535 := ng (nl BK535 hg); replace BK535 := bb BK535 hb; clear hb hbox hg; have hnb24 := NB535_536.out; have hnc24 := NB536_535.out; obtain ⟨_, _, _, _, _, _⟩ := b3 BK535) | ((with_reducible refine gate_callee (f := 90) rfl ?_); refine gl (some 9) Try.func90 #[.agg #[.int .i64 a0_0, .int .i64 a0_1, .int .i64 a0_2]] ?_; (with_reducible refine (L_lineErr.calls k a0_0 a0_1 a0_2 t537 _ A3.out).mono ?_); rintro e w26 ⟨rfl, hb⟩; refine ⟨_, rfl, ?_⟩; replace BK535 := bb BK535 hb; replace BK536 := bb BK536 hb; replace HB := sb HB hb; (try clear hb)) | ((with_reducible refine gate_callee (f := 78) rfl ?_); refine gl (some 11) Try.func78 #[.int .i64 a1, .int .i64 0, .int .i64 2000] ?_; (with_reducible refine (L_within.calls a1 0 2000 t538 _ A4.out).mono ?_); rintro e w' ⟨rfl, ⟨nd, rfl⟩⟩; refine ⟨_, rfl, ?_⟩; (try (rw [drewN_self w26]; generalize hq_ : World.drewN w26 _ = w26; replace BK535 := gd BK535 hq_; replace BK536 := gd BK536 hq_; replace HB := gs HB hq_; clear hq_))) | ((with_reducible refine gate_callee (f := 76) rfl ?_); refine gl (some 12) Try.func76 #[.bool t538, .int .i64 2] ?_; (with_reducible refine (L_unless.calls t538 2 t539 _ A5.out).mono ?_); rintro e w' ⟨rfl, ⟨nd, rfl⟩⟩; refine ⟨_, rfl, ?_⟩; (try (rw [drewN_self w26]; generalize hq_ : World.drewN w26 _ = w26; replace BK535 := gd BK535 hq_; replace BK536 := gd BK536 hq_; replace HB := gs HB hq_; clear hq_))) | ((with_reducible refine gate_dst (N := 13) rfl ?_); refine Kd.R_lit (Kd.int .i64) _ 24 ?hg (N := 13) ?hd (xs := ([t537, t539] : List Int)) (inner := [.int .i64 t537, .int .i64 t539]) (ok := fun _ => True) (okp := fun _ => True) ?hr ?hp (fun _ hk => hk) trivial (Below.refl _ _) (Nat.le_refl _) (by simp) ?_; (case hd => rfl); (case hg => rfl); (case hr => first | (go_simp; done) | (go_simp; rfl)); (case hp => exact (Reps.one (show Kd.M (Kd.int .i64) _ _ _ t537 [.int .i64 t537] from rfl) (Reps.one (show Kd.M (Kd.int .i64) _ _ _ t539 [.int .i64 t539] from rfl) (Reps.none _ _)))); intro v541 w27 ho28 hb hg_ hnew_; clear hg_ hnew_; (first | rw [← Ny540.out] at ho28 | (simp only [Int.reduceToNat] at ho28; rw [← Ny540.out] at ho28)); have HO542 := m0 (Kd.R_lower ho28 (below_size bz)); replace BK535 := bb BK535 hb; replace BK536 := bb BK536 hb; replace HB := sb HB hb; clear hb ho28; obtain ⟨Ao29, co29, eo29⟩ := Kd.R_slice HO542.out; subst eo29) | ((with_reducible refine gate_callee (f := 75) rfl ?_); refine gl (some 14) Try.func75 #[.slice Ao29 y540.length co29] ?_; (with_reducible refine (L_first.calls k _ _ y540 t543 _ ?side1 ?side2 A6.out).mono ?_); (case side1 => exact bc (Kd.R_reads' HO542.out).2.2); (case side2 => exact (Kd.R_reads' HO542.out).2.1); rintro e w' ⟨rfl, ⟨nd, rfl⟩⟩; refine ⟨_, rfl, ?_⟩; (try (rw [drewN_self w27]; generalize hq_ : World.drewN w27 _ = w27; replace HO542 := gr HO542 hq_; replace BK535 := gd BK535 hq_; replace BK536 := gd BK536 hq_; replace HB := gs HB hq_; clear hq_)); obtain ⟨_, _, _, _⟩ := b2 BK536))
  refine bodyPost_ret (results_ct rfl _ _ gb536 58 #[.int .i64 0, .int .i64 0] (0, 0) _ rfl (bq BK536.out) Try.underlying58 rfl (by kernel_rfl)) rfl ?_
  exact ez
end
section
def L_CorrectedIn.j0 : Nat → Int → Int → Int → Int → Int → Int → Option (Int × Int × Int)
 | 0, _, _, _, _, _, _ => none
 | k + 1, x6, x547000, x547001, x547002, x548000, x548001 => if x6 = 0 then ((L_floor.f (wrap64 ((wrap64 (x547002 * x548000)) - x547001)) x547000).bind fun t565 => ((L_ceil.f (wrap64 ((wrap64 (x547002 * x548001)) - x547001)) x547000).bind fun t566 => (some (t565, t566, 0)))) else (some (0, 0, x6))
def L_CorrectedIn.f (k : Nat) (a0_0 : Int) (a0_1 : Int) (a0_2 : Int) (a1_0 : Int) (a1_1 : Int) : Option (Int × Int × Int) := (L_lineErr.f k a0_0 a0_1 a0_2).bind fun t549 => ((L_unless.f (decide (a0_0 > 0)) 11).bind fun t550 => ((L_within.f a1_0 0 2000).bind fun t551 => (if t551 = true then ((L_within.f a1_1 0 2000).bind fun t552 => ((L_unless.f t552 2).bind fun t553 => ((L_unless.f (decide (a1_0 ≤ a1_1)) 9).bind fun t554 => ((L_first.f k (([t549, t550, t553, t554] : List Int))).bind fun t558 => (L_CorrectedIn.j0 k t558 a0_0 a0_1 a0_2 a1_0 a1_1))))) else ((L_unless.f false 2).bind fun t559 => ((L_unless.f (decide (a1_0 ≤ a1_1)) 9).bind fun t560 => ((L_first.f k (([t549, t550, t559, t560] : List Int))).bind fun t564 => (L_CorrectedIn.j0 k t564 a0_0 a0_1 a0_2 a1_0 a1_1)))))))
theorem L_CorrectedIn.mono_l : ∀ k, (∀ y0 y1 y2 y3 y4 y5, LeO (L_CorrectedIn.j0 k y0 y1 y2 y3 y4 y5) (L_CorrectedIn.j0 (k + 1) y0 y1 y2 y3 y4 y5))
 | 0 => fun _ _ _ _ _ _ r h => by simp [L_CorrectedIn.j0] at h
 | k + 1 => by
  have ih0 := L_CorrectedIn.mono_l k
  ·intro y0 y1 y2 y3 y4 y5
   unfold L_CorrectedIn.j0
   repeat' with_reducible first
    | exact ih0 ..
    | exact L_first.mono ..
    | exact L_lineErr.mono ..
    | exact LeO.refl ..
    | exact LeO.none ..
    | refine LeO.ite ?_ ?_
    | refine LeO.bind ?_ (fun _ => ?_)
theorem L_CorrectedIn.mono : ∀ a0 a1 a2 a3 a4 k, LeO (L_CorrectedIn.f k a0 a1 a2 a3 a4) (L_CorrectedIn.f (k + 1) a0 a1 a2 a3 a4) := by
 intro a0 a1 a2 a3 a4 k
 have ih0 := L_CorrectedIn.mono_l k
 unfold L_CorrectedIn.f
 repeat' with_reducible first
  | exact ih0 ..
  | exact L_first.mono ..
  | exact L_lineErr.mono ..
  | exact LeO.refl ..
  | exact LeO.none ..
  | refine LeO.ite ?_ ?_
  | refine LeO.bind ?_ (fun _ => ?_)
def L_CorrectedIn.T1 : Bool × List (List Nat × List Nat) := (true, [([], []), ([0], [0]), ([], []), ([2], [2]), ([3], [3]), ([4, 1], [4]), ([], []), ([6], [6]), ([7, 5], [7]), ([8, 8], [8]), ([9], [9]), ([10, 9], [9, 10]), ([11, 9, 9], [9, 11]), ([9, 12], [9, 12]), ([13, 12], [13]), ([], []), ([15], [15]), ([], []), ([17], [17]), ([16, 18], [16, 18]), ([19, 14], [19]), ([1, 5, 14, 20], [1, 5, 14, 20]), ([21, 20], [21]), ([22, 22, 0, 1, 2, 3, 4, 5, 6, 7, 8, 9, 10, 11, 12, 13, 14, 15, 16, 17, 18, 19, 20, 21, 22], [22])])
def L_CorrectedIn.B1 : List Nat := [0, 1, 0, 4, 12, 31, 0, 64, 255, 511, 1023, 2047, 4095, 8191, 16383, 0, 32768, 0, 131072, 491520, 1048575, 2097151, 4194303, 8388607]
theorem L_CorrectedIn.tab1 : rtab .any (opsOf Try.f31 1) = L_CorrectedIn.T1 := by kernel_rfl
theorem L_CorrectedIn.bits1 : waitsOk L_CorrectedIn.T1.2 L_CorrectedIn.B1 = true := by kernel_rfl
def L_CorrectedIn.T4 : Bool × List (List Nat × List Nat) := (true, [([], []), ([0], [0]), ([], []), ([2], [2]), ([1, 3], [1, 3]), ([], []), ([5], [5]), ([4, 6], [4, 6]), ([], []), ([8], [8]), ([7, 9], [7, 9]), ([], []), ([11], [11]), ([], []), ([13], [13]), ([12, 14], [12, 14]), ([], []), ([16], [16]), ([15, 17], [15, 17]), ([], []), ([19], [19]), ([18, 20, 10], [18, 20]), ([10, 21], [10, 21]), ([22, 21, 0, 1, 2, 3, 4, 5, 6, 7, 8, 9, 10, 11, 12, 13, 14, 15, 16, 17, 18, 19, 20, 21, 22], [22]), ([23, 0, 1, 2, 3, 4, 5, 6, 7, 8, 9, 10, 11, 12, 13, 14, 15, 16, 17, 18, 19, 20, 21, 22, 23], [])])
def L_CorrectedIn.B4 : List Nat := [0, 1, 0, 4, 15, 0, 32, 127, 0, 256, 1023, 0, 2048, 0, 8192, 30720, 0, 65536, 260096, 0, 524288, 2097151, 4194303, 8388607, 16777215]
theorem L_CorrectedIn.tab4 : rtab .any (opsOf Try.f31 4) = L_CorrectedIn.T4 := by kernel_rfl
theorem L_CorrectedIn.bits4 : waitsOk L_CorrectedIn.T4.2 L_CorrectedIn.B4 = true := by kernel_rfl
theorem L_CorrectedIn.calls (k : Nat) (a0_0 : Int) (a0_1 : Int) (a0_2 : Int) (a1_0 : Int) (a1_1 : Int) (r1 : Int) (r2 : Int) (r3 : Int) (w : World) (h : L_CorrectedIn.f k a0_0 a0_1 a0_2 a1_0 a1_1 = some (r1, r2, r3)) :
  Calls Try.prog 31 #[.agg #[.int .i64 a0_0, .int .i64 a0_1, .int .i64 a0_2], .agg #[.int .i64 a1_0, .int .i64 a1_1]] w fun e w' => e = .returned (.tuple #[.agg #[.int .i64 r1, .int .i64 r2], .int .i64 r3]) ∧ Below w.heap.size w w' := by
 have hu56 := Try.underlying56
 have hu58 := Try.underlying58
 have HB := m0 (Below.refl w.heap.size w)
 have H : ((L_lineErr.f k a0_0 a0_1 a0_2).bind fun t549 => ((L_unless.f (decide (a0_0 > 0)) 11).bind fun t550 => ((L_within.f a1_0 0 2000).bind fun t551 => (if t551 = true then ((L_within.f a1_1 0 2000).bind fun t552 => ((L_unless.f t552 2).bind fun t553 => ((L_unless.f (decide (a1_0 ≤ a1_1)) 9).bind fun t554 => ((L_first.f k (([t549, t550, t553, t554] : List Int))).bind fun t558 => (L_CorrectedIn.j0 k t558 a0_0 a0_1 a0_2 a1_0 a1_1))))) else ((L_unless.f false 2).bind fun t559 => ((L_unless.f (decide (a1_0 ≤ a1_1)) 9).bind fun t560 => ((L_first.f k (([t549, t550, t559, t560] : List Int))).bind fun t564 => (L_CorrectedIn.j0 k t564 a0_0 a0_1 a0_2 a1_0 a1_1)))))))) = some (r1, r2, r3) := h
 clear h
 have HC3 := m0 H
 clear H
 go_enter Try.func31, Try.ntmps31
 go_upto_region 1 with (first | ((with_reducible refine gate_dst (N := 2) rfl ?_); refine be 2 56 #[.int .i64 a0_0, .int .i64 a0_1, .int .i64 a0_2] ?_; intro gb546 hg w4 hbox hb; have BK546 := m0 hbox; have GE546 := gw w hg; replace HB := sb HB hb; clear hb hbox hg) | ((with_reducible refine gate_dst (N := 3) rfl ?_); refine be 3 58 #[.int .i64 a1_0, .int .i64 a1_1] ?_; intro gb547 hg w5 hbox hb; have BK547 := m0 hbox; have GE547 := gw w hg; replace HB := sb HB hb; have NB546_547 := nl BK546 hg; have NB547_546 := ng (nl BK546 hg); replace BK546 := bb BK546 hb; clear hb hbox hg) | ((with_reducible refine gate_dst (N := 4) rfl ?_); refine be 4 58 #[.int .i64 0, .int .i64 0] ?_; intro gb548 hg w6 hbox hb; have BK548 := m0 hbox; have GE548 := gw w hg; replace HB := sb HB hb; have NB546_548 := nl BK546 hg; have NB548_546 := ng (nl BK546 hg); replace BK546 := bb BK546 hb; have NB547_548 := nl BK547 hg; have NB548_547 := ng (nl BK547 hg); replace BK547 := bb BK547 hb; clear hb hbox hg))
 (try simp only [Act.put, List.setIfInBounds_toArray, List.set_cons_zero, List.set_cons_succ])
 go_cut [6] (fun v6 wc => ∃ (kq : Nat) (x6_2 : Int), v6 = .int .i64 x6_2 ∧ Aside0 (L_CorrectedIn.j0 kq x6_2 a0_0 a0_1 a0_2 a1_0 a1_1 = some (r1, r2, r3)) ∧ Aside0 (kq ≤ k) ∧ Aside0 (wc.heap[gb546]? = some (.cells #[.int .i64 a0_0, .int .i64 a0_1, .int .i64 a0_2] 56 (0, 0))) ∧ Aside0 (wc.heap[gb547]? = some (.cells #[.int .i64 a1_0, .int .i64 a1_1] 58 (0, 0))) ∧ Aside0 (wc.heap[gb548]? = some (.cells #[.int .i64 0, .int .i64 0] 58 (0, 0))) ∧ Aside0 (Below w.heap.size w wc))
 case first =>
  have H := HC3.out
  clear HC3
  replace H := ob H
  obtain ⟨t549, A7, H⟩ := H
  (try dsimp only at H)
  replace A7 := m0 A7
  replace H := ob H
  obtain ⟨t550, A8, H⟩ := H
  (try dsimp only at H)
  replace A8 := m0 A8
  replace H := ob H
  obtain ⟨t551, A9, H⟩ := H
  (try dsimp only at H)
  replace A9 := m0 A9
  by_cases c10 : t551 = true
  ·subst c10
   rw [if_pos rfl] at H
   replace H := ob H
   obtain ⟨t552, A11, H⟩ := H
   (try dsimp only at H)
   replace A11 := m0 A11
   replace H := ob H
   obtain ⟨t553, A12, H⟩ := H
   (try dsimp only at H)
   replace A12 := m0 A12
   replace H := ob H
   obtain ⟨t554, A13, H⟩ := H
   (try dsimp only at H)
   replace A13 := m0 A13
   obtain ⟨y555, hy555⟩ : ∃ y_ : List Int, y_ = (([t549, t550, t553, t554] : List Int)) := ⟨_, rfl⟩
   replace H : ((L_first.f k y555).bind fun t558 => (L_CorrectedIn.j0 k t558 a0_0 a0_1 a0_2 a1_0 a1_1)) = some (r1, r2, r3) := by first | (rw [hy555]; with_reducible exact H) | (have H2_ := (Option.bind_some _ _).symm.trans H; rw [hy555]; with_reducible exact H2_) | (have H2_ := (Option.bind_some _ _).symm.trans H; with_reducible exact H2_) | with_reducible exact H | (rw [hy555]; exact H) | exact H
   have Ny555 := m0 hy555
   clear hy555
   replace H := ob H
   obtain ⟨t558, A14, H⟩ := H
   (try dsimp only at H)
   replace A14 := m0 A14
   have H' := m0 H
   clear H
   try go_wp2
   replace BK546 := bd BK546; replace BK547 := bd BK547; replace BK548 := bd BK548; replace HB := sd HB
   refine start_ (n := 24) (S := fun w' => w'.cell? ⟨gb546, 0, none⟩ = some (.int .i64 a0_0) ∧ w'.cell? ⟨gb546, 1, none⟩ = some (.int .i64 a0_1) ∧ w'.cell? ⟨gb546, 2, none⟩ = some (.int .i64 a0_2) ∧ w'.cell? ⟨gb547, 0, none⟩ = some (.int .i64 a1_0) ∧ w'.cell? ⟨gb547, 1, none⟩ = some (.int .i64 a1_1)) (ds := []) #[false, false, false, false, false, false, false, false, false, false, false, false, false, false, false, false, false, false, false, false, false, false, false, false] (by kernel_rfl) rfl rfl cz (fun hH => ?_); refine with_tabW L_CorrectedIn.tab1 L_CorrectedIn.bits1 (fun HT_ HW_ => ?_)
   generalize w6.drew = w15 at BK546 BK547 BK548 HB hH ⊢
   refine pZ 2 (some 9) (bs 24 4) HT_ ?_
   refine pZ 6 (some 13) (bs 24 68) HT_ ?_
   refine pZ 15 (some 22) (bs 24 32836) HT_ ?_
   refine pZ 17 (some 24) (bs 24 163908) HT_ ?_
   refine takeZ 0 (some 7) (bs 24 163909) (take_ofW HT_.out HW_.out (by kernel_rfl)) hH ?_
   refine takeZ 3 (some 10) (bs 24 163917) (take_ofW HT_.out HW_.out (by kernel_rfl)) hH ?_
   refine pZ 4 (some 11) (bs 24 163933) HT_ ?_
   refine takeZ 7 (some 14) (bs 24 164061) (take_ofW HT_.out HW_.out (by kernel_rfl)) hH ?_
   refine takeZ 16 (some 23) (bs 24 229597) (take_ofW HT_.out HW_.out (by kernel_rfl)) hH ?_
   refine takeZ 18 (some 25) (bs 24 491741) (take_ofW HT_.out HW_.out (by kernel_rfl)) hH ?_
   refine pZ 19 (some 26) (bs 24 1016029) HT_ ?_
   refine oneZ 1 (some 8) (bs 24 1016031) (one_of HT_.out (by kernel_rfl)) fun K hK => ?_
   refine gz Try.func90 #[.agg #[.int .i64 a0_0, .int .i64 a0_1, .int .i64 a0_2]] ?_
   with_reducible refine (L_lineErr.calls k a0_0 a0_1 a0_2 t549 _ A7.out).mono ?_
   rintro e w16 ⟨rfl, hb⟩
   refine ⟨_, rfl, ?_⟩
   replace BK546 := bb BK546 hb; replace BK547 := bb BK547 hb; replace BK548 := bb BK548 hb; replace HB := sb HB hb
   (try clear hb)
   refine hK.out _ _ cz (fun hH => ?_)
   clear hK K
   refine norm_ (a' := ?_) ?_ ?_
   rotate_left
   ·show Act.put _ (some 8) _ = _
    exact pz
   refine oneZ 5 (some 12) (bs 24 1016063) (one_of HT_.out (by kernel_rfl)) fun K hK => ?_
   refine gz Try.func76 #[.bool (decide (a0_0 > 0)), .int .i64 11] ?_
   with_reducible refine (L_unless.calls (decide (a0_0 > 0)) 11 t550 _ A8.out).mono ?_
   rintro e w' ⟨rfl, ⟨nd, rfl⟩⟩
   refine ⟨_, rfl, ?_⟩
   refine hK.out _ _ cz (fun hH => ?_)
   clear hK K
   refine norm_ (a' := ?_) ?_ ?_
   rotate_left
   ·show Act.put _ (some 12) _ = _
    exact pz
   refine oneZ 8 (some 15) (bs 24 1016319) (one_of HT_.out (by kernel_rfl)) fun K hK => ?_
   refine gz Try.func78 #[.int .i64 a1_0, .int .i64 0, .int .i64 2000] ?_
   with_reducible refine (L_within.calls a1_0 0 2000 true _ A9.out).mono ?_
   rintro e w' ⟨rfl, ⟨nd, rfl⟩⟩
   refine ⟨_, rfl, ?_⟩
   refine hK.out _ _ cz (fun hH => ?_)
   clear hK K
   refine norm_ (a' := ?_) ?_ ?_
   rotate_left
   ·show Act.put _ (some 15) _ = _
    exact pz
   refine pZ 9 (some 16) (bs 24 1016831) HT_ ?_
   refine pZ 10 (some 17) (bs 24 1017855) HT_ ?_
   refine takeZ 11 (some 18) (bs 24 1019903) (take_ofW HT_.out HW_.out (by kernel_rfl)) hH ?_
   refine oneZ 12 (some 19) (bs 24 1023999) (one_of HT_.out (by kernel_rfl)) fun K hK => ?_
   refine gz Try.func78 #[.int .i64 a1_1, .int .i64 0, .int .i64 2000] ?_
   with_reducible refine (L_within.calls a1_1 0 2000 t552 _ A11.out).mono ?_
   rintro e w' ⟨rfl, ⟨nd, rfl⟩⟩
   refine ⟨_, rfl, ?_⟩
   refine hK.out _ _ cz (fun hH => ?_)
   clear hK K
   refine norm_ (a' := ?_) ?_ ?_
   rotate_left
   ·show Act.put _ (some 19) _ = _
    exact pz
   refine pZ 13 (some 20) (bs 24 1032191) HT_ ?_
   refine oneZ 14 (some 21) (bs 24 1048575) (one_of HT_.out (by kernel_rfl)) fun K hK => ?_
   refine gz Try.func76 #[.bool t552, .int .i64 2] ?_
   with_reducible refine (L_unless.calls t552 2 t553 _ A12.out).mono ?_
   rintro e w' ⟨rfl, ⟨nd, rfl⟩⟩
   refine ⟨_, rfl, ?_⟩
   refine hK.out _ _ cz (fun hH => ?_)
   clear hK K
   refine norm_ (a' := ?_) ?_ ?_
   rotate_left
   ·show Act.put _ (some 21) _ = _
    exact pz
   refine oneZ 20 (some 27) (bs 24 2097151) (one_of HT_.out (by kernel_rfl)) fun K hK => ?_
   refine gz Try.func76 #[.bool (decide (a1_0 ≤ a1_1)), .int .i64 9] ?_
   with_reducible refine (L_unless.calls (decide (a1_0 ≤ a1_1)) 9 t554 _ A13.out).mono ?_
   rintro e w' ⟨rfl, ⟨nd, rfl⟩⟩
   refine ⟨_, rfl, ?_⟩
   refine hK.out _ _ cz (fun hH => ?_)
   clear hK K
   refine norm_ (a' := ?_) ?_ ?_
   rotate_left
   ·show Act.put _ (some 27) _ = _
    exact pz
   refine oneZ 21 (some 28) (bs 24 4194303) (one_of HT_.out (by kernel_rfl)) fun K hK => ?_
   refine Kd.R_lit_step (Kd.int .i64) _ 24 ?hg (N := 28) ?hd (xs := ([t549, t550, t553, t554] : List Int)) (inner := [.int .i64 t549, .int .i64 t550, .int .i64 t553, .int .i64 t554]) (ok := fun _ => True) (okp := fun _ => True) ?hr ?hp (fun _ hk => hk) trivial (Below.refl _ _) (Nat.le_refl _) (by simp) ?_; (case hd => rfl); (case hg => rfl); (case hr => first | (go_simp; done) | (go_simp; rfl)); (case hp => exact (Reps.one (show Kd.M (Kd.int .i64) _ _ _ t549 [.int .i64 t549] from rfl) (Reps.one (show Kd.M (Kd.int .i64) _ _ _ t550 [.int .i64 t550] from rfl) (Reps.one (show Kd.M (Kd.int .i64) _ _ _ t553 [.int .i64 t553] from rfl) (Reps.one (show Kd.M (Kd.int .i64) _ _ _ t554 [.int .i64 t554] from rfl) (Reps.none _ _))))))
   intro v556 w17 ho18 hb hg_ hnew_
   clear hg_ hnew_
   (first | rw [← Ny555.out] at ho18 | (simp only [Int.reduceToNat] at ho18; rw [← Ny555.out] at ho18))
   have HO557 := m0 (Kd.R_lower ho18 (below_size bz)); replace BK546 := bb BK546 hb; replace BK547 := bb BK547 hb; replace BK548 := bb BK548 hb; replace HB := sb HB hb
   clear hb ho18
   obtain ⟨Ao19, co19, eo19⟩ := Kd.R_slice HO557.out
   subst eo19
   refine hK.out _ _ cz (fun hH => ?_)
   clear hK K
   refine norm_ (a' := ?_) ?_ ?_
   rotate_left
   ·show Act.put _ (some 28) _ = _
    exact pz
   refine oneZ 22 (some 29) (bs 24 8388607) (one_of HT_.out (by kernel_rfl)) fun K hK => ?_
   refine gz Try.func75 #[.slice Ao19 y555.length co19] ?_
   with_reducible refine (L_first.calls k _ _ y555 t558 _ ?side1 ?side2 A14.out).mono ?_
   (case side1 => exact bc (Kd.R_reads' HO557.out).2.2)
   (case side2 => exact (Kd.R_reads' HO557.out).2.1)
   rintro e w' ⟨rfl, ⟨nd, rfl⟩⟩
   refine ⟨_, rfl, ?_⟩
   refine hK.out _ _ cz (fun hH => ?_)
   clear hK K
   refine norm_ (a' := ?_) ?_ ?_
   rotate_left
   ·show Act.put _ (some 29) _ = _
    exact pz
   refine pZ 23 (some 6) (bs 24 16777215) HT_ ?_
   refine done_ (done_of HT_.out (by kernel_rfl)) ?_
   try go_wp2
   go_meet
   case rel => exact ⟨_, (t558), (by first | rfl | (simp; done) | (simp [*]; done)), H', ⟨by first | omega | exact Nat.le_refl _⟩, ⟨bk BK546.out⟩, ⟨bk BK547.out⟩, ⟨bk BK548.out⟩, ⟨bz⟩⟩
  ·replace c10 := Bool.eq_false_iff.mpr c10
   subst c10
   rw [if_neg (show ¬ (false = true) by decide)] at H
   replace H := ob H
   obtain ⟨t559, A20, H⟩ := H
   (try dsimp only at H)
   replace A20 := m0 A20
   replace H := ob H
   obtain ⟨t560, A21, H⟩ := H
   (try dsimp only at H)
   replace A21 := m0 A21
   obtain ⟨y561, hy561⟩ : ∃ y_ : List Int, y_ = (([t549, t550, t559, t560] : List Int)) := ⟨_, rfl⟩
   replace H : ((L_first.f k y561).bind fun t564 => (L_CorrectedIn.j0 k t564 a0_0 a0_1 a0_2 a1_0 a1_1)) = some (r1, r2, r3) := by first | (rw [hy561]; with_reducible exact H) | (have H2_ := (Option.bind_some _ _).symm.trans H; rw [hy561]; with_reducible exact H2_) | (have H2_ := (Option.bind_some _ _).symm.trans H; with_reducible exact H2_) | with_reducible exact H | (rw [hy561]; exact H) | exact H
   have Ny561 := m0 hy561
   clear hy561
   replace H := ob H
   obtain ⟨t564, A22, H⟩ := H
   (try dsimp only at H)
   replace A22 := m0 A22
   have H' := m0 H
   clear H
   try go_wp2
   replace BK546 := bd BK546; replace BK547 := bd BK547; replace BK548 := bd BK548; replace HB := sd HB
   refine start_ (n := 24) (S := fun w' => w'.cell? ⟨gb546, 0, none⟩ = some (.int .i64 a0_0) ∧ w'.cell? ⟨gb546, 1, none⟩ = some (.int .i64 a0_1) ∧ w'.cell? ⟨gb546, 2, none⟩ = some (.int .i64 a0_2) ∧ w'.cell? ⟨gb547, 0, none⟩ = some (.int .i64 a1_0) ∧ w'.cell? ⟨gb547, 1, none⟩ = some (.int .i64 a1_1)) (ds := []) #[false, false, false, false, false, false, false, false, false, false, false, false, false, false, false, false, false, false, false, false, false, false, false, false] (by kernel_rfl) rfl rfl cz (fun hH => ?_); refine with_tabW L_CorrectedIn.tab1 L_CorrectedIn.bits1 (fun HT_ HW_ => ?_)
   generalize w6.drew = w23 at BK546 BK547 BK548 HB hH ⊢
   refine pZ 2 (some 9) (bs 24 4) HT_ ?_
   refine pZ 6 (some 13) (bs 24 68) HT_ ?_
   refine pZ 15 (some 22) (bs 24 32836) HT_ ?_
   refine pZ 17 (some 24) (bs 24 163908) HT_ ?_
   refine takeZ 0 (some 7) (bs 24 163909) (take_ofW HT_.out HW_.out (by kernel_rfl)) hH ?_
   refine takeZ 3 (some 10) (bs 24 163917) (take_ofW HT_.out HW_.out (by kernel_rfl)) hH ?_
   refine pZ 4 (some 11) (bs 24 163933) HT_ ?_
   refine takeZ 7 (some 14) (bs 24 164061) (take_ofW HT_.out HW_.out (by kernel_rfl)) hH ?_
   refine takeZ 16 (some 23) (bs 24 229597) (take_ofW HT_.out HW_.out (by kernel_rfl)) hH ?_
   refine takeZ 18 (some 25) (bs 24 491741) (take_ofW HT_.out HW_.out (by kernel_rfl)) hH ?_
   refine pZ 19 (some 26) (bs 24 1016029) HT_ ?_
   refine oneZ 1 (some 8) (bs 24 1016031) (one_of HT_.out (by kernel_rfl)) fun K hK => ?_
   refine gz Try.func90 #[.agg #[.int .i64 a0_0, .int .i64 a0_1, .int .i64 a0_2]] ?_
   with_reducible refine (L_lineErr.calls k a0_0 a0_1 a0_2 t549 _ A7.out).mono ?_
   rintro e w24 ⟨rfl, hb⟩
   refine ⟨_, rfl, ?_⟩
   replace BK546 := bb BK546 hb; replace BK547 := bb BK547 hb; replace BK548 := bb BK548 hb; replace HB := sb HB hb
   (try clear hb)
   refine hK.out _ _ cz (fun hH => ?_)
   clear hK K
   refine norm_ (a' := ?_) ?_ ?_
   rotate_left
   ·show Act.put _ (some 8) _ = _
    exact pz
   refine oneZ 5 (some 12) (bs 24 1016063) (one_of HT_.out (by kernel_rfl)) fun K hK => ?_
   refine gz Try.func76 #[.bool (decide (a0_0 > 0)), .int .i64 11] ?_
   with_reducible refine (L_unless.calls (decide (a0_0 > 0)) 11 t550 _ A8.out).mono ?_
   rintro e w' ⟨rfl, ⟨nd, rfl⟩⟩
   refine ⟨_, rfl, ?_⟩
   refine hK.out _ _ cz (fun hH => ?_)
   clear hK K
   refine norm_ (a' := ?_) ?_ ?_
   rotate_left
   ·show Act.put _ (some 12) _ = _
    exact pz
   refine oneZ 8 (some 15) (bs 24 1016319) (one_of HT_.out (by kernel_rfl)) fun K hK => ?_
   refine gz Try.func78 #[.int .i64 a1_0, .int .i64 0, .int .i64 2000] ?_
   with_reducible refine (L_within.calls a1_0 0 2000 false _ A9.out).mono ?_
   rintro e w' ⟨rfl, ⟨nd, rfl⟩⟩
   refine ⟨_, rfl, ?_⟩
   refine hK.out _ _ cz (fun hH => ?_)
   clear hK K
   refine norm_ (a' := ?_) ?_ ?_
   rotate_left
   ·show Act.put _ (some 15) _ = _
    exact pz
   refine pZ 9 (some 16) (bs 24 1016831) HT_ ?_
   refine pure_ (i := 10) (N := some 17) (v := undef) (a' := ?_) (bs 24 1017855) rfl rfl (any_of HT_.out (by kernel_rfl)) (fun _ _ _ h => h) (Or.inr ⟨by rfl, rfl⟩) ?_ ?_
   rotate_left
   ·exact pz
   refine pure_ (i := 11) (N := some 18) (v := undef) (a' := ?_) (bs 24 1019903) rfl rfl (any_of HT_.out (by kernel_rfl)) (fun _ _ _ h => h) (Or.inr ⟨by rfl, rfl⟩) ?_ ?_
   rotate_left
   ·exact pz
   refine pure_ (i := 12) (N := some 19) (v := undef) (a' := ?_) (bs 24 1023999) rfl rfl (any_of HT_.out (by kernel_rfl)) (fun _ _ _ h => h) (Or.inr ⟨by rfl, rfl⟩) ?_ ?_
   rotate_left
   ·exact pz
   refine pZ 13 (some 20) (bs 24 1032191) HT_ ?_
   refine oneZ 14 (some 21) (bs 24 1048575) (one_of HT_.out (by kernel_rfl)) fun K hK => ?_
   refine gz Try.func76 #[.bool false, .int .i64 2] ?_
   with_reducible refine (L_unless.calls false 2 t559 _ A20.out).mono ?_
   rintro e w' ⟨rfl, ⟨nd, rfl⟩⟩
   refine ⟨_, rfl, ?_⟩
   refine hK.out _ _ cz (fun hH => ?_)
   clear hK K
   refine norm_ (a' := ?_) ?_ ?_
   rotate_left
   ·show Act.put _ (some 21) _ = _
    exact pz
   refine oneZ 20 (some 27) (bs 24 2097151) (one_of HT_.out (by kernel_rfl)) fun K hK => ?_
   refine gz Try.func76 #[.bool (decide (a1_0 ≤ a1_1)), .int .i64 9] ?_
   with_reducible refine (L_unless.calls (decide (a1_0 ≤ a1_1)) 9 t560 _ A21.out).mono ?_
   rintro e w' ⟨rfl, ⟨nd, rfl⟩⟩
   refine ⟨_, rfl, ?_⟩
   refine hK.out _ _ cz (fun hH => ?_)
   clear hK K
   refine norm_ (a' := ?_) ?_ ?_
   rotate_left
   ·show Act.put _ (some 27) _ = _
    exact pz
   refine oneZ 21 (some 28) (bs 24 4194303) (one_of HT_.out (by kernel_rfl)) fun K hK => ?_
   refine Kd.R_lit_step (Kd.int .i64) _ 24 ?hg (N := 28) ?hd (xs := ([t549, t550, t559, t560] : List Int)) (inner := [.int .i64 t549, .int .i64 t550, .int .i64 t559, .int .i64 t560]) (ok := fun _ => True) (okp := fun _ => True) ?hr ?hp (fun _ hk => hk) trivial (Below.refl _ _) (Nat.le_refl _) (by simp) ?_; (case hd => rfl); (case hg => rfl); (case hr => first | (go_simp; done) | (go_simp; rfl)); (case hp => exact (Reps.one (show Kd.M (Kd.int .i64) _ _ _ t549 [.int .i64 t549] from rfl) (Reps.one (show Kd.M (Kd.int .i64) _ _ _ t550 [.int .i64 t550] from rfl) (Reps.one (show Kd.M (Kd.int .i64) _ _ _ t559 [.int .i64 t559] from rfl) (Reps.one (show Kd.M (Kd.int .i64) _ _ _ t560 [.int .i64 t560] from rfl) (Reps.none _ _))))))
   intro v562 w25 ho26 hb hg_ hnew_
   clear hg_ hnew_
   (first | rw [← Ny561.out] at ho26 | (simp only [Int.reduceToNat] at ho26; rw [← Ny561.out] at ho26))
   have HO563 := m0 (Kd.R_lower ho26 (below_size bz)); replace BK546 := bb BK546 hb; replace BK547 := bb BK547 hb; replace BK548 := bb BK548 hb; replace HB := sb HB hb
   clear hb ho26
   obtain ⟨Ao27, co27, eo27⟩ := Kd.R_slice HO563.out
   subst eo27
   refine hK.out _ _ cz (fun hH => ?_)
   clear hK K
   refine norm_ (a' := ?_) ?_ ?_
   rotate_left
   ·show Act.put _ (some 28) _ = _
    exact pz
   refine oneZ 22 (some 29) (bs 24 8388607) (one_of HT_.out (by kernel_rfl)) fun K hK => ?_
   refine gz Try.func75 #[.slice Ao27 y561.length co27] ?_
   with_reducible refine (L_first.calls k _ _ y561 t564 _ ?side1 ?side2 A22.out).mono ?_
   (case side1 => exact bc (Kd.R_reads' HO563.out).2.2)
   (case side2 => exact (Kd.R_reads' HO563.out).2.1)
   rintro e w' ⟨rfl, ⟨nd, rfl⟩⟩
   refine ⟨_, rfl, ?_⟩
   refine hK.out _ _ cz (fun hH => ?_)
   clear hK K
   refine norm_ (a' := ?_) ?_ ?_
   rotate_left
   ·show Act.put _ (some 29) _ = _
    exact pz
   refine pZ 23 (some 6) (bs 24 16777215) HT_ ?_
   refine done_ (done_of HT_.out (by kernel_rfl)) ?_
   try go_wp2
   go_meet
   case rel => exact ⟨_, (t564), (by first | rfl | (simp; done) | (simp [*]; done)), H', ⟨by first | omega | exact Nat.le_refl _⟩, ⟨bk BK546.out⟩, ⟨bk BK547.out⟩, ⟨bk BK548.out⟩, ⟨bz⟩⟩
 case rest =>
  clear HC3
  obtain ⟨kq, x6_2, rfl, HA, HJ2, BK546, BK547, BK548, HB⟩ := hcut
  cases kq with
  | zero => exact absurd HA.out (by simp [L_CorrectedIn.j0])
  | succ kj2 =>
   have H := HA.out
   clear HA
   simp only [L_CorrectedIn.j0] at H
   by_cases c28 : x6_2 = 0
   ·rw [if_pos c28] at H
    have c28b0 := beq_iff_eq.mpr c28
    have c28b1 := bne_eq_false_iff_eq.mpr c28
    clear c28
    replace H := ob H
    obtain ⟨t565, A29, H⟩ := H
    (try dsimp only at H)
    replace A29 := m0 A29
    replace H := ob H
    obtain ⟨t566, A30, H⟩ := H
    (try dsimp only at H)
    replace A30 := m0 A30
    simp only [Option.some.injEq, Prod.mk.injEq] at H
    obtain ⟨rfl, rfl, rfl⟩ := H
    try go_wp2
    replace BK546 := bd BK546; replace BK547 := bd BK547; replace BK548 := bd BK548; replace HB := sd HB
    refine start_ (n := 25) (S := fun w' => w'.cell? ⟨gb546, 0, none⟩ = some (.int .i64 a0_0) ∧ w'.cell? ⟨gb546, 1, none⟩ = some (.int .i64 a0_1) ∧ w'.cell? ⟨gb546, 2, none⟩ = some (.int .i64 a0_2) ∧ w'.cell? ⟨gb547, 0, none⟩ = some (.int .i64 a1_0) ∧ w'.cell? ⟨gb547, 1, none⟩ = some (.int .i64 a1_1)) (ds := []) #[false, false, false, false, false, false, false, false, false, false, false, false, false, false, false, false, false, false, false, false, false, false, false, false, false] (by kernel_rfl) rfl rfl cz (fun hH => ?_); refine with_tabW L_CorrectedIn.tab4 L_CorrectedIn.bits4 (fun HT_ HW_ => ?_)
    generalize wc.drew = w31 at BK546 BK547 BK548 HB hH ⊢
    refine pZ 0 (some 34) (bs 25 1) HT_ ?_
    refine pZ 2 (some 36) (bs 25 5) HT_ ?_
    refine pZ 5 (some 39) (bs 25 37) HT_ ?_
    refine pZ 8 (some 42) (bs 25 293) HT_ ?_
    refine pZ 11 (some 45) (bs 25 2341) HT_ ?_
    refine pZ 13 (some 47) (bs 25 10533) HT_ ?_
    refine pZ 16 (some 50) (bs 25 76069) HT_ ?_
    refine pZ 19 (some 53) (bs 25 600357) HT_ ?_
    refine takeZ 1 (some 35) (bs 25 600359) (take_ofW HT_.out HW_.out (by kernel_rfl)) hH ?_
    refine takeZ 3 (some 37) (bs 25 600367) (take_ofW HT_.out HW_.out (by kernel_rfl)) hH ?_
    refine pZ 4 (some 38) (bs 25 600383) HT_ ?_
    refine takeZ 6 (some 40) (bs 25 600447) (take_ofW HT_.out HW_.out (by kernel_rfl)) hH ?_
    refine pZ 7 (some 41) (bs 25 600575) HT_ ?_
    refine takeZ 9 (some 43) (bs 25 601087) (take_ofW HT_.out HW_.out (by kernel_rfl)) hH ?_
    refine takeZ 12 (some 46) (bs 25 605183) (take_ofW HT_.out HW_.out (by kernel_rfl)) hH ?_
    refine takeZ 14 (some 48) (bs 25 621567) (take_ofW HT_.out HW_.out (by kernel_rfl)) hH ?_
    refine pZ 15 (some 49) (bs 25 654335) HT_ ?_
    refine takeZ 17 (some 51) (bs 25 785407) (take_ofW HT_.out HW_.out (by kernel_rfl)) hH ?_
    refine pZ 18 (some 52) (bs 25 1047551) HT_ ?_
    refine takeZ 20 (some 54) (bs 25 2096127) (take_ofW HT_.out HW_.out (by kernel_rfl)) hH ?_
    refine oneZ 10 (some 44) (bs 25 2097151) (one_of HT_.out (by kernel_rfl)) fun K hK => ?_
    refine gz Try.func91 #[.int .i64 (wrap64 ((wrap64 (a0_2 * a1_0)) - a0_1)), .int .i64 a0_0] ?_
    with_reducible refine (L_floor.calls (wrap64 ((wrap64 (a0_2 * a1_0)) - a0_1)) a0_0 t565 _ A29.out).mono ?_
    rintro e w' ⟨rfl, ⟨nd, rfl⟩⟩
    refine ⟨_, rfl, ?_⟩
    refine hK.out _ _ cz (fun hH => ?_)
    clear hK K
    refine norm_ (a' := ?_) ?_ ?_
    rotate_left
    ·show Act.put _ (some 44) _ = _
     exact pz
    refine oneZ 21 (some 55) (bs 25 4194303) (one_of HT_.out (by kernel_rfl)) fun K hK => ?_
    refine gz Try.func80 #[.int .i64 (wrap64 ((wrap64 (a0_2 * a1_1)) - a0_1)), .int .i64 a0_0] ?_
    with_reducible refine (L_ceil.calls (wrap64 ((wrap64 (a0_2 * a1_1)) - a0_1)) a0_0 t566 _ A30.out).mono ?_
    rintro e w' ⟨rfl, ⟨nd, rfl⟩⟩
    refine ⟨_, rfl, ?_⟩
    refine hK.out _ _ cz (fun hH => ?_)
    clear hK K
    refine norm_ (a' := ?_) ?_ ?_
    rotate_left
    ·show Act.put _ (some 55) _ = _
     exact pz
    refine pZ 22 (some 56) (bs 25 8388607) HT_ ?_
    refine oneZ 23 (none) (bs 25 16777215) (one_of HT_.out (by kernel_rfl)) fun K hK => ?_
    have hs32 : w31.cell? ⟨gb548, 0, none⟩ = some (.int .i64 0) := (blk_cell BK548.out 0).trans rfl
    have hfs32 := blk_frozen BK548.out 0
    have hs33 : w31.cell? ⟨gb548, 1, none⟩ = some (.int .i64 0) := (blk_cell BK548.out 1).trans rfl
    have hfs33 := blk_frozen BK548.out 1
    refine skip_ (w1 := ?_) (by rfl) rfl ?_ ?_
    rotate_left
    ·go_simp
     rfl
    refine hK.out _ _ (cf hH) (fun hH => ?_)
    clear hK K
    refine pZ 24 (some 5) (bs 25 33554431) HT_ ?_
    refine done_ (done_of HT_.out (by kernel_rfl)) ?_
    try go_wp2
    refine bodyPost_ret (results_ct rfl _ _ gb548 58 #[.int .i64 t565, .int .i64 t566] (0, 0) _ rfl (bq BK548.out) Try.underlying58 rfl (by kernel_rfl)) rfl ?_
    exact ez
   ·rw [if_neg c28] at H
    have c28b0 := beq_eq_false_iff_ne.mpr c28
    have c28b1 := bne_iff_ne.mpr c28
    simp only [Option.some.injEq, Prod.mk.injEq] at H
    obtain ⟨rfl, rfl, rfl⟩ := H
    have hnb34 := NB548_546.out
    have hnc34 := NB546_548.out
    have hnb35 := NB548_547.out
    have hnc35 := NB547_548.out
    obtain ⟨_, _, _, _⟩ := b2 BK548
    go_wp2
    refine bodyPost_ret (results_ct rfl _ _ gb548 58 #[.int .i64 0, .int .i64 0] (0, 0) _ rfl (bq BK548.out) Try.underlying58 rfl (by kernel_rfl)) rfl ?_
    exact ez
end
section
def Bs_Size.f (a0 : Int) : Option (Int) := some (mx a0 (wrap64 (-a0)))
theorem Bs_Size.calls (a0 : Int) (r : Int) (w : World) (h : Bs_Size.f a0 = some r) :
  Calls Try.prog 110 #[.int .i64 a0] w fun e w' => e = .returned (.int .i64 r) ∧ Below w.heap.size w w' := by
 have HB := m0 (Below.refl w.heap.size w)
 have H : (some (mx a0 (wrap64 (-a0)))) = some r := h
 clear h
 obtain ⟨ji2, hji2⟩ : ∃ j_ : Int, (mx a0 (wrap64 (-a0))) = j_ := ⟨_, rfl⟩
 replace H : (some ji2) = some r := by first | (rw [hji2] at H; exact H) | (simp only [hji2] at H ⊢; exact H)
 have hji2_ : (if a0 < (wrap64 (-a0)) then (wrap64 (-a0)) else a0) = ji2 := hji2
 obtain rfl := Option.some.inj H
 go_enter Try.func110, Try.ntmps110
 go_wp2
 go_ret
 exact ⟨by first | rfl | (simp [errW_none, errW_some] <;> rfl) | (simp only [← hji2]; first | rfl | (simp [errW_none, errW_some] <;> rfl)) | (simp [*, errW_none, errW_some] <;> rfl), by repeat (first | (with_reducible first | exact HB.out | apply below_alloc | apply pw_below_drewN | apply below_drew1) | exact HB.out)⟩
end
section
def Bs_Gcd.l0 : Nat → Int → Int → Option (Int)
 | 0, _, _ => none
 | k + 1, x0, x1 => if x1 = 0 then ((Bs_Size.f x0).bind fun t567 => (some t567)) else (Bs_Gcd.l0 k x1 (Int.tmod x0 x1))
def Bs_Gcd.f (k : Nat) (a0 : Int) (a1 : Int) : Option (Int) := Bs_Gcd.l0 k a0 a1
theorem Bs_Gcd.mono_l : ∀ k, (∀ y0 y1, LeO (Bs_Gcd.l0 k y0 y1) (Bs_Gcd.l0 (k + 1) y0 y1))
 | 0 => fun _ _ r h => by simp [Bs_Gcd.l0] at h
 | k + 1 => by
  have ih0 := Bs_Gcd.mono_l k
  ·intro y0 y1
   unfold Bs_Gcd.l0
   repeat' with_reducible first
    | exact ih0 ..
    | exact LeO.refl ..
    | exact LeO.none ..
    | refine LeO.ite ?_ ?_
    | refine LeO.bind ?_ (fun _ => ?_)
theorem Bs_Gcd.mono : ∀ a0 a1 k, LeO (Bs_Gcd.f k a0 a1) (Bs_Gcd.f (k + 1) a0 a1) := by
 intro a0 a1 k
 have ih0 := Bs_Gcd.mono_l k
 unfold Bs_Gcd.f
 repeat' with_reducible first
  | exact ih0 ..
  | exact LeO.refl ..
  | exact LeO.none ..
  | refine LeO.ite ?_ ?_
  | refine LeO.bind ?_ (fun _ => ?_)
theorem Bs_Gcd.calls (k : Nat) (a0 : Int) (a1 : Int) (r : Int) (w : World) (h : Bs_Gcd.f k a0 a1 = some r) :
  Calls Try.prog 93 #[.int .i64 a0, .int .i64 a1] w fun e w' => e = .returned (.int .i64 r) ∧ Below w.heap.size w w' := by
 have HB := m0 (Below.refl w.heap.size w)
 have H : (Bs_Gcd.l0 k a0 a1) = some r := h
 clear h
 have H' := m0 H
 clear H
 go_enter Try.func93, Try.ntmps93
 go_wp2
 repeat (go_quiet (fail); try go_wp2)
 go_loopg [0, 1] k (fun kq v0 v1 w' => ∃ (x0_1 : Int) (x1_1 : Int), v0 = .int .i64 x0_1 ∧ v1 = .int .i64 x1_1 ∧ Aside0 (Bs_Gcd.l0 kq x0_1 x1_1 = some r) ∧ Aside0 (kq ≤ k) ∧ Aside0 (Below w.heap.size w w'))
 case atStart => exact ⟨(a0), (a1), (by first | rfl | (simp; done) | (simp [*]; done)), (by first | rfl | (simp; done) | (simp [*]; done)), H', ⟨Nat.le_refl _⟩, ⟨bz⟩⟩
 case round =>
  clear H'
  obtain ⟨x0_1, x1_1, rfl, rfl, HA, HK1, HB⟩ := hrel
  cases gk with
  | zero => exact absurd HA.out (by simp [Bs_Gcd.l0])
  | succ k1 =>
   have H := HA.out
   clear HA
   simp only [Bs_Gcd.l0] at H
   by_cases c3 : x1_1 = 0
   ·rw [if_pos c3] at H
    have c3b0 := beq_iff_eq.mpr c3
    have c3b1 := bne_eq_false_iff_eq.mpr c3
    clear c3
    replace H := ob H
    obtain ⟨t567, A4, H⟩ := H
    (try dsimp only at H)
    replace A4 := m0 A4
    obtain rfl := Option.some.inj H
    go_wp2_with (first | (go_at_call 110; (with_reducible refine (Bs_Size.calls x0_1 t567 _ A4.out).mono ?_); rintro e w5 ⟨rfl, hb⟩; replace HB := sb HB hb; (try clear hb)))
    repeat (go_quiet (first | (go_at_call 110; (with_reducible refine (Bs_Size.calls x0_1 t567 _ A4.out).mono ?_); rintro e w5 ⟨rfl, hb⟩; replace HB := sb HB hb; (try clear hb))); try go_wp2_with (first | (go_at_call 110; (with_reducible refine (Bs_Size.calls x0_1 t567 _ A4.out).mono ?_); rintro e w5 ⟨rfl, hb⟩; replace HB := sb HB hb; (try clear hb))))
    go_ret
    exact ez
   ·rw [if_neg c3] at H
    have c3b0 := beq_eq_false_iff_ne.mpr c3
    have c3b1 := bne_iff_ne.mpr c3
    have H' := m0 H
    clear H
    go_wp2
    repeat (go_quiet (fail); try go_wp2)
    go_roundg k1
    case measure => have := HK1.out; omega
    case rel => exact ⟨(x1_1), (Int.tmod x0_1 x1_1), (by first | rfl | (simp; done) | (simp [*]; done)), (by first | rfl | (simp; done) | (simp [*]; done)), H', ⟨by have := HK1.out; omega⟩, ⟨bz⟩⟩
end
section
def Rf_LineErr.j0 : Nat → Bool → Int → Int → Int → Option (Int)
 | 0, _, _, _, _ => none
 | k + 1, x18, x569000, x569001, x569002 => if x18 = true then (some 2) else ((Bs_Gcd.f k x569000 x569001).bind fun t572 => ((Bs_Gcd.f k x569002 t572).bind fun t573 => (if t573 = 1 then (some 0) else (some 3))))
def Rf_LineErr.f (k : Nat) (a0_0 : Int) (a0_1 : Int) (a0_2 : Int) : Option (Int) := (Bs_Within.f a0_2 1 1000000000).bind fun t569 => (if t569 = true then ((Bs_Within.f a0_0 (-1000000000) 1000000000).bind fun t570 => (if t570 = true then ((Bs_Within.f a0_1 (-1000000000000) 1000000000000).bind fun t571 => (Rf_LineErr.j0 k (!t571) a0_0 a0_1 a0_2)) else (Rf_LineErr.j0 k true a0_0 a0_1 a0_2))) else (Rf_LineErr.j0 k true a0_0 a0_1 a0_2))
theorem Rf_LineErr.mono_l : ∀ k, (∀ y0 y1 y2 y3, LeO (Rf_LineErr.j0 k y0 y1 y2 y3) (Rf_LineErr.j0 (k + 1) y0 y1 y2 y3))
 | 0 => fun _ _ _ _ r h => by simp [Rf_LineErr.j0] at h
 | k + 1 => by
  have ih0 := Rf_LineErr.mono_l k
  ·intro y0 y1 y2 y3
   unfold Rf_LineErr.j0
   repeat' with_reducible first
    | exact ih0 ..
    | exact Bs_Gcd.mono ..
    | exact LeO.refl ..
    | exact LeO.none ..
    | refine LeO.ite ?_ ?_
    | refine LeO.bind ?_ (fun _ => ?_)
theorem Rf_LineErr.mono : ∀ a0 a1 a2 k, LeO (Rf_LineErr.f k a0 a1 a2) (Rf_LineErr.f (k + 1) a0 a1 a2) := by
 intro a0 a1 a2 k
 have ih0 := Rf_LineErr.mono_l k
 unfold Rf_LineErr.f
 repeat' with_reducible first
  | exact ih0 ..
  | exact Bs_Gcd.mono ..
  | exact LeO.refl ..
  | exact LeO.none ..
  | refine LeO.ite ?_ ?_
  | refine LeO.bind ?_ (fun _ => ?_)
def Rf_LineErr.T3 : Bool × List (List Nat × List Nat) := (true, [([], []), ([0], [0]), ([], []), ([2], [2]), ([], []), ([4], [4]), ([3, 5], [3, 5]), ([1, 6, 6], [1, 6]), ([7], [7])])
def Rf_LineErr.B3 : List Nat := [0, 1, 0, 4, 0, 16, 60, 127, 255]
theorem Rf_LineErr.tab3 : rtab .any (opsOf Try.f34 3) = Rf_LineErr.T3 := by kernel_rfl
theorem Rf_LineErr.bits3 : waitsOk Rf_LineErr.T3.2 Rf_LineErr.B3 = true := by kernel_rfl
theorem Rf_LineErr.calls (k : Nat) (a0_0 : Int) (a0_1 : Int) (a0_2 : Int) (r : Int) (w : World) (h : Rf_LineErr.f k a0_0 a0_1 a0_2 = some r) :
  Calls Try.prog 34 #[.agg #[.int .i64 a0_0, .int .i64 a0_1, .int .i64 a0_2]] w fun e w' => e = .returned (.int .i64 r) ∧ Below w.heap.size w w' := by
 have hu56 := Try.underlying56
 have HB := m0 (Below.refl w.heap.size w)
 have H : ((Bs_Within.f a0_2 1 1000000000).bind fun t569 => (if t569 = true then ((Bs_Within.f a0_0 (-1000000000) 1000000000).bind fun t570 => (if t570 = true then ((Bs_Within.f a0_1 (-1000000000000) 1000000000000).bind fun t571 => (Rf_LineErr.j0 k (!t571) a0_0 a0_1 a0_2)) else (Rf_LineErr.j0 k true a0_0 a0_1 a0_2))) else (Rf_LineErr.j0 k true a0_0 a0_1 a0_2))) = some r := h
 clear h
 have HC2 := m0 H
 clear H
 go_enter Try.func34, Try.ntmps34
 go_upto_region 1 with (first | ((with_reducible refine gate_dst (N := 1) rfl ?_); refine be 1 56 #[.int .i64 a0_0, .int .i64 a0_1, .int .i64 a0_2] ?_; intro gb568 hg w3 hbox hb; have BK568 := m0 hbox; have GE568 := gw w hg; replace HB := sb HB hb; clear hb hbox hg))
 (try simp only [Act.put, List.setIfInBounds_toArray, List.set_cons_zero, List.set_cons_succ])
 go_cut [18] (fun v18 wc => ∃ (kq : Nat) (x18_1 : Bool), v18 = .bool x18_1 ∧ Aside0 (Rf_LineErr.j0 kq x18_1 a0_0 a0_1 a0_2 = some r) ∧ Aside0 (kq ≤ k) ∧ Aside0 (wc.heap[gb568]? = some (.cells #[.int .i64 a0_0, .int .i64 a0_1, .int .i64 a0_2] 56 (0, 0))) ∧ Aside0 (Below w.heap.size w wc))
 case first =>
  have H := HC2.out
  clear HC2
  replace H := ob H
  obtain ⟨t569, A4, H⟩ := H
  (try dsimp only at H)
  replace A4 := m0 A4
  by_cases c5 : t569 = true
  ·subst c5
   rw [if_pos rfl] at H
   replace H := ob H
   obtain ⟨t570, A6, H⟩ := H
   (try dsimp only at H)
   replace A6 := m0 A6
   by_cases c7 : t570 = true
   ·subst c7
    rw [if_pos rfl] at H
    replace H := ob H
    obtain ⟨t571, A8, H⟩ := H
    (try dsimp only at H)
    replace A8 := m0 A8
    have H' := m0 H
    clear H
    obtain ⟨hcz9_0, hcz9_1, hcz9_2, hfz9_0, hfz9_1, hfz9_2⟩ := b3 BK568
    go_wp2_with (first | ((with_reducible refine gate_callee (f := 24) rfl ?_); refine gl (some 5) Try.func24 #[.int .i64 a0_2, .int .i64 1, .int .i64 1000000000] ?_; (with_reducible refine (Bs_Within.calls a0_2 1 1000000000 true _ A4.out).mono ?_); rintro e w' ⟨rfl, ⟨nd, rfl⟩⟩; refine ⟨_, rfl, ?_⟩) | (go_at_call 24; (with_reducible refine (Bs_Within.calls a0_0 (-1000000000) 1000000000 true _ A6.out).mono ?_); rintro e w' ⟨rfl, ⟨nd, rfl⟩⟩) | (go_at_call 24; (with_reducible refine (Bs_Within.calls a0_1 (-1000000000000) 1000000000000 t571 _ A8.out).mono ?_); rintro e w' ⟨rfl, ⟨nd, rfl⟩⟩))
    go_meet
    case rel => exact ⟨_, (!t571), (by first | rfl | (simp; done) | (simp [*]; done)), H', ⟨by first | omega | exact Nat.le_refl _⟩, ⟨bk BK568.out⟩, ⟨bz⟩⟩
   ·replace c7 := Bool.eq_false_iff.mpr c7
    subst c7
    rw [if_neg (show ¬ (false = true) by decide)] at H
    have H' := m0 H
    clear H
    obtain ⟨hcz10_0, hcz10_1, hcz10_2, hfz10_0, hfz10_1, hfz10_2⟩ := b3 BK568
    go_wp2_with (first | ((with_reducible refine gate_callee (f := 24) rfl ?_); refine gl (some 5) Try.func24 #[.int .i64 a0_2, .int .i64 1, .int .i64 1000000000] ?_; (with_reducible refine (Bs_Within.calls a0_2 1 1000000000 true _ A4.out).mono ?_); rintro e w' ⟨rfl, ⟨nd, rfl⟩⟩; refine ⟨_, rfl, ?_⟩) | (go_at_call 24; (with_reducible refine (Bs_Within.calls a0_0 (-1000000000) 1000000000 false _ A6.out).mono ?_); rintro e w' ⟨rfl, ⟨nd, rfl⟩⟩))
    go_meet
    case rel => exact ⟨_, (true), (by first | rfl | (simp; done) | (simp [*]; done)), H', ⟨by first | omega | exact Nat.le_refl _⟩, ⟨bk BK568.out⟩, ⟨bz⟩⟩
  ·replace c5 := Bool.eq_false_iff.mpr c5
   subst c5
   rw [if_neg (show ¬ (false = true) by decide)] at H
   have H' := m0 H
   clear H
   obtain ⟨hcz11_0, hcz11_1, hcz11_2, hfz11_0, hfz11_1, hfz11_2⟩ := b3 BK568
   go_wp2_with (first | ((with_reducible refine gate_callee (f := 24) rfl ?_); refine gl (some 5) Try.func24 #[.int .i64 a0_2, .int .i64 1, .int .i64 1000000000] ?_; (with_reducible refine (Bs_Within.calls a0_2 1 1000000000 false _ A4.out).mono ?_); rintro e w' ⟨rfl, ⟨nd, rfl⟩⟩; refine ⟨_, rfl, ?_⟩))
   go_meet
   case rel => exact ⟨_, (true), (by first | rfl | (simp; done) | (simp [*]; done)), H', ⟨by first | omega | exact Nat.le_refl _⟩, ⟨bk BK568.out⟩, ⟨bz⟩⟩
 case rest =>
  clear HC2
  try clear hcz10_0
  try clear hcz10_1
  try clear hcz10_2
  try clear hcz11_0
  try clear hcz11_1
  try clear hcz11_2
  try clear hcz9_0
  try clear hcz9_1
  try clear hcz9_2
  try clear hfz10_0
  try clear hfz10_1
  try clear hfz10_2
  try clear hfz11_0
  try clear hfz11_1
  try clear hfz11_2
  try clear hfz9_0
  try clear hfz9_1
  try clear hfz9_2
  obtain ⟨kq, x18_1, rfl, HA, HJ1, BK568, HB⟩ := hcut
  cases kq with
  | zero => exact absurd HA.out (by simp [Rf_LineErr.j0])
  | succ kj1 =>
   have H := HA.out
   clear HA
   simp only [Rf_LineErr.j0] at H
   by_cases c12 : x18_1 = true
   ·subst c12
    rw [if_pos rfl] at H
    obtain rfl := Option.some.inj H
    go_wp2
    go_ret
    exact ez
   ·replace c12 := Bool.eq_false_iff.mpr c12
    subst c12
    rw [if_neg (show ¬ (false = true) by decide)] at H
    replace H := ob H
    obtain ⟨t572, A13, H⟩ := H
    (try dsimp only at H)
    replace A13 := m0 A13
    replace H := ob H
    obtain ⟨t573, A14, H⟩ := H
    (try dsimp only at H)
    replace A14 := m0 A14
    by_cases c15 : t573 = 1
    ·rw [if_pos c15] at H
     have c15b0 := beq_iff_eq.mpr c15
     have c15b1 := bne_eq_false_iff_eq.mpr c15
     clear c15
     obtain rfl := Option.some.inj H
     try go_wp2
     replace BK568 := bd BK568; replace HB := sd HB
     refine start_ (n := 9) (S := fun w' => w'.cell? ⟨gb568, 0, none⟩ = some (.int .i64 a0_0) ∧ w'.cell? ⟨gb568, 1, none⟩ = some (.int .i64 a0_1) ∧ w'.cell? ⟨gb568, 2, none⟩ = some (.int .i64 a0_2)) (ds := []) #[false, false, false, false, false, false, false, false, false] (by kernel_rfl) rfl rfl cz (fun hH => ?_); refine with_tabW Rf_LineErr.tab3 Rf_LineErr.bits3 (fun HT_ HW_ => ?_)
     generalize wc.drew = w16 at BK568 HB hH ⊢
     refine pZ 0 (some 19) #[true, false, false, false, false, false, false, false, false] HT_ ?_
     refine pZ 2 (some 21) #[true, false, true, false, false, false, false, false, false] HT_ ?_
     refine pZ 4 (some 23) #[true, false, true, false, true, false, false, false, false] HT_ ?_
     refine takeZ 1 (some 20) #[true, true, true, false, true, false, false, false, false] (take_ofW HT_.out HW_.out (by kernel_rfl)) hH ?_
     refine takeZ 3 (some 22) #[true, true, true, true, true, false, false, false, false] (take_ofW HT_.out HW_.out (by kernel_rfl)) hH ?_
     refine takeZ 5 (some 24) #[true, true, true, true, true, true, false, false, false] (take_ofW HT_.out HW_.out (by kernel_rfl)) hH ?_
     refine oneZ 6 (some 25) #[true, true, true, true, true, true, true, false, false] (one_of HT_.out (by kernel_rfl)) fun K hK => ?_
     refine gz Try.func93 #[.int .i64 a0_0, .int .i64 a0_1] ?_
     with_reducible refine (Bs_Gcd.calls kj1 a0_0 a0_1 t572 _ A13.out).mono ?_
     rintro e w17 ⟨rfl, hb⟩
     refine ⟨_, rfl, ?_⟩
     replace BK568 := bb BK568 hb; replace HB := sb HB hb
     (try clear hb)
     refine hK.out _ _ cz (fun hH => ?_)
     clear hK K
     refine norm_ (a' := ?_) ?_ ?_
     rotate_left
     ·show Act.put _ (some 25) _ = _
      exact pz
     refine oneZ 7 (some 26) #[true, true, true, true, true, true, true, true, false] (one_of HT_.out (by kernel_rfl)) fun K hK => ?_
     refine gz Try.func93 #[.int .i64 a0_2, .int .i64 t572] ?_
     with_reducible refine (Bs_Gcd.calls kj1 a0_2 t572 t573 _ A14.out).mono ?_
     rintro e w18 ⟨rfl, hb⟩
     refine ⟨_, rfl, ?_⟩
     replace BK568 := bb BK568 hb; replace HB := sb HB hb
     (try clear hb)
     refine hK.out _ _ cz (fun hH => ?_)
     clear hK K
     refine norm_ (a' := ?_) ?_ ?_
     rotate_left
     ·show Act.put _ (some 26) _ = _
      exact pz
     refine pZ 8 (some 27) #[true, true, true, true, true, true, true, true, true] HT_ ?_
     refine done_ (done_of HT_.out (by kernel_rfl)) ?_
     try go_wp2
     go_ret
     exact ez
    ·rw [if_neg c15] at H
     have c15b0 := beq_eq_false_iff_ne.mpr c15
     have c15b1 := bne_iff_ne.mpr c15
     obtain rfl := Option.some.inj H
     try go_wp2
     replace BK568 := bd BK568; replace HB := sd HB
     refine start_ (n := 9) (S := fun w' => w'.cell? ⟨gb568, 0, none⟩ = some (.int .i64 a0_0) ∧ w'.cell? ⟨gb568, 1, none⟩ = some (.int .i64 a0_1) ∧ w'.cell? ⟨gb568, 2, none⟩ = some (.int .i64 a0_2)) (ds := []) #[false, false, false, false, false, false, false, false, false] (by kernel_rfl) rfl rfl cz (fun hH => ?_); refine with_tabW Rf_LineErr.tab3 Rf_LineErr.bits3 (fun HT_ HW_ => ?_)
     generalize wc.drew = w19 at BK568 HB hH ⊢
     refine pZ 0 (some 19) #[true, false, false, false, false, false, false, false, false] HT_ ?_
     refine pZ 2 (some 21) #[true, false, true, false, false, false, false, false, false] HT_ ?_
     refine pZ 4 (some 23) #[true, false, true, false, true, false, false, false, false] HT_ ?_
     refine takeZ 1 (some 20) #[true, true, true, false, true, false, false, false, false] (take_ofW HT_.out HW_.out (by kernel_rfl)) hH ?_
     refine takeZ 3 (some 22) #[true, true, true, true, true, false, false, false, false] (take_ofW HT_.out HW_.out (by kernel_rfl)) hH ?_
     refine takeZ 5 (some 24) #[true, true, true, true, true, true, false, false, false] (take_ofW HT_.out HW_.out (by kernel_rfl)) hH ?_
     refine oneZ 6 (some 25) #[true, true, true, true, true, true, true, false, false] (one_of HT_.out (by kernel_rfl)) fun K hK => ?_
     refine gz Try.func93 #[.int .i64 a0_0, .int .i64 a0_1] ?_
     with_reducible refine (Bs_Gcd.calls kj1 a0_0 a0_1 t572 _ A13.out).mono ?_
     rintro e w20 ⟨rfl, hb⟩
     refine ⟨_, rfl, ?_⟩
     replace BK568 := bb BK568 hb; replace HB := sb HB hb
     (try clear hb)
     refine hK.out _ _ cz (fun hH => ?_)
     clear hK K
     refine norm_ (a' := ?_) ?_ ?_
     rotate_left
     ·show Act.put _ (some 25) _ = _
      exact pz
     refine oneZ 7 (some 26) #[true, true, true, true, true, true, true, true, false] (one_of HT_.out (by kernel_rfl)) fun K hK => ?_
     refine gz Try.func93 #[.int .i64 a0_2, .int .i64 t572] ?_
     with_reducible refine (Bs_Gcd.calls kj1 a0_2 t572 t573 _ A14.out).mono ?_
     rintro e w21 ⟨rfl, hb⟩
     refine ⟨_, rfl, ?_⟩
     replace BK568 := bb BK568 hb; replace HB := sb HB hb
     (try clear hb)
     refine hK.out _ _ cz (fun hH => ?_)
     clear hK K
     refine norm_ (a' := ?_) ?_ ?_
     rotate_left
     ·show Act.put _ (some 26) _ = _
      exact pz
     refine pZ 8 (some 27) #[true, true, true, true, true, true, true, true, true] HT_ ?_
     refine done_ (done_of HT_.out (by kernel_rfl)) ?_
     try go_wp2
     go_ret
     exact ez
end
section
def Rf_CorrectedErr.j0 : Nat → Bool → Int → Int → Option (Int)
  | 0, _, _, _ => none
  | k + 1, x23, x576000, x576001 => if x23 = true then (some 2) else (if x576000 > x576001 then (some 9) else (some 0))
def Rf_CorrectedErr.f (k : Nat) (a0_0 : Int) (a0_1 : Int) (a0_2 : Int) (a1_0 : Int) (a1_1 : Int) : Option (Int) := (Rf_LineErr.f k a0_0 a0_1 a0_2).bind fun t576 => (if t576 = 0 then (if a0_0 ≤ 0 then (some 11) else ((Bs_Within.f a1_0 0 2000).bind fun t577 => (if t577 = true then ((Bs_Within.f a1_1 0 2000).bind fun t578 => (Rf_CorrectedErr.j0 k (!t578) a1_0 a1_1)) else (Rf_CorrectedErr.j0 k true a1_0 a1_1)))) else (some t576))
theorem Rf_CorrectedErr.mono_l : ∀ k, (∀ y0 y1 y2, LeO (Rf_CorrectedErr.j0 k y0 y1 y2) (Rf_CorrectedErr.j0 (k + 1) y0 y1 y2))
  | 0 => fun _ _ _ r h => by simp [Rf_CorrectedErr.j0] at h
  | k + 1 => by
    have ih0 := Rf_CorrectedErr.mono_l k
    · intro y0 y1 y2
      unfold Rf_CorrectedErr.j0
      repeat' with_reducible first
        | exact ih0 ..
        | exact Rf_LineErr.mono ..
        | exact LeO.refl ..
        | exact LeO.none ..
        | refine LeO.ite ?_ ?_
        | refine LeO.bind ?_ (fun _ => ?_)
theorem Rf_CorrectedErr.mono : ∀ a0 a1 a2 a3 a4 k, LeO (Rf_CorrectedErr.f k a0 a1 a2 a3 a4) (Rf_CorrectedErr.f (k + 1) a0 a1 a2 a3 a4) := by
  intro a0 a1 a2 a3 a4 k
  have ih0 := Rf_CorrectedErr.mono_l k
  unfold Rf_CorrectedErr.f
  repeat' with_reducible first
    | exact ih0 ..
    | exact Rf_LineErr.mono ..
    | exact LeO.refl ..
    | exact LeO.none ..
    | refine LeO.ite ?_ ?_
    | refine LeO.bind ?_ (fun _ => ?_)
theorem Rf_CorrectedErr.calls (k : Nat) (a0_0 : Int) (a0_1 : Int) (a0_2 : Int) (a1_0 : Int) (a1_1 : Int) (r : Int) (w : World) (h : Rf_CorrectedErr.f k a0_0 a0_1 a0_2 a1_0 a1_1 = some r) :
    Calls Try.prog 32 #[.agg #[.int .i64 a0_0, .int .i64 a0_1, .int .i64 a0_2], .agg #[.int .i64 a1_0, .int .i64 a1_1]] w fun e w' => e = .returned (.int .i64 r) ∧ Below w.heap.size w w' := by
  have hu56 := Try.underlying56
  have hu58 := Try.underlying58
  have HB := m0 (Below.refl w.heap.size w)
  have H : ((Rf_LineErr.f k a0_0 a0_1 a0_2).bind fun t576 => (if t576 = 0 then (if a0_0 ≤ 0 then (some 11) else ((Bs_Within.f a1_0 0 2000).bind fun t577 => (if t577 = true then ((Bs_Within.f a1_1 0 2000).bind fun t578 => (Rf_CorrectedErr.j0 k (!t578) a1_0 a1_1)) else (Rf_CorrectedErr.j0 k true a1_0 a1_1)))) else (some t576))) = some r := h
  clear h
  replace H := ob H
  obtain ⟨t576, A3, H⟩ := H
  (try dsimp only at H)
  replace A3 := m0 A3
  by_cases c4 : t576 = 0
  · rw [if_pos c4] at H
    have c4b0 := beq_iff_eq.mpr c4
    have c4b1 := bne_eq_false_iff_eq.mpr c4
    clear c4
    by_cases c5 : a0_0 ≤ 0
    · rw [if_pos c5] at H
      have c5b0 := decide_eq_true c5
      clear c5
      obtain rfl := Option.some.inj H
      go_enter Try.func32, Try.ntmps32
      go_wp2_with (first | ((with_reducible refine gate_dst (N := 2) rfl ?_); refine be 2 56 #[.int .i64 a0_0, .int .i64 a0_1, .int .i64 a0_2] ?_; intro gb574 hg w6 hbox hb; have BK574 := m0 hbox; have GE574 := gw w hg; replace HB := sb HB hb; clear hb hbox hg) | ((with_reducible refine gate_dst (N := 3) rfl ?_); refine be 3 58 #[.int .i64 a1_0, .int .i64 a1_1] ?_; intro gb575 hg w7 hbox hb; have BK575 := m0 hbox; have GE575 := gw w hg; replace HB := sb HB hb; have NB574_575 := nl BK574 hg; have NB575_574 := ng (nl BK574 hg); replace BK574 := bb BK574 hb; clear hb hbox hg; have hnb8 := NB574_575.out; have hnc8 := NB575_574.out; obtain ⟨hcz9_0, hcz9_1, hcz9_2, hfz9_0, hfz9_1, hfz9_2⟩ := b3 BK574) | ((with_reducible refine gate_callee (f := 34) rfl ?_); refine gl (some 7) Try.func34 #[.agg #[.int .i64 a0_0, .int .i64 a0_1, .int .i64 a0_2]] ?_; (with_reducible refine (Rf_LineErr.calls k a0_0 a0_1 a0_2 t576 _ A3.out).mono ?_); rintro e w10 ⟨rfl, hb⟩; refine ⟨_, rfl, ?_⟩; replace BK574 := bb BK574 hb; replace BK575 := bb BK575 hb; replace HB := sb HB hb; (try clear hb); obtain ⟨hcz11_0, hcz11_1, hcz11_2, hfz11_0, hfz11_1, hfz11_2⟩ := b3 BK574))
      go_ret
      exact ez
    · rw [if_neg c5] at H
      have c5b0 := decide_eq_false c5
      clear c5
      have HC12 := m0 H
      clear H
      go_enter Try.func32, Try.ntmps32
      go_upto_region 6 with (first | ((with_reducible refine gate_dst (N := 2) rfl ?_); refine be 2 56 #[.int .i64 a0_0, .int .i64 a0_1, .int .i64 a0_2] ?_; intro gb574 hg w13 hbox hb; have BK574 := m0 hbox; have GE574 := gw w hg; replace HB := sb HB hb; clear hb hbox hg) | ((with_reducible refine gate_dst (N := 3) rfl ?_); refine be 3 58 #[.int .i64 a1_0, .int .i64 a1_1] ?_; intro gb575 hg w14 hbox hb; have BK575 := m0 hbox; have GE575 := gw w hg; replace HB := sb HB hb; have NB574_575 := nl BK574 hg; have NB575_574 := ng (nl BK574 hg); replace BK574 := bb BK574 hb; clear hb hbox hg; have hnb15 := NB574_575.out; have hnc15 := NB575_574.out; obtain ⟨hcz16_0, hcz16_1, hcz16_2, hfz16_0, hfz16_1, hfz16_2⟩ := b3 BK574) | ((with_reducible refine gate_callee (f := 34) rfl ?_); refine gl (some 7) Try.func34 #[.agg #[.int .i64 a0_0, .int .i64 a0_1, .int .i64 a0_2]] ?_; (with_reducible refine (Rf_LineErr.calls k a0_0 a0_1 a0_2 t576 _ A3.out).mono ?_); rintro e w17 ⟨rfl, hb⟩; refine ⟨_, rfl, ?_⟩; replace BK574 := bb BK574 hb; replace BK575 := bb BK575 hb; replace HB := sb HB hb; (try clear hb); obtain ⟨hcz18_0, hcz18_1, hcz18_2, hfz18_0, hfz18_1, hfz18_2⟩ := b3 BK574))
      (try simp only [Act.put, List.setIfInBounds_toArray, List.set_cons_zero, List.set_cons_succ])
      go_cut [23] (fun v23 wc => ∃ (kq : Nat) (x23_11 : Bool), v23 = .bool x23_11 ∧ Aside0 (Rf_CorrectedErr.j0 kq x23_11 a1_0 a1_1 = some r) ∧ Aside0 (kq ≤ k) ∧ Aside0 (wc.heap[gb574]? = some (.cells #[.int .i64 a0_0, .int .i64 a0_1, .int .i64 a0_2] 56 (0, 0))) ∧ Aside0 (wc.heap[gb575]? = some (.cells #[.int .i64 a1_0, .int .i64 a1_1] 58 (0, 0))) ∧ Aside0 (Below w.heap.size w wc))
      case first =>
        have H := HC12.out
        clear HC12
        replace H := ob H
        obtain ⟨t577, A19, H⟩ := H
        (try dsimp only at H)
        replace A19 := m0 A19
        by_cases c20 : t577 = true
        · subst c20
          rw [if_pos rfl] at H
          replace H := ob H
          obtain ⟨t578, A21, H⟩ := H
          (try dsimp only at H)
          replace A21 := m0 A21
          have H' := m0 H
          clear H
          have hnb22 := NB575_574.out
          have hnc22 := NB574_575.out
          obtain ⟨hcz23_0, hcz23_1, hfz23_0, hfz23_1⟩ := b2 BK575
          go_wp2_with (first | ((with_reducible refine gate_callee (f := 24) rfl ?_); refine gl (some 16) Try.func24 #[.int .i64 a1_0, .int .i64 0, .int .i64 2000] ?_; (with_reducible refine (Bs_Within.calls a1_0 0 2000 true _ A19.out).mono ?_); rintro e w' ⟨rfl, ⟨nd, rfl⟩⟩; refine ⟨_, rfl, ?_⟩) | (go_at_call 24; (with_reducible refine (Bs_Within.calls a1_1 0 2000 t578 _ A21.out).mono ?_); rintro e w' ⟨rfl, ⟨nd, rfl⟩⟩))
          go_meet
          case rel => exact ⟨_, (!t578), (by first | rfl | (simp; done) | (simp [*]; done)), H', ⟨by first | omega | exact Nat.le_refl _⟩, ⟨bk BK574.out⟩, ⟨bk BK575.out⟩, ⟨bz⟩⟩
        · replace c20 := Bool.eq_false_iff.mpr c20
          subst c20
          rw [if_neg (show ¬ (false = true) by decide)] at H
          have H' := m0 H
          clear H
          have hnb24 := NB575_574.out
          have hnc24 := NB574_575.out
          obtain ⟨hcz25_0, hcz25_1, hfz25_0, hfz25_1⟩ := b2 BK575
          go_wp2_with (first | ((with_reducible refine gate_callee (f := 24) rfl ?_); refine gl (some 16) Try.func24 #[.int .i64 a1_0, .int .i64 0, .int .i64 2000] ?_; (with_reducible refine (Bs_Within.calls a1_0 0 2000 false _ A19.out).mono ?_); rintro e w' ⟨rfl, ⟨nd, rfl⟩⟩; refine ⟨_, rfl, ?_⟩))
          go_meet
          case rel => exact ⟨_, (true), (by first | rfl | (simp; done) | (simp [*]; done)), H', ⟨by first | omega | exact Nat.le_refl _⟩, ⟨bk BK574.out⟩, ⟨bk BK575.out⟩, ⟨bz⟩⟩
      case rest =>
        clear HC12
        try clear hcz11_0
        try clear hcz11_1
        try clear hcz11_2
        try clear hcz16_0
        try clear hcz16_1
        try clear hcz16_2
        try clear hcz18_0
        try clear hcz18_1
        try clear hcz18_2
        try clear hcz23_0
        try clear hcz23_1
        try clear hcz25_0
        try clear hcz25_1
        try clear hcz9_0
        try clear hcz9_1
        try clear hcz9_2
        try clear hfz11_0
        try clear hfz11_1
        try clear hfz11_2
        try clear hfz16_0
        try clear hfz16_1
        try clear hfz16_2
        try clear hfz18_0
        try clear hfz18_1
        try clear hfz18_2
        try clear hfz23_0
        try clear hfz23_1
        try clear hfz25_0
        try clear hfz25_1
        try clear hfz9_0
        try clear hfz9_1
        try clear hfz9_2
        obtain ⟨kq, x23_11, rfl, HA, HJ11, BK574, BK575, HB⟩ := hcut
        cases kq with
        | zero => exact absurd HA.out (by simp [Rf_CorrectedErr.j0])
        | succ kj11 =>
          have H := HA.out
          clear HA
          simp only [Rf_CorrectedErr.j0] at H
          by_cases c26 : x23_11 = true
          · subst c26
            rw [if_pos rfl] at H
            obtain rfl := Option.some.inj H
            go_wp2
            go_ret
            exact ez
          · replace c26 := Bool.eq_false_iff.mpr c26
            subst c26
            rw [if_neg (show ¬ (false = true) by decide)] at H
            by_cases c27 : a1_0 > a1_1
            · rw [if_pos c27] at H
              have c27b0 := decide_eq_true c27
              clear c27
              obtain rfl := Option.some.inj H
              have hnb28 := NB575_574.out
              have hnc28 := NB574_575.out
              obtain ⟨_, _, _, _⟩ := b2 BK575
              go_wp2
              go_ret
              exact ez
            · rw [if_neg c27] at H
              have c27b0 := decide_eq_false c27
              clear c27
              obtain rfl := Option.some.inj H
              have hnb30 := NB575_574.out
              have hnc30 := NB574_575.out
              obtain ⟨_, _, _, _⟩ := b2 BK575
              go_wp2
              go_ret
              exact ez
  · rw [if_neg c4] at H
    have c4b0 := beq_eq_false_iff_ne.mpr c4
    have c4b1 := bne_iff_ne.mpr c4
    obtain rfl := Option.some.inj H
    go_enter Try.func32, Try.ntmps32
    go_wp2_with (first | ((with_reducible refine gate_dst (N := 2) rfl ?_); refine be 2 56 #[.int .i64 a0_0, .int .i64 a0_1, .int .i64 a0_2] ?_; intro gb574 hg w32 hbox hb; have BK574 := m0 hbox; have GE574 := gw w hg; replace HB := sb HB hb; clear hb hbox hg) | ((with_reducible refine gate_dst (N := 3) rfl ?_); refine be 3 58 #[.int .i64 a1_0, .int .i64 a1_1] ?_; intro gb575 hg w33 hbox hb; have BK575 := m0 hbox; have GE575 := gw w hg; replace HB := sb HB hb; have NB574_575 := nl BK574 hg; have NB575_574 := ng (nl BK574 hg); replace BK574 := bb BK574 hb; clear hb hbox hg; have hnb34 := NB574_575.out; have hnc34 := NB575_574.out; obtain ⟨_, _, _, _, _, _⟩ := b3 BK574) | ((with_reducible refine gate_callee (f := 34) rfl ?_); refine gl (some 7) Try.func34 #[.agg #[.int .i64 a0_0, .int .i64 a0_1, .int .i64 a0_2]] ?_; (with_reducible refine (Rf_LineErr.calls k a0_0 a0_1 a0_2 t576 _ A3.out).mono ?_); rintro e w36 ⟨rfl, hb⟩; refine ⟨_, rfl, ?_⟩; replace BK574 := bb BK574 hb; replace BK575 := bb BK575 hb; replace HB := sb HB hb; (try clear hb)))
    go_ret
    exact ez
end
section
def Bs_Floor.f (a0 : Int) (a1 : Int) : Option (Int) := if a1 = 0 then (none) else (if (Int.tmod a0 a1) < 0 then (some (wrap64 ((wrap64 (Int.tdiv a0 a1)) - 1))) else (some (wrap64 (Int.tdiv a0 a1))))
theorem Bs_Floor.calls (a0 : Int) (a1 : Int) (r : Int) (w : World) (h : Bs_Floor.f a0 a1 = some r) :
  Calls Try.prog 92 #[.int .i64 a0, .int .i64 a1] w fun e w' => e = .returned (.int .i64 r) ∧ Drawn0 w w' := by
 have H : (if a1 = 0 then (none) else (if (Int.tmod a0 a1) < 0 then (some (wrap64 ((wrap64 (Int.tdiv a0 a1)) - 1))) else (some (wrap64 (Int.tdiv a0 a1))))) = some r := h
 clear h
 by_cases c3 : a1 = 0
 ·rw [if_pos c3] at H
  exact absurd H (by simp)
 ·rw [if_neg c3] at H
  have c3b0 := beq_eq_false_iff_ne.mpr c3
  have c3b1 := bne_iff_ne.mpr c3
  by_cases c4 : (Int.tmod a0 a1) < 0
  ·rw [if_pos c4] at H
   have c4b0 := decide_eq_true c4
   clear c4
   obtain rfl := Option.some.inj H
   go_enter Try.func92, Try.ntmps92
   go_wp2
   go_ret
   exact ⟨by first | rfl | (simp; done) | (simp [*]; done), by repeat (first | exact Drawn0.refl _ | apply Drawn0.step)⟩
  ·rw [if_neg c4] at H
   have c4b0 := decide_eq_false c4
   clear c4
   obtain rfl := Option.some.inj H
   go_enter Try.func92, Try.ntmps92
   go_wp2
   go_ret
   exact ⟨by first | rfl | (simp; done) | (simp [*]; done), by repeat (first | exact Drawn0.refl _ | apply Drawn0.step)⟩
end
end Go.Proofs.Ytibhfahbabgbaaa.A
