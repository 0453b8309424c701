/- Walks of the program's functions (printed, made shorter), each with what it computes. -/
import Derived.Test.YtibhfahbabgbaaaB05
import Derived.Test.YtibhfahbabgbaaaB07
import Derived.Test.YtibhfahbabgbaaaB08
import Derived.Test.YtibhfahbabgbaaaB10
import Derived.Test.YtibhfahbabgbaaaB12
import Derived.Test.YtibhfahbabgbaaaB15
import Derived.Test.YtibhfahbabgbaaaB04
namespace Go.Proofs.Ytibhfahbabgbaaa.A
set_option maxHeartbeats 8000000
set_option maxRecDepth 100000
open Go.RowKit Go.Proofs.YtibhfahbabgbaaaW.PrintWords Go.Proofs.YtibhfahbabgbaaaW.PrintLast Go.Proofs.YtibhfahbabgbaaaW.PrintMore
attribute [local go_sem] max2_int min2_int max_two min_two max_three min_three max_four min_four
set_option linter.unusedVariables false
set_option linter.unusedSimpArgs false
attribute [local go_sem high] eqA56 eqA58
def Lw_awake.f (k : Nat)  : Option (Bool) := (Lw_Readings.f).bind fun t296 => ((L_VotedIn.f k t296).bind fun bt299 => ((Lw_Steps.f).bind fun t304 => ((L_LineOf.f k t304).bind fun bt307 => ((Lw_Sights.f).bind fun t312 => ((L_PointingOf.f k t312).bind fun bt315 => ((Lw_Tasks.f).bind fun t318 => ((L_DaysOf.f k t318 7).bind fun bt321 => ((Lw_Tasks.f).bind fun t325 => ((L_LackOf.f k t325 7).bind fun bt328 => (if bt299.2.2.2 = 0 then (if (bt299.1 == 3 && (bt299.2.1 == 5)) = true then (if bt299.2.2.1 = 2 then (if bt307.2.2.2 = 0 then (if (bt307.1 == 7 && (bt307.2.1 == 1 && (bt307.2.2.1 == 2))) = true then (if bt315.2.2 = 0 then (if bt315.1 = 7 then (if bt315.2.1 = 2 then (if bt321.2 = 0 then ((Bs_Ints.f k bt321.1 (([3, 1] : List Int))).bind fun t334 => (if t334 = true then (if bt328.2.2 = 0 then (if bt328.1 = 2 then (some (bt328.2.1 == 2)) else (none)) else (none)) else (none))) else (none)) else (none)) else (none)) else (none)) else (none)) else (none)) else (none)) else (none)) else (none)))))))))))
theorem Lw_awake.mono : ∀ k, LeO (Lw_awake.f k ) (Lw_awake.f (k + 1) ) := by
 intro  k
 unfold Lw_awake.f
 repeat' with_reducible first
  | exact Bs_Ints.mono ..
  | exact L_DaysOf.mono ..
  | exact L_LackOf.mono ..
  | exact L_LineOf.mono ..
  | exact L_PointingOf.mono ..
  | exact L_VotedIn.mono ..
  | exact LeO.refl ..
  | exact LeO.none ..
  | refine LeO.ite ?_ ?_
  | refine LeO.bind ?_ (fun _ => ?_)
theorem Lw_awake.calls (k : Nat)  (r : Bool) (w : World) (h : Lw_awake.f k  = some r) :
  Calls Try.prog 14 #[] w fun e w' => e = .returned (.bool r) ∧ Below w.heap.size w w' := by
 have hu58 := Try.underlying58
 have hu56 := Try.underlying56
 have HB := m0 (Below.refl w.heap.size w)
 have H : ((Lw_Readings.f).bind fun t296 => ((L_VotedIn.f k t296).bind fun bt299 => ((Lw_Steps.f).bind fun t304 => ((L_LineOf.f k t304).bind fun bt307 => ((Lw_Sights.f).bind fun t312 => ((L_PointingOf.f k t312).bind fun bt315 => ((Lw_Tasks.f).bind fun t318 => ((L_DaysOf.f k t318 7).bind fun bt321 => ((Lw_Tasks.f).bind fun t325 => ((L_LackOf.f k t325 7).bind fun bt328 => (if bt299.2.2.2 = 0 then (if (bt299.1 == 3 && (bt299.2.1 == 5)) = true then (if bt299.2.2.1 = 2 then (if bt307.2.2.2 = 0 then (if (bt307.1 == 7 && (bt307.2.1 == 1 && (bt307.2.2.1 == 2))) = true then (if bt315.2.2 = 0 then (if bt315.1 = 7 then (if bt315.2.1 = 2 then (if bt321.2 = 0 then ((Bs_Ints.f k bt321.1 (([3, 1] : List Int))).bind fun t334 => (if t334 = true then (if bt328.2.2 = 0 then (if bt328.1 = 2 then (some (bt328.2.1 == 2)) else (none)) else (none)) else (none))) else (none)) else (none)) else (none)) else (none)) else (none)) else (none)) else (none)) else (none)) else (none)))))))))))) = some r := h
 clear h
 replace H := ob H
 obtain ⟨t296, A1, H⟩ := H
 (try dsimp only at H)
 replace A1 := m0 A1
 replace H := ob H
 obtain ⟨⟨t299, t300, t301, t302⟩, A2, H⟩ := H
 (try dsimp only at H)
 replace A2 := m0 A2
 replace H := ob H
 obtain ⟨t304, A3, H⟩ := H
 (try dsimp only at H)
 replace A3 := m0 A3
 replace H := ob H
 obtain ⟨⟨t307, t308, t309, t310⟩, A4, H⟩ := H
 (try dsimp only at H)
 replace A4 := m0 A4
 replace H := ob H
 obtain ⟨t312, A5, H⟩ := H
 (try dsimp only at H)
 replace A5 := m0 A5
 replace H := ob H
 obtain ⟨⟨t315, t316, t317⟩, A6, H⟩ := H
 (try dsimp only at H)
 replace A6 := m0 A6
 replace H := ob H
 obtain ⟨t318, A7, H⟩ := H
 (try dsimp only at H)
 replace A7 := m0 A7
 replace H := ob H
 obtain ⟨⟨t321, t322⟩, A8, H⟩ := H
 (try dsimp only at H)
 replace A8 := m0 A8
 replace H := ob H
 obtain ⟨t325, A9, H⟩ := H
 (try dsimp only at H)
 replace A9 := m0 A9
 replace H := ob H
 obtain ⟨⟨t328, t329, t330⟩, A10, H⟩ := H
 (try dsimp only at H)
 replace A10 := m0 A10
 by_cases c11 : t302 = 0
 ·rw [if_pos c11] at H
  have c11b0 := beq_iff_eq.mpr c11
  have c11b1 := bne_eq_false_iff_eq.mpr c11
  clear c11
  by_cases c12 : (t299 == 3 && (t300 == 5)) = true
  ·rw [if_pos c12] at H
   have c12b0 : (t299 == 3 && (t300 == 5)) = true := c12
   (try (have c12b1 : decide (t299 = 3 && (t300 == 5)) = true := by simpa using c12))
   (try (have c12b2 : (t299 == 3 && (t300 == 5)) = true := by simpa using c12))
   clear c12
   by_cases c13 : t301 = 2
   ·rw [if_pos c13] at H
    have c13b0 := beq_iff_eq.mpr c13
    have c13b1 := bne_eq_false_iff_eq.mpr c13
    clear c13
    by_cases c14 : t310 = 0
    ·rw [if_pos c14] at H
     have c14b0 := beq_iff_eq.mpr c14
     have c14b1 := bne_eq_false_iff_eq.mpr c14
     clear c14
     by_cases c15 : (t307 == 7 && (t308 == 1 && (t309 == 2))) = true
     ·rw [if_pos c15] at H
      have c15b0 : (t307 == 7 && (t308 == 1 && (t309 == 2))) = true := c15
      (try (have c15b1 : decide (t307 = 7 && (t308 == 1 && (t309 == 2))) = true := by simpa using c15))
      (try (have c15b2 : (t307 == 7 && (t308 == 1 && (t309 == 2))) = true := by simpa using c15))
      clear c15
      by_cases c16 : t317 = 0
      ·rw [if_pos c16] at H
       have c16b0 := beq_iff_eq.mpr c16
       have c16b1 := bne_eq_false_iff_eq.mpr c16
       clear c16
       by_cases c17 : t315 = 7
       ·rw [if_pos c17] at H
        have c17b0 := beq_iff_eq.mpr c17
        have c17b1 := bne_eq_false_iff_eq.mpr c17
        clear c17
        by_cases c18 : t316 = 2
        ·rw [if_pos c18] at H
         have c18b0 := beq_iff_eq.mpr c18
         have c18b1 := bne_eq_false_iff_eq.mpr c18
         clear c18
         by_cases c19 : t322 = 0
         ·rw [if_pos c19] at H
          have c19b0 := beq_iff_eq.mpr c19
          have c19b1 := bne_eq_false_iff_eq.mpr c19
          clear c19
          obtain ⟨y331, hy331⟩ : ∃ y_ : List Int, y_ = (([3, 1] : List Int)) := ⟨_, rfl⟩
          replace H : ((Bs_Ints.f k t321 y331).bind fun t334 => (if t334 = true then (if t330 = 0 then (if t328 = 2 then (some (t329 == 2)) else (none)) else (none)) else (none))) = some r := by first | (rw [hy331]; with_reducible exact H) | (have H2_ := (Option.bind_some _ _).symm.trans H; rw [hy331]; with_reducible exact H2_) | (have H2_ := (Option.bind_some _ _).symm.trans H; with_reducible exact H2_) | with_reducible exact H | (rw [hy331]; exact H) | exact H
          have Ny331 := m0 hy331
          clear hy331
          replace H := ob H
          obtain ⟨t334, A20, H⟩ := H
          (try dsimp only at H)
          replace A20 := m0 A20
          by_cases c21 : t334 = true
          ·subst c21
           rw [if_pos rfl] at H
           by_cases c22 : t330 = 0
           ·rw [if_pos c22] at H
            have c22b0 := beq_iff_eq.mpr c22
            have c22b1 := bne_eq_false_iff_eq.mpr c22
            clear c22
            by_cases c23 : t328 = 2
            ·rw [if_pos c23] at H
             have c23b0 := beq_iff_eq.mpr c23
             have c23b1 := bne_eq_false_iff_eq.mpr c23
             clear c23
             obtain rfl := Option.some.inj H
             go_enter Try.func14, Try.ntmps14
             go_wp2_with (first | ((with_reducible refine gate_callee (f := 71) rfl ?_); refine gl (some 15) Try.func71 #[] ?_; (with_reducible refine (Lw_Readings.calls  t296 _ A1.out).mono ?_); rintro e w24 ⟨v297, rfl, ho0, hb⟩; refine ⟨_, rfl, ?_⟩; have HO298 := m0 (Kd.R_lower ho0 (below_size bz)); replace HB := sb HB hb; (try clear hb); (try clear ho0); obtain ⟨Ao25, co25, eo25⟩ := Kd.R_slice HO298.out; subst eo25) | ((with_reducible refine gate_callee (f := 56) rfl ?_); refine gl (some 16) Try.func56 #[.slice Ao25 t296.length co25] ?_; (with_reducible refine (L_VotedIn.calls k _ _ t296 t299 t300 t301 t302 _ ?side1 ?side2 A2.out).mono ?_); (case side1 => exact bc (Kd.R_reads' HO298.out).2.2); (case side2 => exact (Kd.R_reads' HO298.out).2.1); rintro e w26 ⟨rfl, hb⟩; refine ⟨_, rfl, ?_⟩; replace HO298 := rb HO298 hb; replace HB := sb HB hb; (try clear hb)) | ((with_reducible refine gate_dst (N := 1) rfl ?_); (try (refine gate_guard (by rfl) ?_; dsimp only)); refine be 1 58 #[.int .i64 0, .int .i64 0] ?_; intro gb303 hg w27 hbox hb; replace HO298 := rb HO298 hb; have BK303 := m0 hbox; have GE303 := gw w hg; replace HB := sb HB hb; clear hb hbox hg; obtain ⟨_, _, _, _⟩ := b2 BK303) | ((with_reducible refine gate_callee (f := 72) rfl ?_); refine gl (some 21) Try.func72 #[] ?_; (with_reducible refine (Lw_Steps.calls  t304 _ A3.out).mono ?_); rintro e w29 ⟨v305, rfl, ho0, hb⟩; refine ⟨_, rfl, ?_⟩; have HO306 := m0 (Kd.R_lower (Kd.R_new' ho0 (Kd.R_lt (by (with_reducible repeat (first | apply Kd.R_alloc | apply Kd.R_drewN | apply Kd.R_drew)); exact (Kd.R_mono (Kd.R_far (p := ⟨gb303, 1, none⟩) (Kd.R_far (p := ⟨gb303, 0, none⟩) (Kd.R_types HO298.out BK303.out (by decide)) (fun _ hk => hk.2) (.int .i64 t299)) (fun _ hk => hk.2) (.int .i64 t300)) (fun _ h_ => h_.1))))) (below_size bz)); replace HO298 := m0 (Kd.R_elder' (by (with_reducible repeat (first | apply Kd.R_alloc | apply Kd.R_drewN | apply Kd.R_drew)); exact (Kd.R_mono (Kd.R_far (p := ⟨gb303, 1, none⟩) (Kd.R_far (p := ⟨gb303, 0, none⟩) (Kd.R_types HO298.out BK303.out (by decide)) (fun _ hk => hk.2) (.int .i64 t299)) (fun _ hk => hk.2) (.int .i64 t300)) (fun _ h_ => h_.1))) (Kd.R_base ho0) hb); replace BK303 := m0 (blk_below (g := gb303) (o := .cells #[.int .i64 t299, .int .i64 t300] 58 (0, 0)) (bq BK303.out) hb); replace HB := sb HB hb; (try clear hb); (try clear ho0); obtain ⟨Ao30, co30, eo30⟩ := Kd.R_slice HO306.out; subst eo30) | ((with_reducible refine gate_callee (f := 37) rfl ?_); refine gl (some 22) Try.func37 #[.slice Ao30 t304.length co30] ?_; (with_reducible refine (L_LineOf.calls k _ _ t304 t307 t308 t309 t310 _ ?side1 ?side2 A4.out).mono ?_); (case side1 => exact bc (Kd.R_reads' HO306.out).2.2); (case side2 => exact (Kd.R_reads' HO306.out).2.1); rintro e w31 ⟨rfl, hb⟩; refine ⟨_, rfl, ?_⟩; replace HO298 := rb HO298 hb; replace HO306 := rb HO306 hb; replace BK303 := bb BK303 hb; replace HB := sb HB hb; (try clear hb)) | ((with_reducible refine gate_dst (N := 4) rfl ?_); (try (refine gate_guard (by rfl) ?_; dsimp only)); refine be 4 56 #[.int .i64 0, .int .i64 0, .int .i64 0] ?_; intro gb311 hg w32 hbox hb; replace HO298 := rb HO298 hb; replace HO306 := rb HO306 hb; have BK311 := m0 hbox; have GE311 := gw w hg; replace HB := sb HB hb; have NB303_311 := nl BK303 hg; have NB311_303 := ng (nl BK303 hg); replace BK303 := bb BK303 hb; clear hb hbox hg; have hnb33 := NB311_303.out; have hnc33 := NB303_311.out; obtain ⟨_, _, _, _, _, _⟩ := b3 BK311) | ((with_reducible refine gate_callee (f := 73) rfl ?_); refine gl (some 26) Try.func73 #[] ?_; (with_reducible refine (Lw_Sights.calls  t312 _ A5.out).mono ?_); rintro e w35 ⟨v313, rfl, ho0, hb⟩; refine ⟨_, rfl, ?_⟩; replace HO298 := m0 (Kd.R_below (by (with_reducible repeat (first | apply Kd.R_alloc | apply Kd.R_drewN | apply Kd.R_drew)); exact (Kd.R_mono (Kd.R_far (p := ⟨gb311, 2, none⟩) (Kd.R_far (p := ⟨gb311, 1, none⟩) (Kd.R_far (p := ⟨gb311, 0, none⟩) (Kd.R_types HO298.out BK311.out (by decide)) (fun _ hk => hk.2) (.int .i64 t307)) (fun _ hk => hk.2) (.int .i64 t308)) (fun _ hk => hk.2) (.int .i64 t309)) (fun _ h_ => h_.1))) hb); replace HO306 := m0 (Kd.R_below (by (with_reducible repeat (first | apply Kd.R_alloc | apply Kd.R_drewN | apply Kd.R_drew)); exact (Kd.R_mono (Kd.R_far (p := ⟨gb311, 2, none⟩) (Kd.R_far (p := ⟨gb311, 1, none⟩) (Kd.R_far (p := ⟨gb311, 0, none⟩) (Kd.R_types HO306.out BK311.out (by decide)) (fun _ hk => hk.2) (.int .i64 t307)) (fun _ hk => hk.2) (.int .i64 t308)) (fun _ hk => hk.2) (.int .i64 t309)) (fun _ h_ => h_.1))) hb); have HO314 := m0 (Kd.R_lower ho0 (below_size bz)); replace BK303 := m0 (blk_below (g := gb303) (o := .cells #[.int .i64 t299, .int .i64 t300] 58 (0, 0)) (bq BK303.out) hb); replace BK311 := m0 (blk_below (g := gb311) (o := .cells #[.int .i64 t307, .int .i64 t308, .int .i64 t309] 56 (0, 0)) (bq BK311.out) hb); replace HB := sb HB hb; (try clear hb); (try clear ho0); obtain ⟨Ao36, co36, eo36⟩ := Kd.R_slice HO314.out; subst eo36) | ((with_reducible refine gate_callee (f := 65) rfl ?_); refine gl (some 27) Try.func65 #[.slice Ao36 t312.length co36] ?_; (with_reducible refine (L_PointingOf.calls k _ _ t312 t315 t316 t317 _ ?side1 ?side2 A6.out).mono ?_); (case side1 => exact bc (Kd.R_reads' HO314.out).2.2); (case side2 => exact (Kd.R_reads' HO314.out).2.1); rintro e w37 ⟨rfl, hb⟩; refine ⟨_, rfl, ?_⟩; replace HO298 := rb HO298 hb; replace HO306 := rb HO306 hb; replace HO314 := rb HO314 hb; replace BK303 := bb BK303 hb; replace BK311 := bb BK311 hb; replace HB := sb HB hb; (try clear hb)) | ((with_reducible refine gate_callee (f := 74) rfl ?_); refine gl (some 32) Try.func74 #[] ?_; (with_reducible refine (Lw_Tasks.calls  t318 _ A7.out).mono ?_); rintro e w38 ⟨v319, rfl, ho0, hb⟩; refine ⟨_, rfl, ?_⟩; replace HO298 := rb HO298 hb; replace HO306 := rb HO306 hb; replace HO314 := rb HO314 hb; have HO320 := m0 (Kd.R_lower ho0 (below_size bz)); replace BK303 := bb BK303 hb; replace BK311 := bb BK311 hb; replace HB := sb HB hb; (try clear hb); (try clear ho0); obtain ⟨Ao39, co39, eo39⟩ := Kd.R_slice HO320.out; subst eo39) | ((with_reducible refine gate_callee (f := 17) rfl ?_); refine gl (some 33) Try.func17 #[.slice Ao39 t318.length co39, .int .i64 7] ?_; (with_reducible refine (L_DaysOf.calls k _ _ t318 7 t321 t322 _ ?side1 ?side2 A8.out).mono ?_); (case side1 => exact bc (Kd.R_reads' HO320.out).2.2); (case side2 => exact (Kd.R_reads' HO320.out).2.1); rintro e w40 ⟨v323, rfl, ho0, hb⟩; refine ⟨_, rfl, ?_⟩; replace HO298 := rb HO298 hb; replace HO306 := rb HO306 hb; replace HO314 := rb HO314 hb; replace HO320 := rb HO320 hb; have HO324 := m0 (Kd.R_lower ho0 (below_size bz)); replace BK303 := bb BK303 hb; replace BK311 := bb BK311 hb; replace HB := sb HB hb; (try clear hb); (try clear ho0)) | ((with_reducible refine gate_callee (f := 74) rfl ?_); refine gl (some 37) Try.func74 #[] ?_; (with_reducible refine (Lw_Tasks.calls  t325 _ A9.out).mono ?_); rintro e w41 ⟨v326, rfl, ho0, hb⟩; refine ⟨_, rfl, ?_⟩; replace HO298 := rb HO298 hb; replace HO306 := rb HO306 hb; replace HO314 := rb HO314 hb; replace HO324 := rb HO324 hb; have HO327 := m0 (Kd.R_lower (Kd.R_new' ho0 (Kd.R_lt (br HO320.out))) (below_size bz)); replace HO320 := m0 (Kd.R_elder' (br HO320.out) (Kd.R_base ho0) hb); replace BK303 := bb BK303 hb; replace BK311 := bb BK311 hb; replace HB := sb HB hb; (try clear hb); (try clear ho0); obtain ⟨Ao42, co42, eo42⟩ := Kd.R_slice HO327.out; subst eo42) | ((with_reducible refine gate_callee (f := 18) rfl ?_); refine gl (some 38) Try.func18 #[.slice Ao42 t325.length co42, .int .i64 7] ?_; (with_reducible refine (L_LackOf.calls k _ _ t325 7 t328 t329 t330 _ ?side1 ?side2 A10.out).mono ?_); (case side1 => exact bc (Kd.R_reads' HO327.out).2.2); (case side2 => exact (Kd.R_reads' HO327.out).2.1); rintro e w43 ⟨rfl, hb⟩; refine ⟨_, rfl, ?_⟩; replace HO298 := rb HO298 hb; replace HO306 := rb HO306 hb; replace HO314 := rb HO314 hb; replace HO320 := rb HO320 hb; replace HO324 := rb HO324 hb; replace HO327 := rb HO327 hb; replace BK303 := bb BK303 hb; replace BK311 := bb BK311 hb; replace HB := sb HB hb; (try clear hb); obtain ⟨_, _, _, _⟩ := b2 BK303; obtain ⟨_, _, _, _, _, _⟩ := b3 BK311) | ((with_reducible refine gate_dst (N := 80) rfl ?_); (try (refine gate_guard (by rfl) ?_; dsimp only)); refine Kd.R_lit (Kd.int .i64) _ 3 ?hg (N := 80) ?hd (xs := ([3, 1] : List Int)) (inner := [.int .i64 3, .int .i64 1]) (ok := fun _ => True) (okp := fun _ => True) ?hr ?hp (fun _ hk => hk) trivial (Below.refl _ _) (Nat.le_refl _) (by simp) ?_; (case hd => rfl); (case hg => rfl); (case hr => first | (go_simp; done) | (go_simp; rfl)); (case hp => exact (Reps.one (show Kd.M (Kd.int .i64) _ _ _ 3 [.int .i64 3] from rfl) (Reps.one (show Kd.M (Kd.int .i64) _ _ _ 1 [.int .i64 1] from rfl) (Reps.none _ _)))); intro v332 w46 ho47 hb hg_ hnew_; clear hg_ hnew_; (first | rw [← Ny331.out] at ho47 | (simp only [Int.reduceToNat] at ho47; rw [← Ny331.out] at ho47)); replace HO298 := rb HO298 hb; replace HO306 := rb HO306 hb; replace HO314 := rb HO314 hb; replace HO320 := rb HO320 hb; replace HO327 := rb HO327 hb; have HO333 := m0 (Kd.R_lower (Kd.R_new' ho47 (Kd.R_lt (br HO324.out))) (below_size bz)); replace HO324 := m0 (Kd.R_elder' (br HO324.out) (Kd.R_base ho47) hb); replace BK303 := bb BK303 hb; replace BK311 := bb BK311 hb; replace HB := sb HB hb; clear hb ho47; obtain ⟨Ao48, co48, eo48⟩ := Kd.R_slice HO324.out; subst eo48; obtain ⟨Ao49, co49, eo49⟩ := Kd.R_slice HO333.out; subst eo49) | (go_at_call 21; (with_reducible refine (Bs_Ints.calls k _ _ t321 _ _ y331 true _ ?side1 ?side2 ?side3 ?side4 A20.out).mono ?_); (case side1 => exact bc (Kd.R_reads' HO324.out).2.2); (case side2 => exact (Kd.R_reads' HO324.out).2.1); (case side3 => exact bc (Kd.R_reads' HO333.out).2.2); (case side4 => exact (Kd.R_reads' HO333.out).2.1); rintro e w' ⟨rfl, ⟨nd, rfl⟩⟩))
             go_ret
             exact ez
            ·rw [if_neg c23] at H
             exact absurd H (by simp)
           ·rw [if_neg c22] at H
            exact absurd H (by simp)
          ·replace c21 := Bool.eq_false_iff.mpr c21
           subst c21
           rw [if_neg (show ¬ (false = true) by decide)] at H
           exact absurd H (by simp)
         ·rw [if_neg c19] at H
          exact absurd H (by simp)
        ·rw [if_neg c18] at H
         exact absurd H (by simp)
       ·rw [if_neg c17] at H
        exact absurd H (by simp)
      ·rw [if_neg c16] at H
       exact absurd H (by simp)
     ·rw [if_neg c15] at H
      exact absurd H (by simp)
    ·rw [if_neg c14] at H
     exact absurd H (by simp)
   ·rw [if_neg c13] at H
    exact absurd H (by simp)
  ·rw [if_neg c12] at H
   exact absurd H (by simp)
 ·rw [if_neg c11] at H
  exact absurd H (by simp)
end Go.Proofs.Ytibhfahbabgbaaa.A
