/- Walks of the program's functions (printed, made shorter), each with what it computes. -/
import Derived.Test.YteiafijbgjgiaaaB09
import Derived.LoopIn
import Derived.LoopNIn
import Derived.OwnWalkIn
import Derived.RangeFuncBound
import Derived.RangeFuncBox
import Derived.RangeFuncCalls
import Derived.RangeFuncFrom
import Derived.RangeFuncLeaves
import Derived.RangeFuncNested
import Derived.Shelf.Abstract
import Derived.TacticsInMore
namespace Go.Proofs.Yteiafijbgjgiaaa.A
set_option maxHeartbeats 8000000
set_option maxRecDepth 100000
open Go.RowKit Go.Proofs.YteiafijbgjgiaaaW.PrintWords Go.Proofs.YteiafijbgjgiaaaW.PrintLast Go.Proofs.YteiafijbgjgiaaaW.PrintMore
attribute [local go_sem] max2_int min2_int max_two min_two max_three min_three max_four min_four
set_option linter.unusedVariables false
set_option linter.unusedSimpArgs false
section
def L_CheckLayers_1.f (k : Nat) (a0_0 : Int) (a0_1 : Int) (a0_2 : Int) : Option (Int) := (L_isHeight.f a0_0).bind fun t183 => (if t183 = true then ((L_isHeight.f a0_1).bind fun t184 => (if t184 = true then ((L_within.f a0_2 0 8).bind fun t185 => ((L_unless.f t185 2).bind fun t186 => ((L_unless.f (decide (a0_0 < a0_1)) 9).bind fun t187 => ((L_first.f k (([t186, t187] : List Int))).bind fun t191 => (some t191))))) else ((L_unless.f false 2).bind fun t192 => ((L_unless.f (decide (a0_0 < a0_1)) 9).bind fun t193 => ((L_first.f k (([t192, t193] : List Int))).bind fun t197 => (some t197)))))) else ((L_unless.f false 2).bind fun t198 => ((L_unless.f (decide (a0_0 < a0_1)) 9).bind fun t199 => ((L_first.f k (([t198, t199] : List Int))).bind fun t203 => (some t203)))))
theorem L_CheckLayers_1.mono : ∀ a0 a1 a2 k, LeO (L_CheckLayers_1.f k a0 a1 a2) (L_CheckLayers_1.f (k + 1) a0 a1 a2) := by
 intro a0 a1 a2 k; unfold L_CheckLayers_1.f
 repeat' with_reducible first
  | exact L_first.mono ..
  | exact LeO.refl ..
  | exact LeO.none ..
  | refine LeO.ite ?_ ?_
  | refine LeO.bind ?_ (fun _ => ?_)
def L_CheckLayers_1.T2 : Bool × List (List Nat × List Nat) := (true, [([], []), ([0], [0]), ([], []), ([2], [2]), ([], []), ([4], [4]), ([3, 5], [3, 5]), ([6, 1], [6]), ([1, 7], [1, 7]), ([8, 7], [8]), ([9, 9, 0, 1, 2, 3, 4, 5, 6, 7, 8, 9], [9])])
def L_CheckLayers_1.B2 : List Nat := [0, 1, 0, 4, 0, 16, 60, 127, 255, 511, 1023]
theorem L_CheckLayers_1.tab2 : rtab .any (opsOf Try.f74 2) = L_CheckLayers_1.T2 := by kernel_rfl
theorem L_CheckLayers_1.bits2 : waitsOk L_CheckLayers_1.T2.2 L_CheckLayers_1.B2 = true := by kernel_rfl
theorem L_CheckLayers_1.calls (k : Nat) (a0_0 : Int) (a0_1 : Int) (a0_2 : Int) (r : Int) (w : World) (H : L_CheckLayers_1.f k a0_0 a0_1 a0_2 = some r) :
  Calls Try.prog 74 #[.agg #[.int .i64 a0_0, .int .i64 a0_1, .int .i64 a0_2]] w fun e w' => e = .returned (.int .i64 r) ∧ Below w.heap.size w w' := by
 have hu112 := Try.underlying112; have HB := m0 (Below.refl w.heap.size w); unfold L_CheckLayers_1.f at H; replace H := oa H; obtain ⟨t183, A2, H⟩ := H; (try dsimp only at H)
 by_cases c3 : t183 = true
 ·subst c3; rw [if_pos rfl] at H; replace H := oa H; obtain ⟨t184, A4, H⟩ := H; (try dsimp only at H)
  by_cases c5 : t184 = true
  ·subst c5; rw [if_pos rfl] at H; replace H := oa H; obtain ⟨t185, A6, H⟩ := H; (try dsimp only at H); replace H := oa H; obtain ⟨t186, A7, H⟩ := H; (try dsimp only at H); replace H := oa H; obtain ⟨t187, A8, H⟩ := H; (try dsimp only at H); obtain ⟨y188, hy188⟩ : ∃ y_ : List Int, y_ = (([t186, t187] : List Int)) := ⟨_, rfl⟩; replace H : ((L_first.f k y188).bind fun t191 => (some t191)) = some r := by first | (rw [hy188]; with_reducible exact H) | (have H2_ := (Option.bind_some _ _).symm.trans H; rw [hy188]; with_reducible exact H2_) | (have H2_ := (Option.bind_some _ _).symm.trans H; with_reducible exact H2_) | with_reducible exact H | (rw [hy188]; exact H) | exact H
   have Ny188 := m0 hy188; clear hy188; replace H := oa H; obtain ⟨t191, A9, H⟩ := H; (try dsimp only at H); obtain rfl := Option.some.inj H; go_enter Try.func74, Try.ntmps74
   try go_wp2_with (first | ((with_reducible refine ga 1 rfl ?_); refine be 1 112 #[.int .i64 a0_0, .int .i64 a0_1, .int .i64 a0_2] ?_; intro gb182 hg w10 hbox hb; have BK182 := m0 hbox; have GE182 := gw w hg; replace HB := sb HB hb; clear hb hbox hg; obtain ⟨_, _, _, _, _, _⟩ := b3 BK182) | ((with_reducible refine gc 75 rfl ?_); refine gl (some 6) Try.func75 #[.int .i64 a0_0] ?_; (with_reducible refine (L_isHeight.calls a0_0 true _ A2.out).mono ?_); rintro e w' ⟨rfl, ⟨nd, rfl⟩⟩; refine ⟨_, rfl, ?_⟩) | (go_at_call 75; (with_reducible refine (L_isHeight.calls a0_1 true _ A4.out).mono ?_); rintro e w' ⟨rfl, ⟨nd, rfl⟩⟩) | (go_at_call 70; (with_reducible refine (L_within.calls a0_2 0 8 t185 _ A6.out).mono ?_); rintro e w' ⟨rfl, ⟨nd, rfl⟩⟩))
   (try (rw [drewN_self w10]; generalize hq_ : World.drewN w10 _ = w10; replace BK182 := gd BK182 hq_; replace HB := gs HB hq_; clear hq_))
   replace BK182 := bd BK182; replace HB := sd HB; refine start_ (n := 11) (S := fun w' => w'.cell? ⟨gb182, 0, none⟩ = some (.int .i64 a0_0) ∧ w'.cell? ⟨gb182, 1, none⟩ = some (.int .i64 a0_1) ∧ w'.cell? ⟨gb182, 2, none⟩ = some (.int .i64 a0_2)) (ds := []) _ (by kernel_rfl) rfl rfl cz (fun hH => ?_); refine with_tabW L_CheckLayers_1.tab2 L_CheckLayers_1.bits2 (fun HT_ HW_ => ?_); generalize w10.drew = w12 at BK182 HB hH ⊢; refine pZ 0 (some 17) #[true, false, false, false, false, false, false, false, false, false, false] HT_ ?_; refine pZ 2 (some 19) #[true, false, true, false, false, false, false, false, false, false, false] HT_ ?_; refine pZ 4 (some 21) #[true, false, true, false, true, false, false, false, false, false, false] HT_ ?_; refine takeZ 3 (some 20) #[true, false, true, true, true, false, false, false, false, false, false] (tw HT_ HW_) hH ?_; refine takeZ 5 (some 22) #[true, false, true, true, true, true, false, false, false, false, false] (tw HT_ HW_) hH ?_; refine pZ 6 (some 23) #[true, false, true, true, true, true, true, false, false, false, false] HT_ ?_; refine oneZ 1 (some 18) #[true, true, true, true, true, true, true, false, false, false, false] (o1 HT_) fun K hK => ?_; refine gz Try.func69 #[.bool t185, .int .i64 2] ?_
   with_reducible refine (L_unless.calls t185 2 t186 _ A7.out).mono ?_
   rintro e w' ⟨rfl, ⟨nd, rfl⟩⟩; refine ⟨_, rfl, ?_⟩; refine hK.out _ _ cz (fun hH => ?_); clear hK K; refine nz 18 ?_; refine oneZ 7 (some 24) #[true, true, true, true, true, true, true, true, false, false, false] (o1 HT_) fun K hK => ?_; refine gz Try.func69 #[.bool (decide (a0_0 < a0_1)), .int .i64 9] ?_
   with_reducible refine (L_unless.calls (decide (a0_0 < a0_1)) 9 t187 _ A8.out).mono ?_
   rintro e w' ⟨rfl, ⟨nd, rfl⟩⟩; refine ⟨_, rfl, ?_⟩; refine hK.out _ _ cz (fun hH => ?_); clear hK K; refine nz 24 ?_; refine oneZ 8 (some 25) #[true, true, true, true, true, true, true, true, true, false, false] (o1 HT_) fun K hK => ?_; refine Kd.R_lit_step (Kd.int .i64) _ 26 ?hg (N := 25) ?hd (xs := ([t186, t187] : List Int)) (inner := [.int .i64 t186, .int .i64 t187]) (ok := fun _ => True) (okp := fun _ => True) ?hr ?hp (fun _ hk => hk) trivial (Below.refl _ _) (Nat.le_refl _) (by simp) ?_; (case hd => rfl); (case hg => rfl); (case hr => first | (go_simp; done) | (go_simp; rfl)); (case hp => exact (Reps.one (ki t186) (Reps.one (ki t187) (Reps.none _ _))))
   intro v189 w13 ho14 hb hg_ hnew_; clear hg_ hnew_
   (first | rw [← Ny188.out] at ho14 | (simp only [Int.reduceToNat] at ho14; rw [← Ny188.out] at ho14))
   have HO190 := m0 (Kd.R_lower ho14 (below_size bz)); replace BK182 := bb BK182 hb; replace HB := sb HB hb; clear hb ho14; obtain ⟨Ao15, co15, eo15⟩ := Kd.R_slice HO190.out; subst eo15; refine hK.out _ _ cz (fun hH => ?_); clear hK K; refine nz 25 ?_; refine oneZ 9 (some 26) #[true, true, true, true, true, true, true, true, true, true, false] (o1 HT_) fun K hK => ?_; refine gz Try.func68 #[.slice Ao15 y188.length co15] ?_
   with_reducible refine (L_first.calls k _ _ y188 t191 _ ?side1 ?side2 A9.out).mono ?_
   (case side1 => exact bc (Kd.R_reads' HO190.out).2.2)
   (case side2 => exact (Kd.R_reads' HO190.out).2.1)
   rintro e w' ⟨rfl, ⟨nd, rfl⟩⟩; refine ⟨_, rfl, ?_⟩; refine hK.out _ _ cz (fun hH => ?_); clear hK K; refine nz 26 ?_; refine pZ 10 (some 2) #[true, true, true, true, true, true, true, true, true, true, true] HT_ ?_; refine done_ (done_of HT_.out (by kernel_rfl)) ?_
   try go_wp2
   go_ret
   exact ez
  ·replace c5 := Bool.eq_false_iff.mpr c5; subst c5; rw [if_neg (show ¬ (false = true) by decide)] at H; replace H := oa H; obtain ⟨t192, A16, H⟩ := H; (try dsimp only at H); replace H := oa H; obtain ⟨t193, A17, H⟩ := H; (try dsimp only at H); obtain ⟨y194, hy194⟩ : ∃ y_ : List Int, y_ = (([t192, t193] : List Int)) := ⟨_, rfl⟩; replace H : ((L_first.f k y194).bind fun t197 => (some t197)) = some r := by first | (rw [hy194]; with_reducible exact H) | (have H2_ := (Option.bind_some _ _).symm.trans H; rw [hy194]; with_reducible exact H2_) | (have H2_ := (Option.bind_some _ _).symm.trans H; with_reducible exact H2_) | with_reducible exact H | (rw [hy194]; exact H) | exact H
   have Ny194 := m0 hy194; clear hy194; replace H := oa H; obtain ⟨t197, A18, H⟩ := H; (try dsimp only at H); obtain rfl := Option.some.inj H; go_enter Try.func74, Try.ntmps74
   try go_wp2_with (first | ((with_reducible refine ga 1 rfl ?_); refine be 1 112 #[.int .i64 a0_0, .int .i64 a0_1, .int .i64 a0_2] ?_; intro gb182 hg w19 hbox hb; have BK182 := m0 hbox; have GE182 := gw w hg; replace HB := sb HB hb; clear hb hbox hg; obtain ⟨_, _, _, _, _, _⟩ := b3 BK182) | ((with_reducible refine gc 75 rfl ?_); refine gl (some 6) Try.func75 #[.int .i64 a0_0] ?_; (with_reducible refine (L_isHeight.calls a0_0 true _ A2.out).mono ?_); rintro e w' ⟨rfl, ⟨nd, rfl⟩⟩; refine ⟨_, rfl, ?_⟩) | (go_at_call 75; (with_reducible refine (L_isHeight.calls a0_1 false _ A4.out).mono ?_); rintro e w' ⟨rfl, ⟨nd, rfl⟩⟩))
   (try (rw [drewN_self w19]; generalize hq_ : World.drewN w19 _ = w19; replace BK182 := gd BK182 hq_; replace HB := gs HB hq_; clear hq_))
   replace BK182 := bd BK182; replace HB := sd HB; refine start_ (n := 11) (S := fun w' => w'.cell? ⟨gb182, 0, none⟩ = some (.int .i64 a0_0) ∧ w'.cell? ⟨gb182, 1, none⟩ = some (.int .i64 a0_1) ∧ w'.cell? ⟨gb182, 2, none⟩ = some (.int .i64 a0_2)) (ds := []) _ (by kernel_rfl) rfl rfl cz (fun hH => ?_); refine with_tabW L_CheckLayers_1.tab2 L_CheckLayers_1.bits2 (fun HT_ HW_ => ?_); generalize w19.drew = w21 at BK182 HB hH ⊢; refine pZ 0 (some 17) #[true, false, false, false, false, false, false, false, false, false, false] HT_ ?_; refine pZ 2 (some 19) #[true, false, true, false, false, false, false, false, false, false, false] HT_ ?_; refine pZ 4 (some 21) #[true, false, true, false, true, false, false, false, false, false, false] HT_ ?_; refine takeZ 3 (some 20) #[true, false, true, true, true, false, false, false, false, false, false] (tw HT_ HW_) hH ?_; refine takeZ 5 (some 22) #[true, false, true, true, true, true, false, false, false, false, false] (tw HT_ HW_) hH ?_; refine pZ 6 (some 23) #[true, false, true, true, true, true, true, false, false, false, false] HT_ ?_; refine oneZ 1 (some 18) #[true, true, true, true, true, true, true, false, false, false, false] (o1 HT_) fun K hK => ?_; refine gz Try.func69 #[.bool false, .int .i64 2] ?_
   with_reducible refine (L_unless.calls false 2 t192 _ A16.out).mono ?_
   rintro e w' ⟨rfl, ⟨nd, rfl⟩⟩; refine ⟨_, rfl, ?_⟩; refine hK.out _ _ cz (fun hH => ?_); clear hK K; refine nz 18 ?_; refine oneZ 7 (some 24) #[true, true, true, true, true, true, true, true, false, false, false] (o1 HT_) fun K hK => ?_; refine gz Try.func69 #[.bool (decide (a0_0 < a0_1)), .int .i64 9] ?_
   with_reducible refine (L_unless.calls (decide (a0_0 < a0_1)) 9 t193 _ A17.out).mono ?_
   rintro e w' ⟨rfl, ⟨nd, rfl⟩⟩; refine ⟨_, rfl, ?_⟩; refine hK.out _ _ cz (fun hH => ?_); clear hK K; refine nz 24 ?_; refine oneZ 8 (some 25) #[true, true, true, true, true, true, true, true, true, false, false] (o1 HT_) fun K hK => ?_; refine Kd.R_lit_step (Kd.int .i64) _ 26 ?hg (N := 25) ?hd (xs := ([t192, t193] : List Int)) (inner := [.int .i64 t192, .int .i64 t193]) (ok := fun _ => True) (okp := fun _ => True) ?hr ?hp (fun _ hk => hk) trivial (Below.refl _ _) (Nat.le_refl _) (by simp) ?_; (case hd => rfl); (case hg => rfl); (case hr => first | (go_simp; done) | (go_simp; rfl)); (case hp => exact (Reps.one (ki t192) (Reps.one (ki t193) (Reps.none _ _))))
   intro v195 w22 ho23 hb hg_ hnew_; clear hg_ hnew_
   (first | rw [← Ny194.out] at ho23 | (simp only [Int.reduceToNat] at ho23; rw [← Ny194.out] at ho23))
   have HO196 := m0 (Kd.R_lower ho23 (below_size bz)); replace BK182 := bb BK182 hb; replace HB := sb HB hb; clear hb ho23; obtain ⟨Ao24, co24, eo24⟩ := Kd.R_slice HO196.out; subst eo24; refine hK.out _ _ cz (fun hH => ?_); clear hK K; refine nz 25 ?_; refine oneZ 9 (some 26) #[true, true, true, true, true, true, true, true, true, true, false] (o1 HT_) fun K hK => ?_; refine gz Try.func68 #[.slice Ao24 y194.length co24] ?_
   with_reducible refine (L_first.calls k _ _ y194 t197 _ ?side1 ?side2 A18.out).mono ?_
   (case side1 => exact bc (Kd.R_reads' HO196.out).2.2)
   (case side2 => exact (Kd.R_reads' HO196.out).2.1)
   rintro e w' ⟨rfl, ⟨nd, rfl⟩⟩; refine ⟨_, rfl, ?_⟩; refine hK.out _ _ cz (fun hH => ?_); clear hK K; refine nz 26 ?_; refine pZ 10 (some 2) #[true, true, true, true, true, true, true, true, true, true, true] HT_ ?_; refine done_ (done_of HT_.out (by kernel_rfl)) ?_
   try go_wp2
   go_ret
   exact ez
 ·replace c3 := Bool.eq_false_iff.mpr c3; subst c3; rw [if_neg (show ¬ (false = true) by decide)] at H; replace H := oa H; obtain ⟨t198, A25, H⟩ := H; (try dsimp only at H); replace H := oa H; obtain ⟨t199, A26, H⟩ := H; (try dsimp only at H); obtain ⟨y200, hy200⟩ : ∃ y_ : List Int, y_ = (([t198, t199] : List Int)) := ⟨_, rfl⟩; replace H : ((L_first.f k y200).bind fun t203 => (some t203)) = some r := by first | (rw [hy200]; with_reducible exact H) | (have H2_ := (Option.bind_some _ _).symm.trans H; rw [hy200]; with_reducible exact H2_) | (have H2_ := (Option.bind_some _ _).symm.trans H; with_reducible exact H2_) | with_reducible exact H | (rw [hy200]; exact H) | exact H
  have Ny200 := m0 hy200; clear hy200; replace H := oa H; obtain ⟨t203, A27, H⟩ := H; (try dsimp only at H); obtain rfl := Option.some.inj H; go_enter Try.func74, Try.ntmps74
  try go_wp2_with (first | ((with_reducible refine ga 1 rfl ?_); refine be 1 112 #[.int .i64 a0_0, .int .i64 a0_1, .int .i64 a0_2] ?_; intro gb182 hg w28 hbox hb; have BK182 := m0 hbox; have GE182 := gw w hg; replace HB := sb HB hb; clear hb hbox hg; obtain ⟨_, _, _, _, _, _⟩ := b3 BK182) | ((with_reducible refine gc 75 rfl ?_); refine gl (some 6) Try.func75 #[.int .i64 a0_0] ?_; (with_reducible refine (L_isHeight.calls a0_0 false _ A2.out).mono ?_); rintro e w' ⟨rfl, ⟨nd, rfl⟩⟩; refine ⟨_, rfl, ?_⟩))
  (try (rw [drewN_self w28]; generalize hq_ : World.drewN w28 _ = w28; replace BK182 := gd BK182 hq_; replace HB := gs HB hq_; clear hq_))
  replace BK182 := bd BK182; replace HB := sd HB; refine start_ (n := 11) (S := fun w' => w'.cell? ⟨gb182, 0, none⟩ = some (.int .i64 a0_0) ∧ w'.cell? ⟨gb182, 1, none⟩ = some (.int .i64 a0_1) ∧ w'.cell? ⟨gb182, 2, none⟩ = some (.int .i64 a0_2)) (ds := []) _ (by kernel_rfl) rfl rfl cz (fun hH => ?_); refine with_tabW L_CheckLayers_1.tab2 L_CheckLayers_1.bits2 (fun HT_ HW_ => ?_); generalize w28.drew = w30 at BK182 HB hH ⊢; refine pZ 0 (some 17) #[true, false, false, false, false, false, false, false, false, false, false] HT_ ?_; refine pZ 2 (some 19) #[true, false, true, false, false, false, false, false, false, false, false] HT_ ?_; refine pZ 4 (some 21) #[true, false, true, false, true, false, false, false, false, false, false] HT_ ?_; refine takeZ 3 (some 20) #[true, false, true, true, true, false, false, false, false, false, false] (tw HT_ HW_) hH ?_; refine takeZ 5 (some 22) #[true, false, true, true, true, true, false, false, false, false, false] (tw HT_ HW_) hH ?_; refine pZ 6 (some 23) #[true, false, true, true, true, true, true, false, false, false, false] HT_ ?_; refine oneZ 1 (some 18) #[true, true, true, true, true, true, true, false, false, false, false] (o1 HT_) fun K hK => ?_; refine gz Try.func69 #[.bool false, .int .i64 2] ?_
  with_reducible refine (L_unless.calls false 2 t198 _ A25.out).mono ?_
  rintro e w' ⟨rfl, ⟨nd, rfl⟩⟩; refine ⟨_, rfl, ?_⟩; refine hK.out _ _ cz (fun hH => ?_); clear hK K; refine nz 18 ?_; refine oneZ 7 (some 24) #[true, true, true, true, true, true, true, true, false, false, false] (o1 HT_) fun K hK => ?_; refine gz Try.func69 #[.bool (decide (a0_0 < a0_1)), .int .i64 9] ?_
  with_reducible refine (L_unless.calls (decide (a0_0 < a0_1)) 9 t199 _ A26.out).mono ?_
  rintro e w' ⟨rfl, ⟨nd, rfl⟩⟩; refine ⟨_, rfl, ?_⟩; refine hK.out _ _ cz (fun hH => ?_); clear hK K; refine nz 24 ?_; refine oneZ 8 (some 25) #[true, true, true, true, true, true, true, true, true, false, false] (o1 HT_) fun K hK => ?_; refine Kd.R_lit_step (Kd.int .i64) _ 26 ?hg (N := 25) ?hd (xs := ([t198, t199] : List Int)) (inner := [.int .i64 t198, .int .i64 t199]) (ok := fun _ => True) (okp := fun _ => True) ?hr ?hp (fun _ hk => hk) trivial (Below.refl _ _) (Nat.le_refl _) (by simp) ?_; (case hd => rfl); (case hg => rfl); (case hr => first | (go_simp; done) | (go_simp; rfl)); (case hp => exact (Reps.one (ki t198) (Reps.one (ki t199) (Reps.none _ _))))
  intro v201 w31 ho32 hb hg_ hnew_; clear hg_ hnew_
  (first | rw [← Ny200.out] at ho32 | (simp only [Int.reduceToNat] at ho32; rw [← Ny200.out] at ho32))
  have HO202 := m0 (Kd.R_lower ho32 (below_size bz)); replace BK182 := bb BK182 hb; replace HB := sb HB hb; clear hb ho32; obtain ⟨Ao33, co33, eo33⟩ := Kd.R_slice HO202.out; subst eo33; refine hK.out _ _ cz (fun hH => ?_); clear hK K; refine nz 25 ?_; refine oneZ 9 (some 26) #[true, true, true, true, true, true, true, true, true, true, false] (o1 HT_) fun K hK => ?_; refine gz Try.func68 #[.slice Ao33 y200.length co33] ?_
  with_reducible refine (L_first.calls k _ _ y200 t203 _ ?side1 ?side2 A27.out).mono ?_
  (case side1 => exact bc (Kd.R_reads' HO202.out).2.2)
  (case side2 => exact (Kd.R_reads' HO202.out).2.1)
  rintro e w' ⟨rfl, ⟨nd, rfl⟩⟩; refine ⟨_, rfl, ?_⟩; refine hK.out _ _ cz (fun hH => ?_); clear hK K; refine nz 26 ?_; refine pZ 10 (some 2) #[true, true, true, true, true, true, true, true, true, true, true] HT_ ?_; refine done_ (done_of HT_.out (by kernel_rfl)) ?_
  try go_wp2
  go_ret
  exact ez
end
section
def api_CloudLayer_CheckLayers_1.l0 : Nat → List (S112) → Int → Int → Option (Int × Int)
 | 0, _, _, _ => none
 | k + 1, x9, x10, x11 => if x11 < x10 then (if 0 ≤ x11 then (if x11 < (x9.length : Int) then ((L_CheckLayers_1.f k ((rd_T112 x9 x11).f0) ((rd_T112 x9 x11).f1) ((rd_T112 x9 x11).f2)).bind fun t206 => (if t206 = 0 then (api_CloudLayer_CheckLayers_1.l0 k x9 x10 (wrap64 (x11 + 1))) else (some (x11, t206)))) else (none)) else (none)) else (some (0, 0))
def api_CloudLayer_CheckLayers_1.f (k : Nat) (l0 : List (S112))  : Option (Int × Int) := api_CloudLayer_CheckLayers_1.l0 k l0 (l0.length : Int) 0
theorem api_CloudLayer_CheckLayers_1.mono_l : ∀ k, (∀ y0 y1 y2, LeO (api_CloudLayer_CheckLayers_1.l0 k y0 y1 y2) (api_CloudLayer_CheckLayers_1.l0 (k + 1) y0 y1 y2))
 | 0 => fun _ _ _ r h => by simp [api_CloudLayer_CheckLayers_1.l0] at h
 | k + 1 => by
  have ih0 := api_CloudLayer_CheckLayers_1.mono_l k
  ·intro y0 y1 y2; unfold api_CloudLayer_CheckLayers_1.l0
   repeat' with_reducible first
    | exact ih0 ..
    | exact L_CheckLayers_1.mono ..
    | exact LeO.refl ..
    | exact LeO.none ..
    | refine LeO.ite ?_ ?_
    | refine LeO.bind ?_ (fun _ => ?_)
theorem api_CloudLayer_CheckLayers_1.mono : ∀ a0 k, LeO (api_CloudLayer_CheckLayers_1.f k a0) (api_CloudLayer_CheckLayers_1.f (k + 1) a0) := by
 intro a0 k; have ih0 := api_CloudLayer_CheckLayers_1.mono_l k; unfold api_CloudLayer_CheckLayers_1.f
 repeat' with_reducible first
  | exact ih0 ..
  | exact L_CheckLayers_1.mono ..
  | exact LeO.refl ..
  | exact LeO.none ..
  | refine LeO.ite ?_ ?_
  | refine LeO.bind ?_ (fun _ => ?_)
theorem api_CloudLayer_CheckLayers_1.calls (k : Nat) (A0 : Option Addr) (c0 : Nat) (l0 : List (S112))  (r1 : Int) (r2 : Int) (w : World) (hr0 : Kd.C k112 w A0 l0.length l0) (hc0 : l0.length ≤ c0) (H : api_CloudLayer_CheckLayers_1.f k l0 = some (r1, r2)) :
  Calls Try.prog 73 #[.slice A0 l0.length c0, .func (.func 74) #[] #[]] w fun e w' => e = .returned (.tuple #[.int .i64 r1, .int .i64 r2]) ∧ Below w.heap.size w w' := by
 have hu112 := Try.underlying112; have HR0 := m0 hr0; have HC0 := m0 hc0; clear hr0 hc0; have HB := m0 (Below.refl w.heap.size w); unfold api_CloudLayer_CheckLayers_1.f at H; have H' := m0 H; clear H; go_enter Try.func73, Try.ntmps73
 go_wp2
 go_loopg [11] k (fun kq v11 w' => ∃ (x11_1 : Int), v11 = .int .i64 x11_1 ∧ Aside0 (api_CloudLayer_CheckLayers_1.l0 kq l0 (l0.length : Int) x11_1 = some (r1, r2)) ∧ Aside0 (kq ≤ k) ∧ Aside0 (Below w.heap.size w w'))
 case atStart => exact ⟨(0), rz, H', ⟨Nat.le_refl _⟩, ⟨bz⟩⟩
 case round =>
  clear H'; obtain ⟨x11_1, rfl, HA, HK1, HB⟩ := hrel
  cases gk with
  | zero => exact absurd HA.out (by simp [api_CloudLayer_CheckLayers_1.l0])
  | succ k1 =>
   have H := HA.out; clear HA; simp only [api_CloudLayer_CheckLayers_1.l0] at H
   by_cases c3 : x11_1 < (l0.length : Int)
   ·rw [if_pos c3] at H; have c3b0 := decide_eq_true c3; clear c3
    by_cases c4 : 0 ≤ x11_1
    ·rw [if_pos c4] at H; have c4b0 := decide_eq_true c4; clear c4
     by_cases c5 : x11_1 < (l0.length : Int)
     ·rw [if_pos c5] at H; have c5b0 := decide_eq_true c5; clear c5; replace H := oa H; obtain ⟨t206, A6, H⟩ := H; (try dsimp only at H)
      by_cases c7 : t206 = 0
      ·rw [if_pos c7] at H; have c7b0 := beq_iff_eq.mpr c7; have c7b1 := bne_eq_false_iff_eq.mpr c7; clear c7; have H' := m0 H; clear H; have p204 : 0 ≤ (x11_1 : Int) := od; have q204 : x11_1 < (l0.length : Int) := od; obtain ⟨ad204, e204, hx204_0, hx204_1, hx204_2⟩ := at_T112 HR0.out x11_1 p204 q204
       cases e204
       replace hx204_0 := hc HB hx204_0; replace hx204_1 := hc HB hx204_1; replace hx204_2 := hc HB hx204_2; replace p204 := eq_true p204; replace q204 := eq_true q204
       go_wp2_with (first | ((with_reducible refine ga 7 rfl ?_); refine be 7 112 #[.int .i64 0, .int .i64 0, .int .i64 0] ?_; intro gb205 hg w8 hbox hb; have BK205 := m0 hbox; have GE205 := gw w hg; replace HB := sb HB hb; clear hb hbox hg; obtain ⟨_, _, _, _, _, _⟩ := b3 BK205) | (go_at_call 74; (with_reducible refine (L_CheckLayers_1.calls k1 ((rd_T112 l0 x11_1).f0) ((rd_T112 l0 x11_1).f1) ((rd_T112 l0 x11_1).f2) t206 _ A6.out).mono ?_); rintro e w10 ⟨rfl, hb⟩; replace BK205 := m0 (blk_below (g := gb205) (o := .cells #[.int .i64 ((rd_T112 l0 x11_1).f0), .int .i64 ((rd_T112 l0 x11_1).f1), .int .i64 ((rd_T112 l0 x11_1).f2)] 112 (0, 0)) (bq BK205.out) hb); replace HB := sb HB hb; (try clear hb)))
       go_roundg k1
       case measure => have := HK1.out; omega
       case rel => exact ⟨(wrap64 (x11_1 + 1)), rz, H', ⟨by have := HK1.out; omega⟩, ⟨bz⟩⟩
      ·rw [if_neg c7] at H; have c7b0 := beq_eq_false_iff_ne.mpr c7; have c7b1 := bne_iff_ne.mpr c7; simp only [Option.some.injEq, Prod.mk.injEq] at H; obtain ⟨rfl, rfl⟩ := H; have p204 : 0 ≤ (x11_1 : Int) := od; have q204 : x11_1 < (l0.length : Int) := od; obtain ⟨ad204, e204, hx204_0, hx204_1, hx204_2⟩ := at_T112 HR0.out x11_1 p204 q204
       cases e204
       replace hx204_0 := hc HB hx204_0; replace hx204_1 := hc HB hx204_1; replace hx204_2 := hc HB hx204_2; replace p204 := eq_true p204; replace q204 := eq_true q204
       go_wp2_with (first | ((with_reducible refine ga 7 rfl ?_); refine be 7 112 #[.int .i64 0, .int .i64 0, .int .i64 0] ?_; intro gb205 hg w11 hbox hb; have BK205 := m0 hbox; have GE205 := gw w hg; replace HB := sb HB hb; clear hb hbox hg; obtain ⟨_, _, _, _, _, _⟩ := b3 BK205) | (go_at_call 74; (with_reducible refine (L_CheckLayers_1.calls k1 ((rd_T112 l0 x11_1).f0) ((rd_T112 l0 x11_1).f1) ((rd_T112 l0 x11_1).f2) t206 _ A6.out).mono ?_); rintro e w13 ⟨rfl, hb⟩; replace BK205 := m0 (blk_below (g := gb205) (o := .cells #[.int .i64 ((rd_T112 l0 x11_1).f0), .int .i64 ((rd_T112 l0 x11_1).f1), .int .i64 ((rd_T112 l0 x11_1).f2)] 112 (0, 0)) (bq BK205.out) hb); replace HB := sb HB hb; (try clear hb)))
       go_ret2
       exact ez
     ·rw [if_neg c5] at H; exact absurd H (by simp)
    ·rw [if_neg c4] at H; exact absurd H (by simp)
   ·rw [if_neg c3] at H; have c3b0 := decide_eq_false c3; clear c3; simp only [Option.some.injEq, Prod.mk.injEq] at H; obtain ⟨rfl, rfl⟩ := H
    go_wp2
    go_ret2
    exact ez
end
section
def L_CheckLayers.f (k : Nat) (l0 : List (S112)) : Option (Int × Int) := if (l0.length : Int) > 10 then (some (0, 8)) else ((api_CloudLayer_CheckLayers_1.f k l0).bind fun bt207 => (some (bt207.1, bt207.2)))
theorem L_CheckLayers.mono : ∀ a0 k, LeO (L_CheckLayers.f k a0) (L_CheckLayers.f (k + 1) a0) := by
 intro a0 k; unfold L_CheckLayers.f
 repeat' with_reducible first
  | exact api_CloudLayer_CheckLayers_1.mono ..
  | exact LeO.refl ..
  | exact LeO.none ..
  | refine LeO.ite ?_ ?_
  | refine LeO.bind ?_ (fun _ => ?_)
theorem L_CheckLayers.calls (k : Nat) (A0 : Option Addr) (c0 : Nat) (l0 : List (S112)) (r1 : Int) (r2 : Int) (w : World) (hr0 : Kd.C k112 w A0 l0.length l0) (hc0 : l0.length ≤ c0) (H : L_CheckLayers.f k l0 = some (r1, r2)) :
  Calls Try.prog 22 #[.slice A0 l0.length c0] w fun e w' => e = .returned (.tuple #[.int .i64 r1, .int .i64 r2]) ∧ Below w.heap.size w w' := by
 have HR0 := m0 hr0; have HC0 := m0 hc0; clear hr0 hc0; have HB := m0 (Below.refl w.heap.size w); unfold L_CheckLayers.f at H
 by_cases c2 : (l0.length : Int) > 10
 ·rw [if_pos c2] at H; have c2b0 := decide_eq_true c2; have c2b1 : decide (10 < l0.length) = true := decide_eq_true (by omega); clear c2; simp only [Option.some.injEq, Prod.mk.injEq] at H; obtain ⟨rfl, rfl⟩ := H; go_enter Try.func22, Try.ntmps22
  go_wp2
  go_ret2
  exact ez
 ·rw [if_neg c2] at H; have c2b0 := decide_eq_false c2; have c2b1 : decide (10 < l0.length) = false := decide_eq_false (by omega); clear c2; replace H := oa H; obtain ⟨⟨t207, t208⟩, A3, H⟩ := H; (try dsimp only at H); simp only [Option.some.injEq, Prod.mk.injEq] at H; obtain ⟨rfl, rfl⟩ := H; go_enter Try.func22, Try.ntmps22
  go_wp2_with (first | ((with_reducible refine gc 73 rfl ?_); refine gl (some 8) Try.func73 #[.slice A0 l0.length c0, .func (.func 74) #[] #[]] ?_; (with_reducible refine (api_CloudLayer_CheckLayers_1.calls k _ _ l0  t207 t208 _ ?side1 ?side2 A3.out).mono ?_); (case side1 => repeat (first | exact HR0.out | (with_reducible refine Kd.C_alloc ?_ _) | (with_reducible refine Kd.C_drewN ?_ _) | (with_reducible refine Kd.C_drew ?_))); (case side2 => exact HC0.out); rintro e w4 ⟨rfl, hb⟩; refine ⟨_, rfl, ?_⟩; replace HB := sb HB hb; (try clear hb)))
  go_ret2
  exact ez
end
section
theorem itb_ {A W wr : World} {p : Addr} {v : Value} (hW : Below A.heap.size A W) (hB : Below A.heap.size W wr) (h : A.cell? p = some v) : wr.cell? p = some v :=
 (hB.cell (World.block_lt_of_cell? A _ h)).trans ((hW.cell (World.block_lt_of_cell? A _ h)).trans h)
theorem abides_new_ {β : Type} {J : β → World → Prop} {n : Nat} {s : β} {W : World} {o : Obj} (hA : AbidesFrom n J) (h : J s W) : J s (W.alloc o) := hA s W _ none h (World.grownBy_alloc W o none) (fun r e => by cases e)
theorem itn_ {n : Nat} {W0 W : World} {o : Obj} (h : Below n W0 W) (hn : n ≤ W.heap.size) : Below n W0 (W.alloc o) := h.alloc hn o
theorem L_profile_int.calls_own (A : Option Addr) (n c : Nat) (w : World) :
  Calls Try.prog 115 #[.slice A n c] w fun e w' => ∃ gb, gb = w.heap.size ∧ e = .returned (.func (.func 127) #[] #[.pointer (some ⟨gb, 0, none⟩)]) ∧ w'.heap[gb]? = some (.cells #[.slice A n c] 126 (0, 0)) ∧ Below w.heap.size w w' := by
 go_enter Try.func115, Try.ntmps115
 go_wp2
 go_ret
 exact ⟨_, rfl, rfl, blk_new _ _, below_alloc (Below.refl _ _) _⟩
attribute [local go_sem] Oper.semAt_some
theorem L_profile_int.take_snoc (l : List Int) (x : Int) (h0 : 0 ≤ x) (h1 : x < (l.length : Int)) : l.take (x + 1).toNat = l.take x.toNat ++ [rd l x] := by
 have e : (x + 1).toNat = x.toNat + 1 := by omega
 have h : x.toNat < l.length := by omega
 rw [e, List.take_succ_eq_append_getElem h]
 congr 1
 simp [rd, List.getD_eq_getElem?_getD, List.getElem?_eq_getElem h]
theorem L_profile_int.stops (n : Nat) (hn : 1 ≤ n) (A : Option Addr) (c : Nat) (l : List Int) (B : Nat) (w : World) (hbx : w.heap[B]? = some (.cells #[.slice A l.length c] 126 (0, 0))) (hr : Kd.C (Kd.int .i64) w A l.length l) :
  SeqStopsK Fence.wide n Try.prog 127 #[.pointer (some ⟨B, 0, none⟩)] (fun x_ : Int => (#[(.int .i64 (x_))] : Array Value)) (Below w.heap.size) (fun ys => ys = l) (fun _ => True) l.length w := by
 intro l_ J Jx W hW hJ hJx hY h0; have hcx : W.cell? ⟨B, 0, none⟩ = some (.slice A l.length c) := (blk_cell (blk_below hbx hW) 0).trans rfl; have HL := m0 (show (l.length : Int) ≤ 9223372036854775807 by have := hr.2.1; omega); have HY := m0 hY; have HR := m0 hr; have H0 := m0 h0; have HW := m0 hW; have HJA := m0 hJ; clear hr hbx hY h0 hJ hJx hW; refine callsIn_of_wp Try.func127 rfl trivial ?_ rfl; simp only [Try.ntmps127, List.size_toArray, List.length_cons, List.length_nil, Nat.reduceAdd, Nat.reduceSub, Array.replicate_succ, Array.replicate_zero, List.push_toArray, List.append_toArray, List.nil_append, List.cons_append]
 gi_wp2
 gi_loopw [7] (fun i wr => ∃ x : Int, i = .int .i64 x ∧ Aside0 (0 ≤ x ∧ x ≤ l.length) ∧ Aside0 (J (l.take x.toNat) wr) ∧ Aside0 (Below w.heap.size W wr)) (fun i _ => l.length - (intOf i).toNat)
 case atStart => exact ⟨0, rfl, ⟨by omega, by omega⟩, ⟨H0.out⟩, ⟨Below.refl _ _⟩⟩
 case round =>
  obtain ⟨x, rfl, HX, HJ, HB⟩ := hrel; clear hcx
  by_cases hlt : x < (l.length : Int)
  ·obtain ⟨ad, e, hx0⟩ := Kd.at_int HR.out x HX.out.1 hlt
   cases e
   replace hx0 := itb_ HW.out HB.out hx0; have HLT := m0 hlt; have c1 : decide (x < (l.length : Int)) = true := decide_eq_true hlt; have p1 := eq_true HX.out.1; have q1 := eq_true hlt; clear hlt; obtain ⟨fn, tmps, assign, body, hy, hR⟩ := HY.out (l.take x.toNat) (rd l x) wr HJ.out (by rw [List.length_take]; have := HLT.out; have := HX.out; omega); have HRR := m0 hR; clear hR
   gi_wp2
   refine HRR.out.mono ?_; rintro e W3 (⟨rfl, hJ3, hk3⟩ | ⟨rfl, hJx3⟩)
   ·have HJ3 := m0 hJ3; have HK3 := m0 (show Below w.heap.size W W3 from HB.out.trans hk3); clear hJ3 hk3 hy
    gi_wp2
    go_roundw
    case rel =>
     have h0 := HX.out.1; have h1 := HLT.out; have hL := HL.out; have e1 : wrap64 (x + 1) = x + 1 := by unfold wrap64; omega
     refine ⟨wrap64 (x + 1), rfl, ?_, ?_, HK3⟩
     ·rw [e1]; exact ⟨⟨by omega, by omega⟩⟩
     ·rw [e1, L_profile_int.take_snoc l x h0 h1]; exact HJ3
    case measure =>
     have h0 := HX.out.1; have h1 := HLT.out; have hL := HL.out; have e1 : wrap64 (x + 1) = x + 1 := by unfold wrap64; omega
     simp only [intOf]; rw [e1]; omega
   ·have HJX := m0 hJx3; clear hJx3 hy
    gi_wp2
    refine bodyPost_ret (results_none rfl _ _ _) rfl ?_; exact ⟨⟨_, rfl⟩, .inr ⟨_, trivial, HJX.out⟩⟩
  ·have HN := m0 hlt; have c1 : decide (x < (l.length : Int)) = false := decide_eq_false hlt; clear hlt
   gi_wp2
   go_end0
   have hj := HJ.out; rw [List.take_of_length_le (by have := HN.out; omega)] at hj
   first
    | exact ⟨⟨_, rfl⟩, .inl ⟨_, rfl, hj⟩⟩
    | exact ⟨⟨_, rfl⟩, .inl hj⟩
end
section
theorem api_CloudLayer_77.calls_own (A : Option Addr) (n c : Nat) (w : World) :
  Calls Try.prog 77 #[.slice A n c] w fun e w' => ∃ gb, gb = w.heap.size ∧ e = .returned (.func (.func 111) #[] #[.pointer (some ⟨gb, 0, none⟩)]) ∧ w'.heap[gb]? = some (.cells #[.slice A n c] 40 (0, 0)) ∧ Below w.heap.size w w' := by
 go_enter Try.func77, Try.ntmps77
 go_wp2
 go_ret
 exact ⟨_, rfl, rfl, blk_new _ _, below_alloc (Below.refl _ _) _⟩
attribute [local go_sem] Oper.semAt_some
theorem api_CloudLayer_77.take_snoc (l : List S112) (x : Int) (h0 : 0 ≤ x) (h1 : x < (l.length : Int)) : l.take (x + 1).toNat = l.take x.toNat ++ [rd_T112 l x] := by
 have e : (x + 1).toNat = x.toNat + 1 := by omega
 have h : x.toNat < l.length := by omega
 rw [e, List.take_succ_eq_append_getElem h]
 congr 1
 simp [rd_T112, List.getD_eq_getElem?_getD, List.getElem?_eq_getElem h]
theorem api_CloudLayer_77.stops (n : Nat) (hn : 1 ≤ n) (A : Option Addr) (c : Nat) (l : List S112) (B : Nat) (w : World) (hbx : w.heap[B]? = some (.cells #[.slice A l.length c] 40 (0, 0))) (hr : Kd.C k112 w A l.length l) :
  SeqStopsK Fence.wide n Try.prog 111 #[.pointer (some ⟨B, 0, none⟩)] (fun x_ : S112 => (#[(.agg #[.int .i64 (x_).f0, .int .i64 (x_).f1, .int .i64 (x_).f2])] : Array Value)) (Below w.heap.size) (fun ys => ys = l) (fun _ => True) l.length w := by
 intro l_ J Jx W hW hJ hJx hY h0; have hcx : W.cell? ⟨B, 0, none⟩ = some (.slice A l.length c) := (blk_cell (blk_below hbx hW) 0).trans rfl; have HL := m0 (show (l.length : Int) ≤ 9223372036854775807 by have := hr.2.1; omega); have HY := m0 hY; have HR := m0 hr; have H0 := m0 h0; have HW := m0 hW; have HJA := m0 hJ; clear hr hbx hY h0 hJ hJx hW; refine callsIn_of_wp Try.func111 rfl trivial ?_ rfl; simp only [Try.ntmps111, List.size_toArray, List.length_cons, List.length_nil, Nat.reduceAdd, Nat.reduceSub, Array.replicate_succ, Array.replicate_zero, List.push_toArray, List.append_toArray, List.nil_append, List.cons_append]
 gi_wp2
 gi_loopw [7] (fun i wr => ∃ x : Int, i = .int .i64 x ∧ Aside0 (0 ≤ x ∧ x ≤ l.length) ∧ Aside0 (J (l.take x.toNat) wr) ∧ Aside0 (Below w.heap.size W wr)) (fun i _ => l.length - (intOf i).toNat)
 case atStart => exact ⟨0, rfl, ⟨by omega, by omega⟩, ⟨H0.out⟩, ⟨Below.refl _ _⟩⟩
 case round =>
  obtain ⟨x, rfl, HX, HJ, HB⟩ := hrel; clear hcx
  by_cases hlt : x < (l.length : Int)
  ·obtain ⟨ad, e, hx0, hx1, hx2⟩ := at_T112 HR.out x HX.out.1 hlt
   cases e
   replace hx0 := itb_ HW.out HB.out hx0; replace hx1 := itb_ HW.out HB.out hx1; replace hx2 := itb_ HW.out HB.out hx2; have HLT := m0 hlt; have c1 : decide (x < (l.length : Int)) = true := decide_eq_true hlt; have p1 := eq_true HX.out.1; have q1 := eq_true hlt; clear hlt; obtain ⟨fn, tmps, assign, body, hy, hR⟩ := HY.out (l.take x.toNat) (rd_T112 l x) (wr.alloc (.cells #[.int .i64 (rd_T112 l x).f0, .int .i64 (rd_T112 l x).f1, .int .i64 (rd_T112 l x).f2] 112)) (abides_new_ HJA.out HJ.out) (by rw [List.length_take]; have := HLT.out; have := HX.out; omega); have HRR := m0 hR; clear hR
   gi_wp2
   refine HRR.out.mono ?_; rintro e W3 (⟨rfl, hJ3, hk3⟩ | ⟨rfl, hJx3⟩)
   ·have HJ3 := m0 hJ3; have HK3 := m0 (show Below w.heap.size W W3 from (itn_ HB.out (Nat.le_trans HW.out.size HB.out.size)).trans hk3); clear hJ3 hk3 hy
    gi_wp2
    go_roundw
    case rel =>
     have h0 := HX.out.1; have h1 := HLT.out; have hL := HL.out; have e1 : wrap64 (x + 1) = x + 1 := by unfold wrap64; omega
     refine ⟨wrap64 (x + 1), rfl, ?_, ?_, HK3⟩
     ·rw [e1]; exact ⟨⟨by omega, by omega⟩⟩
     ·rw [e1, api_CloudLayer_77.take_snoc l x h0 h1]; exact HJ3
    case measure =>
     have h0 := HX.out.1; have h1 := HLT.out; have hL := HL.out; have e1 : wrap64 (x + 1) = x + 1 := by unfold wrap64; omega
     simp only [intOf]; rw [e1]; omega
   ·have HJX := m0 hJx3; clear hJx3 hy
    gi_wp2
    refine bodyPost_ret (results_none rfl _ _ _) rfl ?_; exact ⟨⟨_, rfl⟩, .inr ⟨_, trivial, HJX.out⟩⟩
  ·have HN := m0 hlt; have c1 : decide (x < (l.length : Int)) = false := decide_eq_false hlt; clear hlt
   gi_wp2
   go_end0
   have hj := HJ.out; rw [List.take_of_length_le (by have := HN.out; omega)] at hj
   first
    | exact ⟨⟨_, rfl⟩, .inl ⟨_, rfl, hj⟩⟩
    | exact ⟨⟨_, rfl⟩, .inl hj⟩
end
section
theorem blk_own_ {W W' : World} {row : Option Nat} {B g : Nat} {cs : Array Value} {t : TypeId} {mk : Nat × Nat} (h : W.heap[g]? = some (.cells cs t mk)) (hg : W.grownBy W' row) (hr : ∀ r, row = some r → B ≤ r ∧ ∃ o : Obj, W.heap[r]? = some o ∧ o.isCells = false) : W'.heap[g]? = some (.cells cs t mk) := by
  refine (hg.block g (blk_lt h) fun e => ?_).trans h; obtain ⟨_, o, ho, hc⟩ := hr g e.symm; rw [h] at ho
  cases ho
  cases hc
theorem cells_new_ (W : World) (cs : List Value) (e : TypeId) (j : Nat) (u : Value) (h : cs[j]? = some u) : (W.alloc (.cells cs.toArray e)).cell? ((⟨W.heap.size, 0, none⟩ : Addr).add j) = some u := by
  rw [add_plain]; refine (blk_cell (blk_new W (.cells cs.toArray e (0, 0))) j).trans ?_
  simpa using h
theorem row_cells_ {W : World} {base : Nat} {e : TypeId} {size : Nat} {v : Value} {k : Nat} {xs : List Value} (h : W.ownsRow base e size v k xs) (j : Nat) (o : Obj) (hj : v.ownBlock = some j) (ho : W.heap[j]? = some o) : o.isCells = true := by
  rcases h.2 with ⟨rfl, _⟩ | ⟨g, cap, cur, rfl, hb, hgb, _⟩
  · simp [Value.ownBlock] at hj
  · obtain rfl : g = j := by simpa [Value.ownBlock] using hj
    rw [hgb] at ho; cases ho; rfl
theorem row_turned_ {W W' : World} {row : Option Nat} {base : Nat} {e : TypeId} {size : Nat} {v : Value} {k : Nat} {xs : List Value} (h : W.ownsRow base e size v k xs) (hg : W.grownBy W' row)
    (hrow : ∀ r, row = some r → ∃ o : Obj, W.heap[r]? = some o ∧ o.isCells = false) : W'.ownsRow base e size v k xs := by
  refine h.kept hg ?_
  rcases h.2 with ⟨rfl, _⟩ | ⟨g, cap, cur, rfl, _, hgb, _⟩
  · exact .inl rfl
  · refine .inr fun e' => ?_; obtain ⟨o, ho, hw⟩ := hrow g (by simpa [Value.ownBlock] using e'.symm); rw [hgb] at ho; cases ho; cases hw
theorem row_far_ {W : World} {base : Nat} {e t : TypeId} {size : Nat} {v : Value} {k : Nat} {xs : List Value} {b : Nat} {cs : Array Value} (u : Value) (h : W.ownsRow base e size v k xs) (hb : W.heap[b]? = some (.cells cs t (0, 0))) (hne : e ≠ t) : (W.setCell ⟨b, 0, none⟩ u).ownsRow base e size v k xs := by
  refine h.kept (row := some b) (by
    have hs : (W.setCell ⟨b, 0, none⟩ u).heap.size = W.heap.size := by simp [World.setCell]
    exact ⟨rfl, rfl, rfl, Nat.le_of_eq hs.symm, fun k hk hne => Below.heap_setCell W ⟨b, 0, none⟩ u k (fun e => hne (by rw [e]))⟩) ?_
  rcases h.2 with ⟨rfl, _⟩ | ⟨g, cap, cur, rfl, _, hgb, _⟩
  · exact .inl rfl
  · refine .inr fun e' => ?_; obtain rfl : g = b := by simpa [Value.ownBlock] using e'
    rw [hgb] at hb
    injection hb with hb
    injection hb with _ hb
    exact hne hb
theorem row_ne_ {W : World} {base : Nat} {e t : TypeId} {size : Nat} {v : Value} {k : Nat} {xs : List Value} {b : Nat} {cs : Array Value} (h : W.ownsRow base e size v k xs) (hb : W.heap[b]? = some (.cells cs t (0, 0))) (hne : e ≠ t) : some b ≠ v.ownBlock := by
  rcases h.2 with ⟨rfl, _⟩ | ⟨g, cap, cur, rfl, _, hgb, _⟩
  · simp [Value.ownBlock]
  · intro e'; obtain rfl : b = g := by simpa [Value.ownBlock] using e'
    rw [hgb] at hb
    injection hb with hb
    injection hb with _ hb
    exact hne hb
theorem row_base_ {W : World} {base : Nat} {e : TypeId} {size : Nat} {v : Value} {k : Nat} {xs : List Value} (h : W.ownsRow base e size v k xs) (j : Nat) (hj : v.ownBlock = some j) : base ≤ j := by
  rcases h.2 with ⟨rfl, _⟩ | ⟨g, cap, cur, rfl, hb, hgb, _⟩
  · simp [Value.ownBlock] at hj
  · obtain rfl : g = j := by simpa [Value.ownBlock] using hj
    exact hb
attribute [local go_sem] Oper.semAt_some
def slices_AppendSeq_int_int.I (w : World) (pre : List Int) (W : World) : Prop := ∃ (v : Value) (cs : List Value), W.heap[w.heap.size]? = some (.cells #[v] 41 (0, 0)) ∧ W.ownsRow w.heap.size 3 1 v pre.length cs ∧ (∀ (U : World) (ok : Nat → Prop), Reps (((Kd.int .i64)).M U w.heap.size ok) 1 pre cs)
theorem slices_AppendSeq_int_int.calls_own (gf : Nat) (lb : Array Value) (eg : ∀ args w, (callFunc gf args).run Try.prog w = .ok (.enter gf args) w) (l : List Int) (n₀ : Nat) (w : World) (hn : n₀ ≤ w.heap.size) (hN : l.length * 8 ≤ 140737488355328)
    (hseq : SeqStopsK Fence.wide 8 Try.prog gf lb (fun x_ : Int => (#[(.int .i64 (x_))] : Array Value)) (Below n₀) (fun ys => ys = l) (fun _ => True) l.length w) :
    Calls Try.prog 126 #[.slice none 0 0, .func (.func gf) #[] lb] w fun e w' => ∃ v, e = .returned v ∧ Kd.R (Kd.int .i64) 3 w' w.heap.size (fun _ => True) v l ∧ Below w.heap.size w w' := by
  refine (callsIn_wide (n := 9)).1 (callsIn_of_wp_marks Try.func126 rfl trivial ?_ rfl); simp only [Try.ntmps126, List.size_toArray, List.length_cons, List.length_nil, Nat.reduceAdd, Nat.reduceSub, Array.replicate_succ, Array.replicate_zero, List.push_toArray, List.append_toArray, List.nil_append, List.cons_append]; have HS := m0 hseq; have HN := m0 hN; clear hseq hN
  gi_wp2
  obtain ⟨W0, hW0⟩ : ∃ W0, w.alloc (.cells #[.slice none 0 0] 41) = W0 := ⟨_, rfl⟩; have hz : W0.heap.size = w.heap.size + 1 := by rw [← hW0]; simp
  have hb0 : Below w.heap.size w W0 := by rw [← hW0]; exact below_alloc (Below.refl _ _) _
  have hk0 : W0.heap[w.heap.size]? = some (.cells #[.slice none 0 0] 41 (0, 0)) := by rw [← hW0]; exact blk_new _ _
  rw [hW0]; clear hW0; have HZ := m0 hz; have HB0 := m0 hb0; obtain ⟨i0, hi, hz0, hz1, hz2⟩ := info_parts info3; refine wpIn_rangeFunc_ownH (n := 9) rfl (by decide) (gf := gf) (lb := lb) rfl trivial eg HS.out (fun h k => belowK_t h k) (fun W l o o' hl h hc hw => belowK_b (w := W0) (by omega) W l o o' hl h hc hw) hb0 (fun _ => rfl)
    (fun pre W => slices_AppendSeq_int_int.I w pre W ∧ Below w.heap.size w W) (fun _ _ _ => False)
    (OwnFrom.and (fun s A B row hs hg hr => by
      obtain ⟨v, cs, h1, h2, h3⟩ := hs; exact ⟨v, cs, blk_own_ h1 hg hr, row_turned_ h2 hg (fun r e => (hr r e).2), h3⟩) (ownFrom_below (Nat.le_refl _) (by omega)))
    (fun _ _ _ _ _ hs _ _ => hs) ⟨⟨_, [], hk0, ⟨rfl, .inl ⟨rfl, rfl⟩⟩, fun _ _ => Reps.none _ _⟩, hb0⟩
    (fun x a' W => a' = ({ tmps := #[.slice none 0 0, .func (.func gf) #[] lb, .pointer (some ⟨w.heap.size, 0, none⟩), undef, .slice none 0 0, (.int .i64 (x)), .func (.func gf) #[] lb, (.int .i64 (x)), undef, undef, undef, undef, undef], defers := [] } : Act)) (fun x a' => fun _ _ _ _ hs _ _ => hs) ?assign ?body ?done ?stop
  case stop =>
    rintro D c pre W _ _ h _; exact h.elim
  case assign =>
    rintro l_ pre x W K ⟨⟨v, cs, h1, h2, h3⟩, hB⟩ hK; have HKK := m0 hK; have HI := m0 (show slices_AppendSeq_int_int.I w pre W ∧ Below w.heap.size w W from ⟨⟨v, cs, h1, h2, h3⟩, hB⟩); clear hK h1 h2 h3 hB
    gi_wp2
    exact HKK.out _ _ (KeepsFrom.refl _ _) (Below.refl _ _) HI.out rfl
  case body =>
    rintro l_ pre x a' W hl hrec ⟨⟨v, cs, h1, h2, h3⟩, hB⟩ rfl hlen; have hcv : W.cell? ⟨w.heap.size, 0, none⟩ = some v := (blk_cell h1 0).trans rfl; have hfv := blk_frozen h1 0; have hlr : cs.length = pre.length * 1 := h2.1; have hnl := HN.out; have hsz := hB.size; have H1 := m0 h1; have H3 := m0 h3; have HBB := m0 hB; have HLEN := m0 hlen; clear h1 h3 hB hl hrec hlen hnl hlr
    gi_wp2_with (first
      | (gi_at_builtin; refine wpListIn_append_own _ rfl _ _ 41 rfl w.heap.size 3 i0 (.int .i64 0) 1 8 Try.underlying41 hi hz0 hz1 hz2 rfl (by decide) v pre.length cs rfl (h2.alloc _) ⟨W.heap.size, 0, none⟩ 1 1 [.int .i64 (x)] rfl rfl (cells_new_ W _ 3) (by simp [Value.oneCell']) (by have := HLEN.out; have := HN.out; unfold maxLen; omega) (by have := HLEN.out; have := HN.out; omega) (by simp; omega) ?_; intro v' w3 hown' hg3 hnil3
         have hv3 : w3.heap[w.heap.size]? = some (.cells #[v] 41 (0, 0)) := (hg3.block _ (by simp; have := blk_lt H1.out; omega) (row_ne_ h2 H1.out (by decide))).trans (blk_alloc H1.out _); have hcv3 : w3.cell? ⟨w.heap.size, 0, none⟩ = some v := (blk_cell hv3 0).trans rfl; have hfv3 := blk_frozen hv3 0; obtain ⟨g', cap', cur', rfl, hbase', hgb', hr1, hr2, hr3, hr4⟩ : ∃ g' cap' cur', v' = .slice (some ⟨g', 0, none⟩) (pre.length + 1) cap' ∧ w.heap.size ≤ g' ∧ w3.heap[g']? = some (.cells cur' 3 (0, 0)) ∧ pre.length + 1 ≤ cap' ∧ cap' ≤ maxLen ∧ cur'.size = cap' * 1 ∧ cur'.toList.take ((pre.length + 1) * 1) = cs ++ [.int .i64 (x)] := by
           rcases hown'.2 with ⟨_, h0⟩ | h'
           · exact absurd h0 (by omega)
           · exact h'
         have HV3 := m0 hv3; have HOWN := m0 hown'; have HG3 := m0 hg3; clear hv3 hown' hg3 hnil3 hbase' hgb' hr1 hr2 hr3 hr4))
    have hgA : W.grownBy (W.alloc (.cells ([.int .i64 (x)] : List Value).toArray 3)) none := World.grownBy_alloc W _ none; have hbA : Below w.heap.size W (W.alloc (.cells ([.int .i64 (x)] : List Value).toArray 3)) := (Below.refl _ _).alloc hsz _; have hb3 : Below w.heap.size W w3 := hbA.grown HG3.out (by simp; omega) (fun k e => row_base_ h2 k e); have hb4 := hb3.setCell (p := ⟨w.heap.size, 0, none⟩) (Nat.le_refl _) (.slice (some ⟨g', 0, none⟩) (pre.length + 1) cap'); refine ⟨((((KeepsOthers.alloc W (.cells ([.int .i64 (x)] : List Value).toArray 3)).trans (KeepsOthers.of_grownBy HG3.out (row_cells_ (h2.alloc _)))).trans (KeepsOthers.setCell _ _ _)).from _), hb4.mono hn, ⟨.slice (some ⟨g', 0, none⟩) (pre.length + 1) cap', cs ++ [.int .i64 (x)], ?_, ?_, ?_⟩, HBB.out.trans hb4⟩
    · exact blk_put HV3.out 0 _ rfl
    · have := row_far_ (.slice (some ⟨g', 0, none⟩) (pre.length + 1) cap') HOWN.out HV3.out (by decide)
      simpa using this
    · intro U ok; exact Reps.snoc (H3.out U ok) (rfl) rfl
  case done =>
    rintro D ys W hD rfl ⟨⟨v, cs, h1, h2, h3⟩, hB⟩ hK; have hcv : W.cell? ⟨w.heap.size, 0, none⟩ = some v := (blk_cell h1 0).trans rfl; have hfv := blk_frozen h1 0; have H1 := m0 h1; have H2 := m0 h2; have H3 := m0 h3; have HBB := m0 hB; clear h1 h2 h3 hB
    gi_wp2
    refine ⟨by simp, .inl ⟨_, _, rfl, run_takeDeferred hK, ?_⟩⟩; have hgD := grownBy_putObj' W D (.deferred none); refine ⟨_, results_tmp rfl _ _ _, v, rfl, ⟨fun _ _ => trivial, cs, row_turned_ H2.out hgD (fun r e => by cases e; exact ⟨_, hK, rfl⟩), H3.out _ _⟩, HBB.out.grown hgD HBB.out.size (fun k e => by cases e; omega)⟩
end
section
attribute [local go_sem] Oper.semAt_some
def api_CloudLayer_124.I (w : World) (pre : List S112) (W : World) : Prop := ∃ (v : Value) (cs : List Value), W.heap[w.heap.size]? = some (.cells #[v] 40 (0, 0)) ∧ W.ownsRow w.heap.size 112 3 v pre.length cs ∧ (∀ (U : World) (ok : Nat → Prop), Reps ((k112).M U w.heap.size ok) 3 pre cs)
theorem api_CloudLayer_124.calls_own (gf : Nat) (lb : Array Value) (eg : ∀ args w, (callFunc gf args).run Try.prog w = .ok (.enter gf args) w) (l : List S112) (n₀ : Nat) (w : World) (hn : n₀ ≤ w.heap.size) (hN : l.length * 24 ≤ 140737488355328)
    (hseq : SeqStopsK Fence.wide 8 Try.prog gf lb (fun x_ : S112 => (#[(.agg #[.int .i64 (x_).f0, .int .i64 (x_).f1, .int .i64 (x_).f2])] : Array Value)) (Below n₀) (fun ys => ys = l) (fun _ => True) l.length w) :
    Calls Try.prog 124 #[.slice none 0 0, .func (.func gf) #[] lb] w fun e w' => ∃ v, e = .returned v ∧ Kd.R k112 112 w' w.heap.size (fun _ => True) v l ∧ Below w.heap.size w w' := by
  refine (callsIn_wide (n := 9)).1 (callsIn_of_wp_marks Try.func124 rfl trivial ?_ rfl); simp only [Try.ntmps124, List.size_toArray, List.length_cons, List.length_nil, Nat.reduceAdd, Nat.reduceSub, Array.replicate_succ, Array.replicate_zero, List.push_toArray, List.append_toArray, List.nil_append, List.cons_append]; have HS := m0 hseq; have HN := m0 hN; clear hseq hN
  gi_wp2
  obtain ⟨W0, hW0⟩ : ∃ W0, w.alloc (.cells #[.slice none 0 0] 40) = W0 := ⟨_, rfl⟩; have hz : W0.heap.size = w.heap.size + 1 := by rw [← hW0]; simp
  have hb0 : Below w.heap.size w W0 := by rw [← hW0]; exact below_alloc (Below.refl _ _) _
  have hk0 : W0.heap[w.heap.size]? = some (.cells #[.slice none 0 0] 40 (0, 0)) := by rw [← hW0]; exact blk_new _ _
  rw [hW0]; clear hW0; have HZ := m0 hz; have HB0 := m0 hb0; obtain ⟨i0, hi, hz0, hz1, hz2⟩ := info_parts info112; refine wpIn_rangeFunc_ownH (n := 9) rfl (by decide) (gf := gf) (lb := lb) rfl trivial eg HS.out (fun h k => belowK_t h k) (fun W l o o' hl h hc hw => belowK_b (w := W0) (by omega) W l o o' hl h hc hw) hb0 (fun _ => rfl)
    (fun pre W => api_CloudLayer_124.I w pre W ∧ Below w.heap.size w W) (fun _ _ _ => False)
    (OwnFrom.and (fun s A B row hs hg hr => by
      obtain ⟨v, cs, h1, h2, h3⟩ := hs; exact ⟨v, cs, blk_own_ h1 hg hr, row_turned_ h2 hg (fun r e => (hr r e).2), h3⟩) (ownFrom_below (Nat.le_refl _) (by omega)))
    (fun _ _ _ _ _ hs _ _ => hs) ⟨⟨_, [], hk0, ⟨rfl, .inl ⟨rfl, rfl⟩⟩, fun _ _ => Reps.none _ _⟩, hb0⟩
    (fun x a' W => ∃ gx : Nat, a' = ({ tmps := #[.slice none 0 0, .func (.func gf) #[] lb, .pointer (some ⟨w.heap.size, 0, none⟩), undef, .slice none 0 0, .pointer (some ⟨gx, 0, none⟩), .func (.func gf) #[] lb, (.agg #[.int .i64 (x).f0, .int .i64 (x).f1, .int .i64 (x).f2]), undef, undef, undef, undef, undef], defers := [] } : Act) ∧ W.heap[gx]? = some (.cells #[.int .i64 x.f0, .int .i64 x.f1, .int .i64 x.f2] 112 (0, 0))) (fun x a' => fun _ A B row hs hg hr => by obtain ⟨gx, h1, h2⟩ := hs; exact ⟨gx, h1, blk_own_ h2 hg hr⟩) ?assign ?body ?done ?stop
  case stop =>
    rintro D c pre W _ _ h _; exact h.elim
  case assign =>
    rintro l_ pre x W K ⟨⟨v, cs, h1, h2, h3⟩, hB⟩ hK; have HKK := m0 hK; have HI := m0 (show api_CloudLayer_124.I w pre W ∧ Below w.heap.size w W from ⟨⟨v, cs, h1, h2, h3⟩, hB⟩); clear hK h1 h2 h3 hB
    gi_wp2
    obtain ⟨⟨v, cs, h1, h2, h3⟩, hB⟩ := HI.out; exact HKK.out _ _ ((KeepsOthers.alloc _ _).from _) ((Below.refl _ _).alloc (Nat.le_trans hn hB.size) _) ⟨⟨v, cs, blk_alloc h1 _, h2.alloc _, h3⟩, hB.alloc hB.size _⟩ ⟨_, rfl, blk_new _ _⟩
  case body =>
    rintro l_ pre x a' W hl hrec ⟨⟨v, cs, h1, h2, h3⟩, hB⟩ ⟨gx, rfl, hx⟩ hlen; have hcv : W.cell? ⟨w.heap.size, 0, none⟩ = some v := (blk_cell h1 0).trans rfl; have hfv := blk_frozen h1 0; have hlr : cs.length = pre.length * 3 := h2.1; have hnl := HN.out; have hsz := hB.size; have H1 := m0 h1; have H3 := m0 h3; have HBB := m0 hB; have HLEN := m0 hlen; clear h1 h3 hB hl hrec hlen hnl hlr; have hx0 : W.cell? ⟨gx, 0, none⟩ = some (.int .i64 x.f0) := (blk_cell hx 0).trans rfl; have hx1 : W.cell? ⟨gx, 1, none⟩ = some (.int .i64 x.f1) := (blk_cell hx 1).trans rfl; have hx2 : W.cell? ⟨gx, 2, none⟩ = some (.int .i64 x.f2) := (blk_cell hx 2).trans rfl; clear hx
    gi_wp2_with (first
      | (gi_at_builtin; refine wpListIn_append_own _ rfl _ _ 40 rfl w.heap.size 112 i0 (.agg #[(.int .i64 0), (.int .i64 0), (.int .i64 0)]) 3 24 Try.underlying40 hi hz0 hz1 hz2 rfl (by decide) v pre.length cs rfl (h2.alloc _) ⟨W.heap.size, 0, none⟩ 1 1 [.int .i64 (x).f0, .int .i64 (x).f1, .int .i64 (x).f2] rfl rfl (cells_new_ W _ 112) (by simp [Value.oneCell']) (by have := HLEN.out; have := HN.out; unfold maxLen; omega) (by have := HLEN.out; have := HN.out; omega) (by simp; omega) ?_; intro v' w3 hown' hg3 hnil3
         have hv3 : w3.heap[w.heap.size]? = some (.cells #[v] 40 (0, 0)) := (hg3.block _ (by simp; have := blk_lt H1.out; omega) (row_ne_ h2 H1.out (by decide))).trans (blk_alloc H1.out _); have hcv3 : w3.cell? ⟨w.heap.size, 0, none⟩ = some v := (blk_cell hv3 0).trans rfl; have hfv3 := blk_frozen hv3 0; obtain ⟨g', cap', cur', rfl, hbase', hgb', hr1, hr2, hr3, hr4⟩ : ∃ g' cap' cur', v' = .slice (some ⟨g', 0, none⟩) (pre.length + 1) cap' ∧ w.heap.size ≤ g' ∧ w3.heap[g']? = some (.cells cur' 112 (0, 0)) ∧ pre.length + 1 ≤ cap' ∧ cap' ≤ maxLen ∧ cur'.size = cap' * 3 ∧ cur'.toList.take ((pre.length + 1) * 3) = cs ++ [.int .i64 (x).f0, .int .i64 (x).f1, .int .i64 (x).f2] := by
           rcases hown'.2 with ⟨_, h0⟩ | h'
           · exact absurd h0 (by omega)
           · exact h'
         have HV3 := m0 hv3; have HOWN := m0 hown'; have HG3 := m0 hg3; clear hv3 hown' hg3 hnil3 hbase' hgb' hr1 hr2 hr3 hr4))
    have hgA : W.grownBy (W.alloc (.cells ([.int .i64 (x).f0, .int .i64 (x).f1, .int .i64 (x).f2] : List Value).toArray 112)) none := World.grownBy_alloc W _ none; have hbA : Below w.heap.size W (W.alloc (.cells ([.int .i64 (x).f0, .int .i64 (x).f1, .int .i64 (x).f2] : List Value).toArray 112)) := (Below.refl _ _).alloc hsz _; have hb3 : Below w.heap.size W w3 := hbA.grown HG3.out (by simp; omega) (fun k e => row_base_ h2 k e); have hb4 := hb3.setCell (p := ⟨w.heap.size, 0, none⟩) (Nat.le_refl _) (.slice (some ⟨g', 0, none⟩) (pre.length + 1) cap'); refine ⟨((((KeepsOthers.alloc W (.cells ([.int .i64 (x).f0, .int .i64 (x).f1, .int .i64 (x).f2] : List Value).toArray 112)).trans (KeepsOthers.of_grownBy HG3.out (row_cells_ (h2.alloc _)))).trans (KeepsOthers.setCell _ _ _)).from _), hb4.mono hn, ⟨.slice (some ⟨g', 0, none⟩) (pre.length + 1) cap', cs ++ [.int .i64 (x).f0, .int .i64 (x).f1, .int .i64 (x).f2], ?_, ?_, ?_⟩, HBB.out.trans hb4⟩
    · exact blk_put HV3.out 0 _ rfl
    · have := row_far_ (.slice (some ⟨g', 0, none⟩) (pre.length + 1) cap') HOWN.out HV3.out (by decide)
      simpa using this
    · intro U ok; exact Reps.snoc (H3.out U ok) (k112_mkM _ _ _ _) rfl
  case done =>
    rintro D ys W hD rfl ⟨⟨v, cs, h1, h2, h3⟩, hB⟩ hK; have hcv : W.cell? ⟨w.heap.size, 0, none⟩ = some v := (blk_cell h1 0).trans rfl; have hfv := blk_frozen h1 0; have H1 := m0 h1; have H2 := m0 h2; have H3 := m0 h3; have HBB := m0 hB; clear h1 h2 h3 hB
    gi_wp2
    refine ⟨by simp, .inl ⟨_, _, rfl, run_takeDeferred hK, ?_⟩⟩; have hgD := grownBy_putObj' W D (.deferred none); refine ⟨_, results_tmp rfl _ _ _, v, rfl, ⟨fun _ _ => trivial, cs, row_turned_ H2.out hgD (fun r e => by cases e; exact ⟨_, hK, rfl⟩), H3.out _ _⟩, HBB.out.grown hgD HBB.out.size (fun k e => by cases e; omega)⟩
end
section
theorem api_CloudLayer_109.calls_own (gf : Nat) (lb : Array Value) (eg : ∀ args w, (callFunc gf args).run Try.prog w = .ok (.enter gf args) w) (l : List S112) (n₀ : Nat) (w : World) (hn : n₀ ≤ w.heap.size) (hN : l.length * 24 ≤ 140737488355328)
  (hseq : SeqStopsK Fence.wide 8 Try.prog gf lb (fun x_ : S112 => (#[(.agg #[.int .i64 (x_).f0, .int .i64 (x_).f1, .int .i64 (x_).f2])] : Array Value)) (Below n₀) (fun ys => ys = l) (fun _ => True) l.length w) :
  Calls Try.prog 109 #[.func (.func gf) #[] lb] w fun e w' => ∃ v, e = .returned v ∧ Kd.R k112 112 w' w.heap.size (fun _ => True) v l ∧ Below w.heap.size w w' := by
 have HC := m0 (api_CloudLayer_124.calls_own gf lb eg l n₀ w hn hN hseq); clear hseq hn hN eg; go_enter Try.func109, Try.ntmps109
 go_wp2_with (first | (go_at_call 124; refine HC.out.mono ?_; rintro e w1 ⟨v, rfl, ho, hb⟩; have HO := m0 ho; have HB := m0 hb; clear ho hb))
 go_ret
 exact ⟨v, rfl, HO.out, HB.out⟩
end
section
def cmp_isNaN_int.f (a0 : Int) : Option (Bool) := some (a0 != a0)
theorem cmp_isNaN_int.calls (a0 : Int) (r : Bool) (w : World) (H : cmp_isNaN_int.f a0 = some r) :
  Calls Try.prog 112 #[.int .i64 a0] w fun e w' => e = .returned (.bool r) ∧ Drawn0 w w' := by
 unfold cmp_isNaN_int.f at H; obtain rfl := Option.some.inj H; go_enter Try.func112, Try.ntmps112
 go_wp2
 go_ret
 exact ⟨rz, by repeat (first | exact Drawn0.refl _ | apply Drawn0.step)⟩
end
section
def cmp_Compare_int.f (a0 : Int) (a1 : Int) : Option (Int) := (cmp_isNaN_int.f a0).bind fun t209 => ((cmp_isNaN_int.f a1).bind fun t210 => (if t209 = true then (if t210 = true then (some 0) else (some (-1))) else (if t210 = true then (some 1) else (if a0 < a1 then (some (-1)) else (if a0 > a1 then (some 1) else (some 0))))))
theorem cmp_Compare_int.calls (a0 : Int) (a1 : Int) (r : Int) (w : World) (H : cmp_Compare_int.f a0 a1 = some r) :
  Calls Try.prog 79 #[.int .i64 a0, .int .i64 a1] w fun e w' => e = .returned (.int .i64 r) ∧ Drawn0 w w' := by
 unfold cmp_Compare_int.f at H; replace H := oa H; obtain ⟨t209, A3, H⟩ := H; (try dsimp only at H); replace H := oa H; obtain ⟨t210, A4, H⟩ := H; (try dsimp only at H)
 by_cases c5 : t209 = true
 ·subst c5; rw [if_pos rfl] at H
  by_cases c6 : t210 = true
  ·subst c6; rw [if_pos rfl] at H; obtain rfl := Option.some.inj H; go_enter Try.func79, Try.ntmps79
   go_wp2_with (first | ((with_reducible refine gc 112 rfl ?_); refine gl (some 8) Try.func112 #[.int .i64 a0] ?_; (with_reducible refine (cmp_isNaN_int.calls a0 true _ A3.out).mono ?_); rintro e w' ⟨rfl, ⟨nd, rfl⟩⟩; refine ⟨_, rfl, ?_⟩) | ((with_reducible refine gc 112 rfl ?_); refine gl (some 10) Try.func112 #[.int .i64 a1] ?_; (with_reducible refine (cmp_isNaN_int.calls a1 true _ A4.out).mono ?_); rintro e w' ⟨rfl, ⟨nd, rfl⟩⟩; refine ⟨_, rfl, ?_⟩))
   go_ret
   exact ⟨rz, by repeat (first | exact Drawn0.refl _ | apply Drawn0.step)⟩
  ·replace c6 := Bool.eq_false_iff.mpr c6; subst c6; rw [if_neg (show ¬ (false = true) by decide)] at H; obtain rfl := Option.some.inj H; go_enter Try.func79, Try.ntmps79
   go_wp2_with (first | ((with_reducible refine gc 112 rfl ?_); refine gl (some 8) Try.func112 #[.int .i64 a0] ?_; (with_reducible refine (cmp_isNaN_int.calls a0 true _ A3.out).mono ?_); rintro e w' ⟨rfl, ⟨nd, rfl⟩⟩; refine ⟨_, rfl, ?_⟩) | ((with_reducible refine gc 112 rfl ?_); refine gl (some 10) Try.func112 #[.int .i64 a1] ?_; (with_reducible refine (cmp_isNaN_int.calls a1 false _ A4.out).mono ?_); rintro e w' ⟨rfl, ⟨nd, rfl⟩⟩; refine ⟨_, rfl, ?_⟩))
   go_ret
   exact ⟨rz, by repeat (first | exact Drawn0.refl _ | apply Drawn0.step)⟩
 ·replace c5 := Bool.eq_false_iff.mpr c5; subst c5; rw [if_neg (show ¬ (false = true) by decide)] at H
  by_cases c7 : t210 = true
  ·subst c7; rw [if_pos rfl] at H; obtain rfl := Option.some.inj H; go_enter Try.func79, Try.ntmps79
   go_wp2_with (first | ((with_reducible refine gc 112 rfl ?_); refine gl (some 8) Try.func112 #[.int .i64 a0] ?_; (with_reducible refine (cmp_isNaN_int.calls a0 false _ A3.out).mono ?_); rintro e w' ⟨rfl, ⟨nd, rfl⟩⟩; refine ⟨_, rfl, ?_⟩) | ((with_reducible refine gc 112 rfl ?_); refine gl (some 10) Try.func112 #[.int .i64 a1] ?_; (with_reducible refine (cmp_isNaN_int.calls a1 true _ A4.out).mono ?_); rintro e w' ⟨rfl, ⟨nd, rfl⟩⟩; refine ⟨_, rfl, ?_⟩))
   go_ret
   exact ⟨rz, by repeat (first | exact Drawn0.refl _ | apply Drawn0.step)⟩
  ·replace c7 := Bool.eq_false_iff.mpr c7; subst c7; rw [if_neg (show ¬ (false = true) by decide)] at H
   by_cases c8 : a0 < a1
   ·rw [if_pos c8] at H; have c8b0 := decide_eq_true c8; clear c8; obtain rfl := Option.some.inj H; go_enter Try.func79, Try.ntmps79
    go_wp2_with (first | ((with_reducible refine gc 112 rfl ?_); refine gl (some 8) Try.func112 #[.int .i64 a0] ?_; (with_reducible refine (cmp_isNaN_int.calls a0 false _ A3.out).mono ?_); rintro e w' ⟨rfl, ⟨nd, rfl⟩⟩; refine ⟨_, rfl, ?_⟩) | ((with_reducible refine gc 112 rfl ?_); refine gl (some 10) Try.func112 #[.int .i64 a1] ?_; (with_reducible refine (cmp_isNaN_int.calls a1 false _ A4.out).mono ?_); rintro e w' ⟨rfl, ⟨nd, rfl⟩⟩; refine ⟨_, rfl, ?_⟩))
    go_ret
    exact ⟨rz, by repeat (first | exact Drawn0.refl _ | apply Drawn0.step)⟩
   ·rw [if_neg c8] at H; have c8b0 := decide_eq_false c8; clear c8
    by_cases c9 : a0 > a1
    ·rw [if_pos c9] at H; have c9b0 := decide_eq_true c9; clear c9; obtain rfl := Option.some.inj H; go_enter Try.func79, Try.ntmps79
     go_wp2_with (first | ((with_reducible refine gc 112 rfl ?_); refine gl (some 8) Try.func112 #[.int .i64 a0] ?_; (with_reducible refine (cmp_isNaN_int.calls a0 false _ A3.out).mono ?_); rintro e w' ⟨rfl, ⟨nd, rfl⟩⟩; refine ⟨_, rfl, ?_⟩) | ((with_reducible refine gc 112 rfl ?_); refine gl (some 10) Try.func112 #[.int .i64 a1] ?_; (with_reducible refine (cmp_isNaN_int.calls a1 false _ A4.out).mono ?_); rintro e w' ⟨rfl, ⟨nd, rfl⟩⟩; refine ⟨_, rfl, ?_⟩))
     go_ret
     exact ⟨rz, by repeat (first | exact Drawn0.refl _ | apply Drawn0.step)⟩
    ·rw [if_neg c9] at H; have c9b0 := decide_eq_false c9; clear c9; obtain rfl := Option.some.inj H; go_enter Try.func79, Try.ntmps79
     go_wp2_with (first | ((with_reducible refine gc 112 rfl ?_); refine gl (some 8) Try.func112 #[.int .i64 a0] ?_; (with_reducible refine (cmp_isNaN_int.calls a0 false _ A3.out).mono ?_); rintro e w' ⟨rfl, ⟨nd, rfl⟩⟩; refine ⟨_, rfl, ?_⟩) | ((with_reducible refine gc 112 rfl ?_); refine gl (some 10) Try.func112 #[.int .i64 a1] ?_; (with_reducible refine (cmp_isNaN_int.calls a1 false _ A4.out).mono ?_); rintro e w' ⟨rfl, ⟨nd, rfl⟩⟩; refine ⟨_, rfl, ?_⟩))
     go_ret
     exact ⟨rz, by repeat (first | exact Drawn0.refl _ | apply Drawn0.step)⟩
end
section
def L_CeilingOf_1.f (a0_0 : Int) (a0_1 : Int) (a0_2 : Int) (a1_0 : Int) (a1_1 : Int) (a1_2 : Int) : Option (Int) := (cmp_Compare_int.f a0_0 a1_0).bind fun t213 => (some t213)
theorem L_CeilingOf_1.calls (a0_0 : Int) (a0_1 : Int) (a0_2 : Int) (a1_0 : Int) (a1_1 : Int) (a1_2 : Int) (r : Int) (w : World) (H : L_CeilingOf_1.f a0_0 a0_1 a0_2 a1_0 a1_1 a1_2 = some r) :
  Calls Try.prog 78 #[.agg #[.int .i64 a0_0, .int .i64 a0_1, .int .i64 a0_2], .agg #[.int .i64 a1_0, .int .i64 a1_1, .int .i64 a1_2]] w fun e w' => e = .returned (.int .i64 r) ∧ Below w.heap.size w w' := by
 have hu112 := Try.underlying112; have HB := m0 (Below.refl w.heap.size w); unfold L_CeilingOf_1.f at H; replace H := oa H; obtain ⟨t213, A3, H⟩ := H; (try dsimp only at H); obtain rfl := Option.some.inj H; go_enter Try.func78, Try.ntmps78
 go_wp2_with (first | ((with_reducible refine ga 2 rfl ?_); refine be 2 112 #[.int .i64 a0_0, .int .i64 a0_1, .int .i64 a0_2] ?_; intro gb211 hg w4 hbox hb; have BK211 := m0 hbox; have GE211 := gw w hg; replace HB := sb HB hb; clear hb hbox hg) | ((with_reducible refine ga 3 rfl ?_); refine be 3 112 #[.int .i64 a1_0, .int .i64 a1_1, .int .i64 a1_2] ?_; intro gb212 hg w5 hbox hb; have BK212 := m0 hbox; have GE212 := gw w hg; replace HB := sb HB hb; have NB211_212 := nl BK211 hg; have NB212_211 := ng (nl BK211 hg); replace BK211 := bb BK211 hb; clear hb hbox hg; have hnb6 := NB211_212.out; have hnc6 := NB212_211.out; obtain ⟨_, _, _, _, _, _⟩ := b3 BK211; obtain ⟨_, _, _, _, _, _⟩ := b3 BK212) | ((with_reducible refine gc 79 rfl ?_); refine gl (some 9) Try.func79 #[.int .i64 a0_0, .int .i64 a1_0] ?_; (with_reducible refine (cmp_Compare_int.calls a0_0 a1_0 t213 _ A3.out).mono ?_); rintro e w' ⟨rfl, ⟨nd, rfl⟩⟩; refine ⟨_, rfl, ?_⟩))
 go_ret
 exact ez
end
end Go.Proofs.Yteiafijbgjgiaaa.A
