/- Walks of the program's functions (printed, made shorter), each with what it computes. -/
import Derived.Test.YteiafijbgjgiaaaB06
import Derived.Test.YteiafijbgjgiaaaB05
import Derived.Test.YteiafijbgjgiaaaB12
namespace Go.Proofs.Yteiafijbgjgiaaa.A
set_option maxHeartbeats 8000000
set_option maxRecDepth 100000
open Go.RowKit Go.Proofs.YteiafijbgjgiaaaW.PrintWords Go.Proofs.YteiafijbgjgiaaaW.PrintLast Go.Proofs.YteiafijbgjgiaaaW.PrintMore
attribute [local go_sem] max2_int min2_int max_two min_two max_three min_three max_four min_four
set_option linter.unusedVariables false
set_option linter.unusedSimpArgs false
section
def Lw_both.f (a0 : Int) (a1 : Int) : Option (Int) := if a0 = 0 then (some a1) else (some a0)
theorem Lw_both.calls (a0 : Int) (a1 : Int) (r : Int) (w : World) (H : Lw_both.f a0 a1 = some r) :
  Calls Try.prog 15 #[.int .i64 a0, .int .i64 a1] w fun e w' => e = .returned (.int .i64 r) ∧ Drawn0 w w' := by
 unfold Lw_both.f at H
 by_cases c3 : a0 = 0
 ·rw [if_pos c3] at H; have c3b0 := beq_iff_eq.mpr c3; have c3b1 := bne_eq_false_iff_eq.mpr c3; clear c3; obtain rfl := Option.some.inj H; go_enter Try.func15, Try.ntmps15
  go_wp2
  go_ret
  exact ⟨rz, by repeat (first | exact Drawn0.refl _ | apply Drawn0.step)⟩
 ·rw [if_neg c3] at H; have c3b0 := beq_eq_false_iff_ne.mpr c3; have c3b1 := bne_iff_ne.mpr c3; obtain rfl := Option.some.inj H; go_enter Try.func15, Try.ntmps15
  go_wp2
  go_ret
  exact ⟨rz, by repeat (first | exact Drawn0.refl _ | apply Drawn0.step)⟩
end
section
def Bs_Within.f (a0 : Int) (a1 : Int) (a2 : Int) : Option (Bool) := if a1 ≤ a0 then (some (decide (a0 ≤ a2))) else (some false)
theorem Bs_Within.calls (a0 : Int) (a1 : Int) (a2 : Int) (r : Bool) (w : World) (H : Bs_Within.f a0 a1 a2 = some r) :
  Calls Try.prog 19 #[.int .i64 a0, .int .i64 a1, .int .i64 a2] w fun e w' => e = .returned (.bool r) ∧ Drawn0 w w' := by
 unfold Bs_Within.f at H
 by_cases c4 : a1 ≤ a0
 ·rw [if_pos c4] at H; have c4b0 := decide_eq_true c4; clear c4; obtain rfl := Option.some.inj H; go_enter Try.func19, Try.ntmps19
  go_wp2
  go_ret
  exact ⟨rz, by repeat (first | exact Drawn0.refl _ | apply Drawn0.step)⟩
 ·rw [if_neg c4] at H; have c4b0 := decide_eq_false c4; clear c4; obtain rfl := Option.some.inj H; go_enter Try.func19, Try.ntmps19
  go_wp2
  go_ret
  exact ⟨rz, by repeat (first | exact Drawn0.refl _ | apply Drawn0.step)⟩
end
section
def L_inside.f (a0_0 : Int) (a0_1 : Int) (a1 : Int) : Option (Bool) := (L_within.f a0_0 0 a1).bind fun t902 => (if t902 = true then ((L_within.f a0_1 0 a1).bind fun t903 => (some t903)) else (some false))
theorem L_inside.calls (a0_0 : Int) (a0_1 : Int) (a1 : Int) (r : Bool) (w : World) (H : L_inside.f a0_0 a0_1 a1 = some r) :
  Calls Try.prog 100 #[.agg #[.int .i64 a0_0, .int .i64 a0_1], .int .i64 a1] w fun e w' => e = .returned (.bool r) ∧ Below w.heap.size w w' := by
 have hu54 := Try.underlying54; have HB := m0 (Below.refl w.heap.size w); unfold L_inside.f at H; replace H := oa H; obtain ⟨t902, A3, H⟩ := H; (try dsimp only at H)
 by_cases c4 : t902 = true
 ·subst c4; rw [if_pos rfl] at H; replace H := oa H; obtain ⟨t903, A5, H⟩ := H; (try dsimp only at H); obtain rfl := Option.some.inj H; go_enter Try.func100, Try.ntmps100
  go_wp2_with (first | ((with_reducible refine ga 2 rfl ?_); refine be 2 54 #[.int .i64 a0_0, .int .i64 a0_1] ?_; intro gb901 hg w6 hbox hb; have BK901 := m0 hbox; have GE901 := gw w hg; replace HB := sb HB hb; clear hb hbox hg; obtain ⟨_, _, _, _⟩ := b2 BK901) | ((with_reducible refine gc 70 rfl ?_); refine gl (some 8) Try.func70 #[.int .i64 a0_0, .int .i64 0, .int .i64 a1] ?_; (with_reducible refine (L_within.calls a0_0 0 a1 true _ A3.out).mono ?_); rintro e w' ⟨rfl, ⟨nd, rfl⟩⟩; refine ⟨_, rfl, ?_⟩) | (go_at_call 70; (with_reducible refine (L_within.calls a0_1 0 a1 t903 _ A5.out).mono ?_); rintro e w' ⟨rfl, ⟨nd, rfl⟩⟩))
  go_ret
  exact ez
 ·replace c4 := Bool.eq_false_iff.mpr c4; subst c4; rw [if_neg (show ¬ (false = true) by decide)] at H; obtain rfl := Option.some.inj H; go_enter Try.func100, Try.ntmps100
  go_wp2_with (first | ((with_reducible refine ga 2 rfl ?_); refine be 2 54 #[.int .i64 a0_0, .int .i64 a0_1] ?_; intro gb901 hg w8 hbox hb; have BK901 := m0 hbox; have GE901 := gw w hg; replace HB := sb HB hb; clear hb hbox hg; obtain ⟨_, _, _, _⟩ := b2 BK901) | ((with_reducible refine gc 70 rfl ?_); refine gl (some 8) Try.func70 #[.int .i64 a0_0, .int .i64 0, .int .i64 a1] ?_; (with_reducible refine (L_within.calls a0_0 0 a1 false _ A3.out).mono ?_); rintro e w' ⟨rfl, ⟨nd, rfl⟩⟩; refine ⟨_, rfl, ?_⟩))
  go_ret
  exact ez
end
section
def L_CheckClasses_1.f (k : Nat) (a0_0 : Int) (a0_1 : Int) (a0_2 : Int) (a0_3 : Int) : Option (Int) := (L_inside.f a0_0 a0_1 10000).bind fun t905 => (if t905 = true then ((L_inside.f a0_2 a0_3 1000).bind fun t906 => ((L_unless.f t906 2).bind fun t907 => (if a0_0 ≤ a0_1 then ((L_unless.f (decide (a0_2 ≤ a0_3)) 9).bind fun t908 => ((L_first.f k (([t907, t908] : List Int))).bind fun t912 => (some t912))) else ((L_unless.f false 9).bind fun t913 => ((L_first.f k (([t907, t913] : List Int))).bind fun t917 => (some t917)))))) else ((L_unless.f false 2).bind fun t918 => (if a0_0 ≤ a0_1 then ((L_unless.f (decide (a0_2 ≤ a0_3)) 9).bind fun t919 => ((L_first.f k (([t918, t919] : List Int))).bind fun t923 => (some t923))) else ((L_unless.f false 9).bind fun t924 => ((L_first.f k (([t918, t924] : List Int))).bind fun t928 => (some t928))))))
theorem L_CheckClasses_1.mono : ∀ a0 a1 a2 a3 k, LeO (L_CheckClasses_1.f k a0 a1 a2 a3) (L_CheckClasses_1.f (k + 1) a0 a1 a2 a3) := by
 intro a0 a1 a2 a3 k; unfold L_CheckClasses_1.f
 repeat' with_reducible first
  | exact L_first.mono ..
  | exact LeO.refl ..
  | exact LeO.none ..
  | refine LeO.ite ?_ ?_
  | refine LeO.bind ?_ (fun _ => ?_)
def L_CheckClasses_1.T2 : Bool × List (List Nat × List Nat) := (true, [([], []), ([0], [0]), ([], []), ([2], [2]), ([3], [3]), ([], []), ([5], [5]), ([6], [6]), ([4, 7], [4, 7]), ([8, 1], [8]), ([9], [9]), ([10, 9], [9, 10]), ([11, 9], [9, 11]), ([9], [9]), ([13, 9], [9, 13]), ([14, 9], [9, 14]), ([12, 15, 9], [9, 12, 15]), ([9, 16], [9, 16]), ([17, 9], [17]), ([1, 18], [1, 18]), ([19, 18], [19]), ([20, 20, 0, 1, 2, 3, 4, 5, 6, 7, 8, 9, 10, 11, 12, 13, 14, 15, 16, 17, 18, 19, 20], [20])])
def L_CheckClasses_1.B2 : List Nat := [0, 1, 0, 4, 12, 0, 32, 96, 252, 511, 1023, 2047, 4095, 1023, 9215, 25599, 65535, 131071, 262143, 524287, 1048575, 2097151]
theorem L_CheckClasses_1.tab2 : rtab .any (opsOf Try.f99 2) = L_CheckClasses_1.T2 := by kernel_rfl
theorem L_CheckClasses_1.bits2 : waitsOk L_CheckClasses_1.T2.2 L_CheckClasses_1.B2 = true := by kernel_rfl
theorem L_CheckClasses_1.calls (k : Nat) (a0_0 : Int) (a0_1 : Int) (a0_2 : Int) (a0_3 : Int) (r : Int) (w : World) (H : L_CheckClasses_1.f k a0_0 a0_1 a0_2 a0_3 = some r) :
  Calls Try.prog 99 #[.agg #[.int .i64 a0_0, .int .i64 a0_1, .int .i64 a0_2, .int .i64 a0_3]] w fun e w' => e = .returned (.int .i64 r) ∧ Below w.heap.size w w' := by
 have hu143 := Try.underlying143; have hu54 := Try.underlying54; have HB := m0 (Below.refl w.heap.size w); unfold L_CheckClasses_1.f at H; replace H := oa H; obtain ⟨t905, A2, H⟩ := H; (try dsimp only at H)
 by_cases c3 : t905 = true
 ·subst c3; rw [if_pos rfl] at H; replace H := oa H; obtain ⟨t906, A4, H⟩ := H; (try dsimp only at H); replace H := oa H; obtain ⟨t907, A5, H⟩ := H; (try dsimp only at H)
  by_cases c6 : a0_0 ≤ a0_1
  ·rw [if_pos c6] at H; have c6b0 := decide_eq_true c6; clear c6; replace H := oa H; obtain ⟨t908, A7, H⟩ := H; (try dsimp only at H); obtain ⟨y909, hy909⟩ : ∃ y_ : List Int, y_ = (([t907, t908] : List Int)) := ⟨_, rfl⟩; replace H : ((L_first.f k y909).bind fun t912 => (some t912)) = some r := by first | (rw [hy909]; with_reducible exact H) | (have H2_ := (Option.bind_some _ _).symm.trans H; rw [hy909]; with_reducible exact H2_) | (have H2_ := (Option.bind_some _ _).symm.trans H; with_reducible exact H2_) | with_reducible exact H | (rw [hy909]; exact H) | exact H
   have Ny909 := m0 hy909; clear hy909; replace H := oa H; obtain ⟨t912, A8, H⟩ := H; (try dsimp only at H); obtain rfl := Option.some.inj H; go_enter Try.func99, Try.ntmps99
   try go_wp2_with (first | ((with_reducible refine ga 1 rfl ?_); refine be 1 143 #[.int .i64 a0_0, .int .i64 a0_1, .int .i64 a0_2, .int .i64 a0_3] ?_; intro gb904 hg w9 hbox hb; have BK904 := m0 hbox; have GE904 := gw w hg; replace HB := sb HB hb; clear hb hbox hg; obtain ⟨_, _, _, _, _, _, _, _⟩ := b4 BK904) | ((with_reducible refine gc 100 rfl ?_); refine gl (some 6) Try.func100 #[.agg #[.int .i64 a0_0, .int .i64 a0_1], .int .i64 10000] ?_; (with_reducible refine (L_inside.calls a0_0 a0_1 10000 true _ A2.out).mono ?_); rintro e w11 ⟨rfl, hb⟩; refine ⟨_, rfl, ?_⟩; replace BK904 := bb BK904 hb; replace HB := sb HB hb; (try clear hb); obtain ⟨_, _, _, _, _, _, _, _⟩ := b4 BK904) | (go_at_call 100; (with_reducible refine (L_inside.calls a0_2 a0_3 1000 t906 _ A4.out).mono ?_); rintro e w13 ⟨rfl, hb⟩; replace BK904 := bb BK904 hb; replace HB := sb HB hb; (try clear hb)))
   replace BK904 := bd BK904; replace HB := sd HB; refine start_ (n := 22) (S := fun w' => w'.cell? ⟨gb904, 0, none⟩ = some (.int .i64 a0_0) ∧ w'.cell? ⟨gb904, 1, none⟩ = some (.int .i64 a0_1) ∧ w'.cell? ⟨gb904, 2, none⟩ = some (.int .i64 a0_2) ∧ w'.cell? ⟨gb904, 3, none⟩ = some (.int .i64 a0_3)) (ds := []) _ (by kernel_rfl) rfl rfl cz (fun hH => ?_); refine with_tabW L_CheckClasses_1.tab2 L_CheckClasses_1.bits2 (fun HT_ HW_ => ?_); generalize w13.drew = w14 at BK904 HB hH ⊢; refine pZ 0 (some 12) (bs 22 1) HT_ ?_; refine pZ 2 (some 14) (bs 22 5) HT_ ?_; refine pZ 3 (some 15) (bs 22 13) HT_ ?_; refine pZ 5 (some 17) (bs 22 45) HT_ ?_; refine pZ 6 (some 18) (bs 22 109) HT_ ?_; refine takeZ 4 (some 16) (bs 22 125) (tw HT_ HW_) hH ?_; refine takeZ 7 (some 19) (bs 22 253) (tw HT_ HW_) hH ?_; refine pZ 8 (some 20) (bs 22 509) HT_ ?_; refine oneZ 1 (some 13) (bs 22 511) (o1 HT_) fun K hK => ?_; refine gz Try.func69 #[.bool t906, .int .i64 2] ?_
   with_reducible refine (L_unless.calls t906 2 t907 _ A5.out).mono ?_
   rintro e w' ⟨rfl, ⟨nd, rfl⟩⟩; refine ⟨_, rfl, ?_⟩; refine hK.out _ _ cz (fun hH => ?_); clear hK K; refine nz 13 ?_; refine pZ 9 (some 21) (bs 22 1023) HT_ ?_; refine pZ 10 (some 22) (bs 22 2047) HT_ ?_; refine pZ 11 (some 23) (bs 22 4095) HT_ ?_; refine pZ 13 (some 25) (bs 22 12287) HT_ ?_; refine pZ 14 (some 26) (bs 22 28671) HT_ ?_; refine takeZ 12 (some 24) (bs 22 32767) (tw HT_ HW_) hH ?_; refine takeZ 15 (some 27) (bs 22 65535) (tw HT_ HW_) hH ?_; refine pZ 16 (some 28) (bs 22 131071) HT_ ?_; refine pZ 17 (some 29) (bs 22 262143) HT_ ?_; refine oneZ 18 (some 30) (bs 22 524287) (o1 HT_) fun K hK => ?_; refine gz Try.func69 #[.bool (decide (a0_2 ≤ a0_3)), .int .i64 9] ?_
   with_reducible refine (L_unless.calls (decide (a0_2 ≤ a0_3)) 9 t908 _ A7.out).mono ?_
   rintro e w' ⟨rfl, ⟨nd, rfl⟩⟩; refine ⟨_, rfl, ?_⟩; refine hK.out _ _ cz (fun hH => ?_); clear hK K; refine nz 30 ?_; refine oneZ 19 (some 31) (bs 22 1048575) (o1 HT_) fun K hK => ?_; refine Kd.R_lit_step (Kd.int .i64) _ 26 ?hg (N := 31) ?hd (xs := ([t907, t908] : List Int)) (inner := [.int .i64 t907, .int .i64 t908]) (ok := fun _ => True) (okp := fun _ => True) ?hr ?hp (fun _ hk => hk) trivial (Below.refl _ _) (Nat.le_refl _) (by simp) ?_; (case hd => rfl); (case hg => rfl); (case hr => first | (go_simp; done) | (go_simp; rfl)); (case hp => exact (Reps.one (ki t907) (Reps.one (ki t908) (Reps.none _ _))))
   intro v910 w15 ho16 hb hg_ hnew_; clear hg_ hnew_
   (first | rw [← Ny909.out] at ho16 | (simp only [Int.reduceToNat] at ho16; rw [← Ny909.out] at ho16))
   have HO911 := m0 (Kd.R_lower ho16 (below_size bz)); replace BK904 := bb BK904 hb; replace HB := sb HB hb; clear hb ho16; obtain ⟨Ao17, co17, eo17⟩ := Kd.R_slice HO911.out; subst eo17; refine hK.out _ _ cz (fun hH => ?_); clear hK K; refine nz 31 ?_; refine oneZ 20 (some 32) (bs 22 2097151) (o1 HT_) fun K hK => ?_; refine gz Try.func68 #[.slice Ao17 y909.length co17] ?_
   with_reducible refine (L_first.calls k _ _ y909 t912 _ ?side1 ?side2 A8.out).mono ?_
   (case side1 => exact bc (Kd.R_reads' HO911.out).2.2)
   (case side2 => exact (Kd.R_reads' HO911.out).2.1)
   rintro e w' ⟨rfl, ⟨nd, rfl⟩⟩; refine ⟨_, rfl, ?_⟩; refine hK.out _ _ cz (fun hH => ?_); clear hK K; refine nz 32 ?_; refine pZ 21 (some 2) (bs 22 4194303) HT_ ?_; refine done_ (done_of HT_.out (by kernel_rfl)) ?_
   try go_wp2
   go_ret
   exact ez
  ·rw [if_neg c6] at H; have c6b0 := decide_eq_false c6; clear c6; replace H := oa H; obtain ⟨t913, A18, H⟩ := H; (try dsimp only at H); obtain ⟨y914, hy914⟩ : ∃ y_ : List Int, y_ = (([t907, t913] : List Int)) := ⟨_, rfl⟩; replace H : ((L_first.f k y914).bind fun t917 => (some t917)) = some r := by first | (rw [hy914]; with_reducible exact H) | (have H2_ := (Option.bind_some _ _).symm.trans H; rw [hy914]; with_reducible exact H2_) | (have H2_ := (Option.bind_some _ _).symm.trans H; with_reducible exact H2_) | with_reducible exact H | (rw [hy914]; exact H) | exact H
   have Ny914 := m0 hy914; clear hy914; replace H := oa H; obtain ⟨t917, A19, H⟩ := H; (try dsimp only at H); obtain rfl := Option.some.inj H; go_enter Try.func99, Try.ntmps99
   try go_wp2_with (first | ((with_reducible refine ga 1 rfl ?_); refine be 1 143 #[.int .i64 a0_0, .int .i64 a0_1, .int .i64 a0_2, .int .i64 a0_3] ?_; intro gb904 hg w20 hbox hb; have BK904 := m0 hbox; have GE904 := gw w hg; replace HB := sb HB hb; clear hb hbox hg; obtain ⟨_, _, _, _, _, _, _, _⟩ := b4 BK904) | ((with_reducible refine gc 100 rfl ?_); refine gl (some 6) Try.func100 #[.agg #[.int .i64 a0_0, .int .i64 a0_1], .int .i64 10000] ?_; (with_reducible refine (L_inside.calls a0_0 a0_1 10000 true _ A2.out).mono ?_); rintro e w22 ⟨rfl, hb⟩; refine ⟨_, rfl, ?_⟩; replace BK904 := bb BK904 hb; replace HB := sb HB hb; (try clear hb); obtain ⟨_, _, _, _, _, _, _, _⟩ := b4 BK904) | (go_at_call 100; (with_reducible refine (L_inside.calls a0_2 a0_3 1000 t906 _ A4.out).mono ?_); rintro e w24 ⟨rfl, hb⟩; replace BK904 := bb BK904 hb; replace HB := sb HB hb; (try clear hb)))
   replace BK904 := bd BK904; replace HB := sd HB; refine start_ (n := 22) (S := fun w' => w'.cell? ⟨gb904, 0, none⟩ = some (.int .i64 a0_0) ∧ w'.cell? ⟨gb904, 1, none⟩ = some (.int .i64 a0_1) ∧ w'.cell? ⟨gb904, 2, none⟩ = some (.int .i64 a0_2) ∧ w'.cell? ⟨gb904, 3, none⟩ = some (.int .i64 a0_3)) (ds := []) _ (by kernel_rfl) rfl rfl cz (fun hH => ?_); refine with_tabW L_CheckClasses_1.tab2 L_CheckClasses_1.bits2 (fun HT_ HW_ => ?_); generalize w24.drew = w25 at BK904 HB hH ⊢; refine pZ 0 (some 12) (bs 22 1) HT_ ?_; refine pZ 2 (some 14) (bs 22 5) HT_ ?_; refine pZ 3 (some 15) (bs 22 13) HT_ ?_; refine pZ 5 (some 17) (bs 22 45) HT_ ?_; refine pZ 6 (some 18) (bs 22 109) HT_ ?_; refine takeZ 4 (some 16) (bs 22 125) (tw HT_ HW_) hH ?_; refine takeZ 7 (some 19) (bs 22 253) (tw HT_ HW_) hH ?_; refine pZ 8 (some 20) (bs 22 509) HT_ ?_; refine oneZ 1 (some 13) (bs 22 511) (o1 HT_) fun K hK => ?_; refine gz Try.func69 #[.bool t906, .int .i64 2] ?_
   with_reducible refine (L_unless.calls t906 2 t907 _ A5.out).mono ?_
   rintro e w' ⟨rfl, ⟨nd, rfl⟩⟩; refine ⟨_, rfl, ?_⟩; refine hK.out _ _ cz (fun hH => ?_); clear hK K; refine nz 13 ?_; refine pZ 9 (some 21) (bs 22 1023) HT_ ?_; refine pure_ (i := 10) (N := some 22) (v := undef) (a' := ?_) (bs 22 2047) rfl rfl (any_of HT_.out (by kernel_rfl)) (fun _ _ _ h => h) (Or.inr ⟨by rfl, rfl⟩) ?_ ?_; rotate_left
   ·exact pz
   refine pure_ (i := 11) (N := some 23) (v := undef) (a' := ?_) (bs 22 4095) rfl rfl (any_of HT_.out (by kernel_rfl)) (fun _ _ _ h => h) (Or.inr ⟨by rfl, rfl⟩) ?_ ?_; rotate_left
   ·exact pz
   refine pure_ (i := 12) (N := some 24) (v := undef) (a' := ?_) (bs 22 8191) rfl rfl (any_of HT_.out (by kernel_rfl)) (fun _ _ _ h => h) (Or.inr ⟨by rfl, rfl⟩) ?_ ?_; rotate_left
   ·exact pz
   refine pure_ (i := 13) (N := some 25) (v := undef) (a' := ?_) (bs 22 16383) rfl rfl (any_of HT_.out (by kernel_rfl)) (fun _ _ _ h => h) (Or.inr ⟨by rfl, rfl⟩) ?_ ?_; rotate_left
   ·exact pz
   refine pure_ (i := 14) (N := some 26) (v := undef) (a' := ?_) (bs 22 32767) rfl rfl (any_of HT_.out (by kernel_rfl)) (fun _ _ _ h => h) (Or.inr ⟨by rfl, rfl⟩) ?_ ?_; rotate_left
   ·exact pz
   refine pure_ (i := 15) (N := some 27) (v := undef) (a' := ?_) (bs 22 65535) rfl rfl (any_of HT_.out (by kernel_rfl)) (fun _ _ _ h => h) (Or.inr ⟨by rfl, rfl⟩) ?_ ?_; rotate_left
   ·exact pz
   refine pure_ (i := 16) (N := some 28) (v := undef) (a' := ?_) (bs 22 131071) rfl rfl (any_of HT_.out (by kernel_rfl)) (fun _ _ _ h => h) (Or.inr ⟨by rfl, rfl⟩) ?_ ?_; rotate_left
   ·exact pz
   refine pZ 17 (some 29) (bs 22 262143) HT_ ?_; refine oneZ 18 (some 30) (bs 22 524287) (o1 HT_) fun K hK => ?_; refine gz Try.func69 #[.bool false, .int .i64 9] ?_
   with_reducible refine (L_unless.calls false 9 t913 _ A18.out).mono ?_
   rintro e w' ⟨rfl, ⟨nd, rfl⟩⟩; refine ⟨_, rfl, ?_⟩; refine hK.out _ _ cz (fun hH => ?_); clear hK K; refine nz 30 ?_; refine oneZ 19 (some 31) (bs 22 1048575) (o1 HT_) fun K hK => ?_; refine Kd.R_lit_step (Kd.int .i64) _ 26 ?hg (N := 31) ?hd (xs := ([t907, t913] : List Int)) (inner := [.int .i64 t907, .int .i64 t913]) (ok := fun _ => True) (okp := fun _ => True) ?hr ?hp (fun _ hk => hk) trivial (Below.refl _ _) (Nat.le_refl _) (by simp) ?_; (case hd => rfl); (case hg => rfl); (case hr => first | (go_simp; done) | (go_simp; rfl)); (case hp => exact (Reps.one (ki t907) (Reps.one (ki t913) (Reps.none _ _))))
   intro v915 w26 ho27 hb hg_ hnew_; clear hg_ hnew_
   (first | rw [← Ny914.out] at ho27 | (simp only [Int.reduceToNat] at ho27; rw [← Ny914.out] at ho27))
   have HO916 := m0 (Kd.R_lower ho27 (below_size bz)); replace BK904 := bb BK904 hb; replace HB := sb HB hb; clear hb ho27; obtain ⟨Ao28, co28, eo28⟩ := Kd.R_slice HO916.out; subst eo28; refine hK.out _ _ cz (fun hH => ?_); clear hK K; refine nz 31 ?_; refine oneZ 20 (some 32) (bs 22 2097151) (o1 HT_) fun K hK => ?_; refine gz Try.func68 #[.slice Ao28 y914.length co28] ?_
   with_reducible refine (L_first.calls k _ _ y914 t917 _ ?side1 ?side2 A19.out).mono ?_
   (case side1 => exact bc (Kd.R_reads' HO916.out).2.2)
   (case side2 => exact (Kd.R_reads' HO916.out).2.1)
   rintro e w' ⟨rfl, ⟨nd, rfl⟩⟩; refine ⟨_, rfl, ?_⟩; refine hK.out _ _ cz (fun hH => ?_); clear hK K; refine nz 32 ?_; refine pZ 21 (some 2) (bs 22 4194303) HT_ ?_; refine done_ (done_of HT_.out (by kernel_rfl)) ?_
   try go_wp2
   go_ret
   exact ez
 ·replace c3 := Bool.eq_false_iff.mpr c3; subst c3; rw [if_neg (show ¬ (false = true) by decide)] at H; replace H := oa H; obtain ⟨t918, A29, H⟩ := H; (try dsimp only at H)
  by_cases c30 : a0_0 ≤ a0_1
  ·rw [if_pos c30] at H; have c30b0 := decide_eq_true c30; clear c30; replace H := oa H; obtain ⟨t919, A31, H⟩ := H; (try dsimp only at H); obtain ⟨y920, hy920⟩ : ∃ y_ : List Int, y_ = (([t918, t919] : List Int)) := ⟨_, rfl⟩; replace H : ((L_first.f k y920).bind fun t923 => (some t923)) = some r := by first | (rw [hy920]; with_reducible exact H) | (have H2_ := (Option.bind_some _ _).symm.trans H; rw [hy920]; with_reducible exact H2_) | (have H2_ := (Option.bind_some _ _).symm.trans H; with_reducible exact H2_) | with_reducible exact H | (rw [hy920]; exact H) | exact H
   have Ny920 := m0 hy920; clear hy920; replace H := oa H; obtain ⟨t923, A32, H⟩ := H; (try dsimp only at H); obtain rfl := Option.some.inj H; go_enter Try.func99, Try.ntmps99
   try go_wp2_with (first | ((with_reducible refine ga 1 rfl ?_); refine be 1 143 #[.int .i64 a0_0, .int .i64 a0_1, .int .i64 a0_2, .int .i64 a0_3] ?_; intro gb904 hg w33 hbox hb; have BK904 := m0 hbox; have GE904 := gw w hg; replace HB := sb HB hb; clear hb hbox hg; obtain ⟨_, _, _, _, _, _, _, _⟩ := b4 BK904) | ((with_reducible refine gc 100 rfl ?_); refine gl (some 6) Try.func100 #[.agg #[.int .i64 a0_0, .int .i64 a0_1], .int .i64 10000] ?_; (with_reducible refine (L_inside.calls a0_0 a0_1 10000 false _ A2.out).mono ?_); rintro e w35 ⟨rfl, hb⟩; refine ⟨_, rfl, ?_⟩; replace BK904 := bb BK904 hb; replace HB := sb HB hb; (try clear hb)))
   replace BK904 := bd BK904; replace HB := sd HB; refine start_ (n := 22) (S := fun w' => w'.cell? ⟨gb904, 0, none⟩ = some (.int .i64 a0_0) ∧ w'.cell? ⟨gb904, 1, none⟩ = some (.int .i64 a0_1) ∧ w'.cell? ⟨gb904, 2, none⟩ = some (.int .i64 a0_2) ∧ w'.cell? ⟨gb904, 3, none⟩ = some (.int .i64 a0_3)) (ds := []) _ (by kernel_rfl) rfl rfl cz (fun hH => ?_); refine with_tabW L_CheckClasses_1.tab2 L_CheckClasses_1.bits2 (fun HT_ HW_ => ?_); generalize w35.drew = w36 at BK904 HB hH ⊢; refine pZ 0 (some 12) (bs 22 1) HT_ ?_; refine pZ 2 (some 14) (bs 22 5) HT_ ?_; refine pZ 3 (some 15) (bs 22 13) HT_ ?_; refine pZ 5 (some 17) (bs 22 45) HT_ ?_; refine pZ 6 (some 18) (bs 22 109) HT_ ?_; refine takeZ 4 (some 16) (bs 22 125) (tw HT_ HW_) hH ?_; refine takeZ 7 (some 19) (bs 22 253) (tw HT_ HW_) hH ?_; refine pZ 8 (some 20) (bs 22 509) HT_ ?_; refine oneZ 1 (some 13) (bs 22 511) (o1 HT_) fun K hK => ?_; refine gz Try.func69 #[.bool false, .int .i64 2] ?_
   with_reducible refine (L_unless.calls false 2 t918 _ A29.out).mono ?_
   rintro e w' ⟨rfl, ⟨nd, rfl⟩⟩; refine ⟨_, rfl, ?_⟩; refine hK.out _ _ cz (fun hH => ?_); clear hK K; refine nz 13 ?_; refine pZ 9 (some 21) (bs 22 1023) HT_ ?_; refine pZ 10 (some 22) (bs 22 2047) HT_ ?_; refine pZ 11 (some 23) (bs 22 4095) HT_ ?_; refine pZ 13 (some 25) (bs 22 12287) HT_ ?_; refine pZ 14 (some 26) (bs 22 28671) HT_ ?_; refine takeZ 12 (some 24) (bs 22 32767) (tw HT_ HW_) hH ?_; refine takeZ 15 (some 27) (bs 22 65535) (tw HT_ HW_) hH ?_; refine pZ 16 (some 28) (bs 22 131071) HT_ ?_; refine pZ 17 (some 29) (bs 22 262143) HT_ ?_; refine oneZ 18 (some 30) (bs 22 524287) (o1 HT_) fun K hK => ?_; refine gz Try.func69 #[.bool (decide (a0_2 ≤ a0_3)), .int .i64 9] ?_
   with_reducible refine (L_unless.calls (decide (a0_2 ≤ a0_3)) 9 t919 _ A31.out).mono ?_
   rintro e w' ⟨rfl, ⟨nd, rfl⟩⟩; refine ⟨_, rfl, ?_⟩; refine hK.out _ _ cz (fun hH => ?_); clear hK K; refine nz 30 ?_; refine oneZ 19 (some 31) (bs 22 1048575) (o1 HT_) fun K hK => ?_; refine Kd.R_lit_step (Kd.int .i64) _ 26 ?hg (N := 31) ?hd (xs := ([t918, t919] : List Int)) (inner := [.int .i64 t918, .int .i64 t919]) (ok := fun _ => True) (okp := fun _ => True) ?hr ?hp (fun _ hk => hk) trivial (Below.refl _ _) (Nat.le_refl _) (by simp) ?_; (case hd => rfl); (case hg => rfl); (case hr => first | (go_simp; done) | (go_simp; rfl)); (case hp => exact (Reps.one (ki t918) (Reps.one (ki t919) (Reps.none _ _))))
   intro v921 w37 ho38 hb hg_ hnew_; clear hg_ hnew_
   (first | rw [← Ny920.out] at ho38 | (simp only [Int.reduceToNat] at ho38; rw [← Ny920.out] at ho38))
   have HO922 := m0 (Kd.R_lower ho38 (below_size bz)); replace BK904 := bb BK904 hb; replace HB := sb HB hb; clear hb ho38; obtain ⟨Ao39, co39, eo39⟩ := Kd.R_slice HO922.out; subst eo39; refine hK.out _ _ cz (fun hH => ?_); clear hK K; refine nz 31 ?_; refine oneZ 20 (some 32) (bs 22 2097151) (o1 HT_) fun K hK => ?_; refine gz Try.func68 #[.slice Ao39 y920.length co39] ?_
   with_reducible refine (L_first.calls k _ _ y920 t923 _ ?side1 ?side2 A32.out).mono ?_
   (case side1 => exact bc (Kd.R_reads' HO922.out).2.2)
   (case side2 => exact (Kd.R_reads' HO922.out).2.1)
   rintro e w' ⟨rfl, ⟨nd, rfl⟩⟩; refine ⟨_, rfl, ?_⟩; refine hK.out _ _ cz (fun hH => ?_); clear hK K; refine nz 32 ?_; refine pZ 21 (some 2) (bs 22 4194303) HT_ ?_; refine done_ (done_of HT_.out (by kernel_rfl)) ?_
   try go_wp2
   go_ret
   exact ez
  ·rw [if_neg c30] at H; have c30b0 := decide_eq_false c30; clear c30; replace H := oa H; obtain ⟨t924, A40, H⟩ := H; (try dsimp only at H); obtain ⟨y925, hy925⟩ : ∃ y_ : List Int, y_ = (([t918, t924] : List Int)) := ⟨_, rfl⟩; replace H : ((L_first.f k y925).bind fun t928 => (some t928)) = some r := by first | (rw [hy925]; with_reducible exact H) | (have H2_ := (Option.bind_some _ _).symm.trans H; rw [hy925]; with_reducible exact H2_) | (have H2_ := (Option.bind_some _ _).symm.trans H; with_reducible exact H2_) | with_reducible exact H | (rw [hy925]; exact H) | exact H
   have Ny925 := m0 hy925; clear hy925; replace H := oa H; obtain ⟨t928, A41, H⟩ := H; (try dsimp only at H); obtain rfl := Option.some.inj H; go_enter Try.func99, Try.ntmps99
   try go_wp2_with (first | ((with_reducible refine ga 1 rfl ?_); refine be 1 143 #[.int .i64 a0_0, .int .i64 a0_1, .int .i64 a0_2, .int .i64 a0_3] ?_; intro gb904 hg w42 hbox hb; have BK904 := m0 hbox; have GE904 := gw w hg; replace HB := sb HB hb; clear hb hbox hg; obtain ⟨_, _, _, _, _, _, _, _⟩ := b4 BK904) | ((with_reducible refine gc 100 rfl ?_); refine gl (some 6) Try.func100 #[.agg #[.int .i64 a0_0, .int .i64 a0_1], .int .i64 10000] ?_; (with_reducible refine (L_inside.calls a0_0 a0_1 10000 false _ A2.out).mono ?_); rintro e w44 ⟨rfl, hb⟩; refine ⟨_, rfl, ?_⟩; replace BK904 := bb BK904 hb; replace HB := sb HB hb; (try clear hb)))
   replace BK904 := bd BK904; replace HB := sd HB; refine start_ (n := 22) (S := fun w' => w'.cell? ⟨gb904, 0, none⟩ = some (.int .i64 a0_0) ∧ w'.cell? ⟨gb904, 1, none⟩ = some (.int .i64 a0_1) ∧ w'.cell? ⟨gb904, 2, none⟩ = some (.int .i64 a0_2) ∧ w'.cell? ⟨gb904, 3, none⟩ = some (.int .i64 a0_3)) (ds := []) _ (by kernel_rfl) rfl rfl cz (fun hH => ?_); refine with_tabW L_CheckClasses_1.tab2 L_CheckClasses_1.bits2 (fun HT_ HW_ => ?_); generalize w44.drew = w45 at BK904 HB hH ⊢; refine pZ 0 (some 12) (bs 22 1) HT_ ?_; refine pZ 2 (some 14) (bs 22 5) HT_ ?_; refine pZ 3 (some 15) (bs 22 13) HT_ ?_; refine pZ 5 (some 17) (bs 22 45) HT_ ?_; refine pZ 6 (some 18) (bs 22 109) HT_ ?_; refine takeZ 4 (some 16) (bs 22 125) (tw HT_ HW_) hH ?_; refine takeZ 7 (some 19) (bs 22 253) (tw HT_ HW_) hH ?_; refine pZ 8 (some 20) (bs 22 509) HT_ ?_; refine oneZ 1 (some 13) (bs 22 511) (o1 HT_) fun K hK => ?_; refine gz Try.func69 #[.bool false, .int .i64 2] ?_
   with_reducible refine (L_unless.calls false 2 t918 _ A29.out).mono ?_
   rintro e w' ⟨rfl, ⟨nd, rfl⟩⟩; refine ⟨_, rfl, ?_⟩; refine hK.out _ _ cz (fun hH => ?_); clear hK K; refine nz 13 ?_; refine pZ 9 (some 21) (bs 22 1023) HT_ ?_; refine pure_ (i := 10) (N := some 22) (v := undef) (a' := ?_) (bs 22 2047) rfl rfl (any_of HT_.out (by kernel_rfl)) (fun _ _ _ h => h) (Or.inr ⟨by rfl, rfl⟩) ?_ ?_; rotate_left
   ·exact pz
   refine pure_ (i := 11) (N := some 23) (v := undef) (a' := ?_) (bs 22 4095) rfl rfl (any_of HT_.out (by kernel_rfl)) (fun _ _ _ h => h) (Or.inr ⟨by rfl, rfl⟩) ?_ ?_; rotate_left
   ·exact pz
   refine pure_ (i := 12) (N := some 24) (v := undef) (a' := ?_) (bs 22 8191) rfl rfl (any_of HT_.out (by kernel_rfl)) (fun _ _ _ h => h) (Or.inr ⟨by rfl, rfl⟩) ?_ ?_; rotate_left
   ·exact pz
   refine pure_ (i := 13) (N := some 25) (v := undef) (a' := ?_) (bs 22 16383) rfl rfl (any_of HT_.out (by kernel_rfl)) (fun _ _ _ h => h) (Or.inr ⟨by rfl, rfl⟩) ?_ ?_; rotate_left
   ·exact pz
   refine pure_ (i := 14) (N := some 26) (v := undef) (a' := ?_) (bs 22 32767) rfl rfl (any_of HT_.out (by kernel_rfl)) (fun _ _ _ h => h) (Or.inr ⟨by rfl, rfl⟩) ?_ ?_; rotate_left
   ·exact pz
   refine pure_ (i := 15) (N := some 27) (v := undef) (a' := ?_) (bs 22 65535) rfl rfl (any_of HT_.out (by kernel_rfl)) (fun _ _ _ h => h) (Or.inr ⟨by rfl, rfl⟩) ?_ ?_; rotate_left
   ·exact pz
   refine pure_ (i := 16) (N := some 28) (v := undef) (a' := ?_) (bs 22 131071) rfl rfl (any_of HT_.out (by kernel_rfl)) (fun _ _ _ h => h) (Or.inr ⟨by rfl, rfl⟩) ?_ ?_; rotate_left
   ·exact pz
   refine pZ 17 (some 29) (bs 22 262143) HT_ ?_; refine oneZ 18 (some 30) (bs 22 524287) (o1 HT_) fun K hK => ?_; refine gz Try.func69 #[.bool false, .int .i64 9] ?_
   with_reducible refine (L_unless.calls false 9 t924 _ A40.out).mono ?_
   rintro e w' ⟨rfl, ⟨nd, rfl⟩⟩; refine ⟨_, rfl, ?_⟩; refine hK.out _ _ cz (fun hH => ?_); clear hK K; refine nz 30 ?_; refine oneZ 19 (some 31) (bs 22 1048575) (o1 HT_) fun K hK => ?_; refine Kd.R_lit_step (Kd.int .i64) _ 26 ?hg (N := 31) ?hd (xs := ([t918, t924] : List Int)) (inner := [.int .i64 t918, .int .i64 t924]) (ok := fun _ => True) (okp := fun _ => True) ?hr ?hp (fun _ hk => hk) trivial (Below.refl _ _) (Nat.le_refl _) (by simp) ?_; (case hd => rfl); (case hg => rfl); (case hr => first | (go_simp; done) | (go_simp; rfl)); (case hp => exact (Reps.one (ki t918) (Reps.one (ki t924) (Reps.none _ _))))
   intro v926 w46 ho47 hb hg_ hnew_; clear hg_ hnew_
   (first | rw [← Ny925.out] at ho47 | (simp only [Int.reduceToNat] at ho47; rw [← Ny925.out] at ho47))
   have HO927 := m0 (Kd.R_lower ho47 (below_size bz)); replace BK904 := bb BK904 hb; replace HB := sb HB hb; clear hb ho47; obtain ⟨Ao48, co48, eo48⟩ := Kd.R_slice HO927.out; subst eo48; refine hK.out _ _ cz (fun hH => ?_); clear hK K; refine nz 31 ?_; refine oneZ 20 (some 32) (bs 22 2097151) (o1 HT_) fun K hK => ?_; refine gz Try.func68 #[.slice Ao48 y925.length co48] ?_
   with_reducible refine (L_first.calls k _ _ y925 t928 _ ?side1 ?side2 A41.out).mono ?_
   (case side1 => exact bc (Kd.R_reads' HO927.out).2.2)
   (case side2 => exact (Kd.R_reads' HO927.out).2.1)
   rintro e w' ⟨rfl, ⟨nd, rfl⟩⟩; refine ⟨_, rfl, ?_⟩; refine hK.out _ _ cz (fun hH => ?_); clear hK K; refine nz 32 ?_; refine pZ 21 (some 2) (bs 22 4194303) HT_ ?_; refine done_ (done_of HT_.out (by kernel_rfl)) ?_
   try go_wp2
   go_ret
   exact ez
end
section
def api_CloudClass_CheckClasses_1.l0 : Nat → List (S143) → Int → Int → Option (Int × Int)
 | 0, _, _, _ => none
 | k + 1, x9, x10, x11 => if x11 < x10 then (if 0 ≤ x11 then (if x11 < (x9.length : Int) then ((L_CheckClasses_1.f k ((rd_T143 x9 x11).f0.f0) ((rd_T143 x9 x11).f0.f1) ((rd_T143 x9 x11).f1.f0) ((rd_T143 x9 x11).f1.f1)).bind fun t931 => (if t931 = 0 then (api_CloudClass_CheckClasses_1.l0 k x9 x10 (wrap64 (x11 + 1))) else (some (x11, t931)))) else (none)) else (none)) else (some (0, 0))
def api_CloudClass_CheckClasses_1.f (k : Nat) (l0 : List (S143))  : Option (Int × Int) := api_CloudClass_CheckClasses_1.l0 k l0 (l0.length : Int) 0
theorem api_CloudClass_CheckClasses_1.mono_l : ∀ k, (∀ y0 y1 y2, LeO (api_CloudClass_CheckClasses_1.l0 k y0 y1 y2) (api_CloudClass_CheckClasses_1.l0 (k + 1) y0 y1 y2))
 | 0 => fun _ _ _ r h => by simp [api_CloudClass_CheckClasses_1.l0] at h
 | k + 1 => by
  have ih0 := api_CloudClass_CheckClasses_1.mono_l k
  ·intro y0 y1 y2; unfold api_CloudClass_CheckClasses_1.l0
   repeat' with_reducible first
    | exact ih0 ..
    | exact L_CheckClasses_1.mono ..
    | exact LeO.refl ..
    | exact LeO.none ..
    | refine LeO.ite ?_ ?_
    | refine LeO.bind ?_ (fun _ => ?_)
theorem api_CloudClass_CheckClasses_1.mono : ∀ a0 k, LeO (api_CloudClass_CheckClasses_1.f k a0) (api_CloudClass_CheckClasses_1.f (k + 1) a0) := by
 intro a0 k; have ih0 := api_CloudClass_CheckClasses_1.mono_l k; unfold api_CloudClass_CheckClasses_1.f
 repeat' with_reducible first
  | exact ih0 ..
  | exact L_CheckClasses_1.mono ..
  | exact LeO.refl ..
  | exact LeO.none ..
  | refine LeO.ite ?_ ?_
  | refine LeO.bind ?_ (fun _ => ?_)
theorem api_CloudClass_CheckClasses_1.calls (k : Nat) (A0 : Option Addr) (c0 : Nat) (l0 : List (S143))  (r1 : Int) (r2 : Int) (w : World) (hr0 : Kd.C k143 w A0 l0.length l0) (hc0 : l0.length ≤ c0) (H : api_CloudClass_CheckClasses_1.f k l0 = some (r1, r2)) :
  Calls Try.prog 98 #[.slice A0 l0.length c0, .func (.func 99) #[] #[]] w fun e w' => e = .returned (.tuple #[.int .i64 r1, .int .i64 r2]) ∧ Below w.heap.size w w' := by
 have hu143 := Try.underlying143; have HR0 := m0 hr0; have HC0 := m0 hc0; clear hr0 hc0; have HB := m0 (Below.refl w.heap.size w); unfold api_CloudClass_CheckClasses_1.f at H; have H' := m0 H; clear H; go_enter Try.func98, Try.ntmps98
 go_wp2
 go_loopg [11] k (fun kq v11 w' => ∃ (x11_1 : Int), v11 = .int .i64 x11_1 ∧ Aside0 (api_CloudClass_CheckClasses_1.l0 kq l0 (l0.length : Int) x11_1 = some (r1, r2)) ∧ Aside0 (kq ≤ k) ∧ Aside0 (Below w.heap.size w w'))
 case atStart => exact ⟨(0), rz, H', ⟨Nat.le_refl _⟩, ⟨bz⟩⟩
 case round =>
  clear H'; obtain ⟨x11_1, rfl, HA, HK1, HB⟩ := hrel
  cases gk with
  | zero => exact absurd HA.out (by simp [api_CloudClass_CheckClasses_1.l0])
  | succ k1 =>
   have H := HA.out; clear HA; simp only [api_CloudClass_CheckClasses_1.l0] at H
   by_cases c3 : x11_1 < (l0.length : Int)
   ·rw [if_pos c3] at H; have c3b0 := decide_eq_true c3; clear c3
    by_cases c4 : 0 ≤ x11_1
    ·rw [if_pos c4] at H; have c4b0 := decide_eq_true c4; clear c4
     by_cases c5 : x11_1 < (l0.length : Int)
     ·rw [if_pos c5] at H; have c5b0 := decide_eq_true c5; clear c5; replace H := oa H; obtain ⟨t931, A6, H⟩ := H; (try dsimp only at H)
      by_cases c7 : t931 = 0
      ·rw [if_pos c7] at H; have c7b0 := beq_iff_eq.mpr c7; have c7b1 := bne_eq_false_iff_eq.mpr c7; clear c7; have H' := m0 H; clear H; have p929 : 0 ≤ (x11_1 : Int) := od; have q929 : x11_1 < (l0.length : Int) := od; obtain ⟨ad929, e929, hx929_0, hx929_1, hx929_2, hx929_3⟩ := at_T143 HR0.out x11_1 p929 q929
       cases e929
       replace hx929_0 := hc HB hx929_0; replace hx929_1 := hc HB hx929_1; replace hx929_2 := hc HB hx929_2; replace hx929_3 := hc HB hx929_3; replace p929 := eq_true p929; replace q929 := eq_true q929
       go_wp2_with (first | ((with_reducible refine ga 7 rfl ?_); refine be 7 143 #[.int .i64 0, .int .i64 0, .int .i64 0, .int .i64 0] ?_; intro gb930 hg w8 hbox hb; have BK930 := m0 hbox; have GE930 := gw w hg; replace HB := sb HB hb; clear hb hbox hg; obtain ⟨_, _, _, _, _, _, _, _⟩ := b4 BK930) | (go_at_call 99; (with_reducible refine (L_CheckClasses_1.calls k1 ((rd_T143 l0 x11_1).f0.f0) ((rd_T143 l0 x11_1).f0.f1) ((rd_T143 l0 x11_1).f1.f0) ((rd_T143 l0 x11_1).f1.f1) t931 _ A6.out).mono ?_); rintro e w10 ⟨rfl, hb⟩; replace BK930 := m0 (blk_below (g := gb930) (o := .cells #[.int .i64 ((rd_T143 l0 x11_1).f0.f0), .int .i64 ((rd_T143 l0 x11_1).f0.f1), .int .i64 ((rd_T143 l0 x11_1).f1.f0), .int .i64 ((rd_T143 l0 x11_1).f1.f1)] 143 (0, 0)) (bq BK930.out) hb); replace HB := sb HB hb; (try clear hb)))
       go_roundg k1
       case measure => have := HK1.out; omega
       case rel => exact ⟨(wrap64 (x11_1 + 1)), rz, H', ⟨by have := HK1.out; omega⟩, ⟨bz⟩⟩
      ·rw [if_neg c7] at H; have c7b0 := beq_eq_false_iff_ne.mpr c7; have c7b1 := bne_iff_ne.mpr c7; simp only [Option.some.injEq, Prod.mk.injEq] at H; obtain ⟨rfl, rfl⟩ := H; have p929 : 0 ≤ (x11_1 : Int) := od; have q929 : x11_1 < (l0.length : Int) := od; obtain ⟨ad929, e929, hx929_0, hx929_1, hx929_2, hx929_3⟩ := at_T143 HR0.out x11_1 p929 q929
       cases e929
       replace hx929_0 := hc HB hx929_0; replace hx929_1 := hc HB hx929_1; replace hx929_2 := hc HB hx929_2; replace hx929_3 := hc HB hx929_3; replace p929 := eq_true p929; replace q929 := eq_true q929
       go_wp2_with (first | ((with_reducible refine ga 7 rfl ?_); refine be 7 143 #[.int .i64 0, .int .i64 0, .int .i64 0, .int .i64 0] ?_; intro gb930 hg w11 hbox hb; have BK930 := m0 hbox; have GE930 := gw w hg; replace HB := sb HB hb; clear hb hbox hg; obtain ⟨_, _, _, _, _, _, _, _⟩ := b4 BK930) | (go_at_call 99; (with_reducible refine (L_CheckClasses_1.calls k1 ((rd_T143 l0 x11_1).f0.f0) ((rd_T143 l0 x11_1).f0.f1) ((rd_T143 l0 x11_1).f1.f0) ((rd_T143 l0 x11_1).f1.f1) t931 _ A6.out).mono ?_); rintro e w13 ⟨rfl, hb⟩; replace BK930 := m0 (blk_below (g := gb930) (o := .cells #[.int .i64 ((rd_T143 l0 x11_1).f0.f0), .int .i64 ((rd_T143 l0 x11_1).f0.f1), .int .i64 ((rd_T143 l0 x11_1).f1.f0), .int .i64 ((rd_T143 l0 x11_1).f1.f1)] 143 (0, 0)) (bq BK930.out) hb); replace HB := sb HB hb; (try clear hb)))
       go_ret2
       exact ez
     ·rw [if_neg c5] at H; exact absurd H (by simp)
    ·rw [if_neg c4] at H; exact absurd H (by simp)
   ·rw [if_neg c3] at H; have c3b0 := decide_eq_false c3; clear c3; simp only [Option.some.injEq, Prod.mk.injEq] at H; obtain ⟨rfl, rfl⟩ := H
    go_wp2
    go_ret2
    exact ez
end
section
def L_CheckClasses.f (k : Nat) (l0 : List (S143)) : Option (Int × Int) := (L_unless.f (decide ((l0.length : Int) > 0)) 10).bind fun t932 => ((L_unless.f (decide ((l0.length : Int) ≤ 10)) 8).bind fun t933 => ((L_first.f k (([t932, t933] : List Int))).bind fun t937 => (if t937 = 0 then ((api_CloudClass_CheckClasses_1.f k l0).bind fun bt938 => (some (bt938.1, bt938.2))) else (some (0, t937)))))
theorem L_CheckClasses.mono : ∀ a0 k, LeO (L_CheckClasses.f k a0) (L_CheckClasses.f (k + 1) a0) := by
 intro a0 k; unfold L_CheckClasses.f
 repeat' with_reducible first
  | exact api_CloudClass_CheckClasses_1.mono ..
  | exact L_first.mono ..
  | exact LeO.refl ..
  | exact LeO.none ..
  | refine LeO.ite ?_ ?_
  | refine LeO.bind ?_ (fun _ => ?_)
theorem L_CheckClasses.calls (k : Nat) (A0 : Option Addr) (c0 : Nat) (l0 : List (S143)) (r1 : Int) (r2 : Int) (w : World) (hr0 : Kd.C k143 w A0 l0.length l0) (hc0 : l0.length ≤ c0) (H : L_CheckClasses.f k l0 = some (r1, r2)) :
  Calls Try.prog 55 #[.slice A0 l0.length c0] w fun e w' => e = .returned (.tuple #[.int .i64 r1, .int .i64 r2]) ∧ Below w.heap.size w w' := by
 have HR0 := m0 hr0; have HC0 := m0 hc0; clear hr0 hc0; have HB := m0 (Below.refl w.heap.size w); unfold L_CheckClasses.f at H; replace H := oa H; obtain ⟨t932, A2, H⟩ := H; (try dsimp only at H); replace H := oa H; obtain ⟨t933, A3, H⟩ := H; (try dsimp only at H); obtain ⟨y934, hy934⟩ : ∃ y_ : List Int, y_ = (([t932, t933] : List Int)) := ⟨_, rfl⟩; replace H : ((L_first.f k y934).bind fun t937 => (if t937 = 0 then ((api_CloudClass_CheckClasses_1.f k l0).bind fun bt938 => (some (bt938.1, bt938.2))) else (some (0, t937)))) = some (r1, r2) := by first | (rw [hy934]; with_reducible exact H) | (have H2_ := (Option.bind_some _ _).symm.trans H; rw [hy934]; with_reducible exact H2_) | (have H2_ := (Option.bind_some _ _).symm.trans H; with_reducible exact H2_) | with_reducible exact H | (rw [hy934]; exact H) | exact H
 have Ny934 := m0 hy934; clear hy934; replace H := oa H; obtain ⟨t937, A4, H⟩ := H; (try dsimp only at H)
 by_cases c5 : t937 = 0
 ·rw [if_pos c5] at H; have c5b0 := beq_iff_eq.mpr c5; have c5b1 := bne_eq_false_iff_eq.mpr c5; clear c5; replace H := oa H; obtain ⟨⟨t938, t939⟩, A6, H⟩ := H; (try dsimp only at H); simp only [Option.some.injEq, Prod.mk.injEq] at H; obtain ⟨rfl, rfl⟩ := H; go_enter Try.func55, Try.ntmps55
  go_wp2_with (first | ((with_reducible refine gc 69 rfl ?_); refine goesL_ (some 8) rfl rfl Try.func69 (by kernel_rfl) rfl #[.bool (decide ((l0.length : Int) > 0)), .int .i64 10] rfl (by (try simp only [List.map_toArray, List.map_cons, List.map_nil]); first | done | rfl | (simp only [List.length_drop, List.length_take]; rfl) | (simp; first | done | exact ⟨rfl, rfl⟩)) ?_; (with_reducible refine (L_unless.calls (decide ((l0.length : Int) > 0)) 10 t932 _ A2.out).mono ?_); rintro e w' ⟨rfl, ⟨nd, rfl⟩⟩; refine ⟨_, rfl, ?_⟩) | ((with_reducible refine gc 69 rfl ?_); refine gl (some 12) Try.func69 #[.bool (decide ((l0.length : Int) ≤ 10)), .int .i64 8] ?_; (with_reducible refine (L_unless.calls (decide ((l0.length : Int) ≤ 10)) 8 t933 _ A3.out).mono ?_); rintro e w' ⟨rfl, ⟨nd, rfl⟩⟩; refine ⟨_, rfl, ?_⟩) | ((with_reducible refine ga 13 rfl ?_); refine Kd.R_lit (Kd.int .i64) _ 26 ?hg (N := 13) ?hd (xs := ([t932, t933] : List Int)) (inner := [.int .i64 t932, .int .i64 t933]) (ok := fun _ => True) (okp := fun _ => True) ?hr ?hp (fun _ hk => hk) trivial (Below.refl _ _) (Nat.le_refl _) (by simp) ?_; (case hd => rfl); (case hg => rfl); (case hr => first | (go_simp; done) | (go_simp; rfl)); (case hp => exact (Reps.one (ki t932) (Reps.one (ki t933) (Reps.none _ _)))); intro v935 w7 ho8 hb hg_ hnew_; clear hg_ hnew_; (first | rw [← Ny934.out] at ho8 | (simp only [Int.reduceToNat] at ho8; rw [← Ny934.out] at ho8)); have HO936 := m0 (Kd.R_lower ho8 (below_size bz)); replace HB := sb HB hb; clear hb ho8; obtain ⟨Ao9, co9, eo9⟩ := Kd.R_slice HO936.out; subst eo9) | ((with_reducible refine gc 68 rfl ?_); refine gl (some 14) Try.func68 #[.slice Ao9 y934.length co9] ?_; (with_reducible refine (L_first.calls k _ _ y934 t937 _ ?side1 ?side2 A4.out).mono ?_); (case side1 => exact bc (Kd.R_reads' HO936.out).2.2); (case side2 => exact (Kd.R_reads' HO936.out).2.1); rintro e w' ⟨rfl, ⟨nd, rfl⟩⟩; refine ⟨_, rfl, ?_⟩) | ((with_reducible refine gc 98 rfl ?_); refine gl (some 19) Try.func98 #[.slice A0 l0.length c0, .func (.func 99) #[] #[]] ?_; (with_reducible refine (api_CloudClass_CheckClasses_1.calls k _ _ l0  t938 t939 _ ?side1 ?side2 A6.out).mono ?_); (case side1 => repeat (first | exact (Kd.C_below HR0.out bz) | (with_reducible refine Kd.C_alloc ?_ _) | (with_reducible refine Kd.C_drewN ?_ _) | (with_reducible refine Kd.C_drew ?_))); (case side2 => exact HC0.out); rintro e w10 ⟨rfl, hb⟩; refine ⟨_, rfl, ?_⟩; replace HO936 := rb HO936 hb; replace HB := sb HB hb; (try clear hb)))
  go_ret2
  exact ez
 ·rw [if_neg c5] at H; have c5b0 := beq_eq_false_iff_ne.mpr c5; have c5b1 := bne_iff_ne.mpr c5; simp only [Option.some.injEq, Prod.mk.injEq] at H; obtain ⟨rfl, rfl⟩ := H; go_enter Try.func55, Try.ntmps55
  go_wp2_with (first | ((with_reducible refine gc 69 rfl ?_); refine goesL_ (some 8) rfl rfl Try.func69 (by kernel_rfl) rfl #[.bool (decide ((l0.length : Int) > 0)), .int .i64 10] rfl (by (try simp only [List.map_toArray, List.map_cons, List.map_nil]); first | done | rfl | (simp only [List.length_drop, List.length_take]; rfl) | (simp; first | done | exact ⟨rfl, rfl⟩)) ?_; (with_reducible refine (L_unless.calls (decide ((l0.length : Int) > 0)) 10 t932 _ A2.out).mono ?_); rintro e w' ⟨rfl, ⟨nd, rfl⟩⟩; refine ⟨_, rfl, ?_⟩) | ((with_reducible refine gc 69 rfl ?_); refine gl (some 12) Try.func69 #[.bool (decide ((l0.length : Int) ≤ 10)), .int .i64 8] ?_; (with_reducible refine (L_unless.calls (decide ((l0.length : Int) ≤ 10)) 8 t933 _ A3.out).mono ?_); rintro e w' ⟨rfl, ⟨nd, rfl⟩⟩; refine ⟨_, rfl, ?_⟩) | ((with_reducible refine ga 13 rfl ?_); refine Kd.R_lit (Kd.int .i64) _ 26 ?hg (N := 13) ?hd (xs := ([t932, t933] : List Int)) (inner := [.int .i64 t932, .int .i64 t933]) (ok := fun _ => True) (okp := fun _ => True) ?hr ?hp (fun _ hk => hk) trivial (Below.refl _ _) (Nat.le_refl _) (by simp) ?_; (case hd => rfl); (case hg => rfl); (case hr => first | (go_simp; done) | (go_simp; rfl)); (case hp => exact (Reps.one (ki t932) (Reps.one (ki t933) (Reps.none _ _)))); intro v935 w11 ho12 hb hg_ hnew_; clear hg_ hnew_; (first | rw [← Ny934.out] at ho12 | (simp only [Int.reduceToNat] at ho12; rw [← Ny934.out] at ho12)); have HO936 := m0 (Kd.R_lower ho12 (below_size bz)); replace HB := sb HB hb; clear hb ho12; obtain ⟨Ao13, co13, eo13⟩ := Kd.R_slice HO936.out; subst eo13) | ((with_reducible refine gc 68 rfl ?_); refine gl (some 14) Try.func68 #[.slice Ao13 y934.length co13] ?_; (with_reducible refine (L_first.calls k _ _ y934 t937 _ ?side1 ?side2 A4.out).mono ?_); (case side1 => exact bc (Kd.R_reads' HO936.out).2.2); (case side2 => exact (Kd.R_reads' HO936.out).2.1); rintro e w' ⟨rfl, ⟨nd, rfl⟩⟩; refine ⟨_, rfl, ?_⟩))
  go_ret2
  exact ez
end
section
def Rf_CopyClasses.f (l0 : List (S143)) : Option ((List (S143))) := (some (([] : List (S143)) : List (S143))).bind fun y940 => (if y940.length + l0.length < 4398046511104 then (some (y940 ++ l0)) else (none))
theorem Rf_CopyClasses.calls (A0 : Option Addr) (c0 : Nat) (l0 : List (S143)) (r : List (S143)) (w : World) (hr0 : Kd.C k143 w A0 l0.length l0) (hc0 : l0.length ≤ c0) (H : Rf_CopyClasses.f l0 = some r) :
  Calls Try.prog 56 #[.slice A0 l0.length c0] w fun e w' => ∃ v0_ : Value, e = .returned (v0_) ∧ Kd.R k143 143 w' w.heap.size (fun _ => True) v0_ r ∧ Below w.heap.size w w' := by
 have HR0 := m0 hr0; have HC0 := m0 hc0; clear hr0 hc0; have HB := m0 (Below.refl w.heap.size w); unfold Rf_CopyClasses.f at H; obtain ⟨y940, hy940⟩ : ∃ y_ : List (S143), y_ = (([] : List (S143))) := ⟨_, rfl⟩; replace H : (if y940.length + l0.length < 4398046511104 then (some (y940 ++ l0)) else (none)) = some r := by first | (rw [hy940]; with_reducible exact H) | (have H2_ := (Option.bind_some _ _).symm.trans H; rw [hy940]; with_reducible exact H2_) | (have H2_ := (Option.bind_some _ _).symm.trans H; with_reducible exact H2_) | with_reducible exact H | (rw [hy940]; exact H) | exact H
 have Ny940 := m0 hy940; clear hy940
 by_cases c2 : y940.length + l0.length < 4398046511104
 ·rw [if_pos c2] at H; have LMc2 := m0 c2; clear c2; obtain ⟨y943, hy943⟩ : ∃ y_ : List (S143), y_ = (y940 ++ l0) := ⟨_, rfl⟩; replace H : (some y943) = some r := by first | (rw [hy943]; with_reducible exact H) | (have H2_ := (Option.bind_some _ _).symm.trans H; rw [hy943]; with_reducible exact H2_) | (have H2_ := (Option.bind_some _ _).symm.trans H; with_reducible exact H2_) | with_reducible exact H | (rw [hy943]; exact H) | exact H
  have Ny943 := m0 hy943; clear hy943; obtain rfl := Option.some.inj H; go_enter Try.func56, Try.ntmps56
  go_wp2_with (first | ((with_reducible refine ga 3 rfl ?_); refine Kd.R_lit k143 _ 143 ?hg (N := 3) ?hd (xs := ([] : List (S143))) (inner := []) (ok := fun _ => True) (okp := fun _ => True) ?hr ?hp (fun _ hk => hk) trivial (Below.refl _ _) (Nat.le_refl _) (by simp) ?_; (case hd => rfl); (case hg => rfl); (case hr => first | (go_simp; done) | (go_simp; rfl)); (case hp => exact (Reps.none _ _)); intro v941 w3 ho4 hb hg_ hnew_; clear hg_ hnew_; (first | rw [← Ny940.out] at ho4 | (simp only [Int.reduceToNat] at ho4; rw [← Ny940.out] at ho4)); have HO942 := m0 (Kd.R_lower ho4 (below_size bz)); replace HB := sb HB hb; clear hb ho4) | ((with_reducible refine gate_builtin (b := .append) (xs := #[.tmp 3, .tmp 4]) rfl ?_); at_builtin; refine Kd.R_append_rows k143 (w0 := w) w.heap.size rfl (.tmp 3) (.tmp 4) 85 143 (.agg #[(.int .i64 0), (.int .i64 0), (.int .i64 0), (.int .i64 0)]) 32 rfl Try.underlying85 info143 rfl (by decide) (by omega) v941 y940 l0 _ _ _ (fun _ => True) (fun _ => False) rfl rfl ?aO ?aR (fun _ _ h => h) (fun _ h => h.elim) ?aF ?aB ?aS ?aL ?_; (case aR => exact cb HR0 HB); (case aB => exact bz); (case aF => exact (fun _ _ => trivial)); (case aO => exact (br HO942.out)); (case aS => exact (below_size bz)); (case aL => have := LMc2.out; omega); intro v944 w5 ho hb hg hat; rw [← Ny943.out] at ho; have n0_ := m0 (hb); have n1_ := m0 (ho); clear HB; clear HO942; have HB := n0_; have HO945 := n1_; clear n0_ n1_; clear ho hb hg hat))
  go_ret
  exact ⟨_, by first | rfl | (simp [errW_none, errW_some] <;> rfl) | (simp [*, errW_none, errW_some] <;> rfl), by (with_reducible repeat (first | apply Kd.R_alloc | apply Kd.R_drewN | apply Kd.R_drew)); exact HO945.out, by repeat (first | (with_reducible first | exact HB.out | apply below_alloc | apply pw_below_drewN | apply below_drew1) | exact HB.out)⟩
 ·rw [if_neg c2] at H; exact absurd H (by simp)
end
section
def L_openClass.f (k : Nat) (l0 : List (S143)) (a1_0 : Int) (a1_1 : Int) : Option (Int) := (L_CheckClasses.f k l0).bind fun bt947 => ((L_isSignal.f a1_0).bind fun t949 => (if t949 = true then ((L_within.f a1_1 0 1000).bind fun t950 => ((L_unless.f t950 2).bind fun t951 => ((L_first.f k (([bt947.2, t951] : List Int))).bind fun t955 => (some t955)))) else ((L_unless.f false 2).bind fun t956 => ((L_first.f k (([bt947.2, t956] : List Int))).bind fun t960 => (some t960)))))
theorem L_openClass.mono : ∀ a0 a1 a2 k, LeO (L_openClass.f k a0 a1 a2) (L_openClass.f (k + 1) a0 a1 a2) := by
 intro a0 a1 a2 k; unfold L_openClass.f
 repeat' with_reducible first
  | exact L_CheckClasses.mono ..
  | exact L_first.mono ..
  | exact LeO.refl ..
  | exact LeO.none ..
  | refine LeO.ite ?_ ?_
  | refine LeO.bind ?_ (fun _ => ?_)
theorem L_openClass.calls (k : Nat) (A0 : Option Addr) (c0 : Nat) (l0 : List (S143)) (a1_0 : Int) (a1_1 : Int) (r : Int) (w : World) (hr0 : Kd.C k143 w A0 l0.length l0) (hc0 : l0.length ≤ c0) (H : L_openClass.f k l0 a1_0 a1_1 = some r) :
  Calls Try.prog 101 #[.slice A0 l0.length c0, .agg #[.int .i64 a1_0, .int .i64 a1_1]] w fun e w' => e = .returned (.int .i64 r) ∧ Below w.heap.size w w' := by
 have hu87 := Try.underlying87; have HR0 := m0 hr0; have HC0 := m0 hc0; clear hr0 hc0; have HB := m0 (Below.refl w.heap.size w); unfold L_openClass.f at H; replace H := oa H; obtain ⟨⟨t947, t948⟩, A3, H⟩ := H; (try dsimp only at H); replace H := oa H; obtain ⟨t949, A4, H⟩ := H; (try dsimp only at H)
 by_cases c5 : t949 = true
 ·subst c5; rw [if_pos rfl] at H; replace H := oa H; obtain ⟨t950, A6, H⟩ := H; (try dsimp only at H); replace H := oa H; obtain ⟨t951, A7, H⟩ := H; (try dsimp only at H); obtain ⟨y952, hy952⟩ : ∃ y_ : List Int, y_ = (([t948, t951] : List Int)) := ⟨_, rfl⟩; replace H : ((L_first.f k y952).bind fun t955 => (some t955)) = some r := by first | (rw [hy952]; with_reducible exact H) | (have H2_ := (Option.bind_some _ _).symm.trans H; rw [hy952]; with_reducible exact H2_) | (have H2_ := (Option.bind_some _ _).symm.trans H; with_reducible exact H2_) | with_reducible exact H | (rw [hy952]; exact H) | exact H
  have Ny952 := m0 hy952; clear hy952; replace H := oa H; obtain ⟨t955, A8, H⟩ := H; (try dsimp only at H); obtain rfl := Option.some.inj H; go_enter Try.func101, Try.ntmps101
  go_wp2_with (first | ((with_reducible refine ga 3 rfl ?_); refine be 3 87 #[.int .i64 a1_0, .int .i64 a1_1] ?_; intro gb946 hg w9 hbox hb; have BK946 := m0 hbox; have GE946 := gw w hg; replace HB := sb HB hb; clear hb hbox hg) | ((with_reducible refine gc 55 rfl ?_); refine gl (some 9) Try.func55 #[.slice A0 l0.length c0] ?_; (with_reducible refine (L_CheckClasses.calls k _ _ l0 t947 t948 _ ?side1 ?side2 A3.out).mono ?_); (case side1 => exact cb HR0 HB); (case side2 => exact HC0.out); rintro e w10 ⟨rfl, hb⟩; refine ⟨_, rfl, ?_⟩; replace BK946 := bb BK946 hb; replace HB := sb HB hb; (try clear hb); obtain ⟨_, _, _, _⟩ := b2 BK946) | ((with_reducible refine gc 90 rfl ?_); refine gl (some 15) Try.func90 #[.int .i64 a1_0] ?_; (with_reducible refine (L_isSignal.calls a1_0 true _ A4.out).mono ?_); rintro e w' ⟨rfl, ⟨nd, rfl⟩⟩; refine ⟨_, rfl, ?_⟩) | (go_at_call 70; (with_reducible refine (L_within.calls a1_1 0 1000 t950 _ A6.out).mono ?_); rintro e w' ⟨rfl, ⟨nd, rfl⟩⟩) | ((with_reducible refine gc 69 rfl ?_); refine gl (some 21) Try.func69 #[.bool t950, .int .i64 2] ?_; (with_reducible refine (L_unless.calls t950 2 t951 _ A7.out).mono ?_); rintro e w' ⟨rfl, ⟨nd, rfl⟩⟩; refine ⟨_, rfl, ?_⟩) | ((with_reducible refine ga 22 rfl ?_); refine Kd.R_lit (Kd.int .i64) _ 26 ?hg (N := 22) ?hd (xs := ([t948, t951] : List Int)) (inner := [.int .i64 t948, .int .i64 t951]) (ok := fun _ => True) (okp := fun _ => True) ?hr ?hp (fun _ hk => hk) trivial (Below.refl _ _) (Nat.le_refl _) (by simp) ?_; (case hd => rfl); (case hg => rfl); (case hr => first | (go_simp; done) | (go_simp; rfl)); (case hp => exact (Reps.one (ki t948) (Reps.one (ki t951) (Reps.none _ _)))); intro v953 w12 ho13 hb hg_ hnew_; clear hg_ hnew_; (first | rw [← Ny952.out] at ho13 | (simp only [Int.reduceToNat] at ho13; rw [← Ny952.out] at ho13)); have HO954 := m0 (Kd.R_lower ho13 (below_size bz)); replace BK946 := bb BK946 hb; replace HB := sb HB hb; clear hb ho13; obtain ⟨Ao14, co14, eo14⟩ := Kd.R_slice HO954.out; subst eo14) | ((with_reducible refine gc 68 rfl ?_); refine gl (some 23) Try.func68 #[.slice Ao14 y952.length co14] ?_; (with_reducible refine (L_first.calls k _ _ y952 t955 _ ?side1 ?side2 A8.out).mono ?_); (case side1 => exact bc (Kd.R_reads' HO954.out).2.2); (case side2 => exact (Kd.R_reads' HO954.out).2.1); rintro e w' ⟨rfl, ⟨nd, rfl⟩⟩; refine ⟨_, rfl, ?_⟩))
  go_ret
  exact ez
 ·replace c5 := Bool.eq_false_iff.mpr c5; subst c5; rw [if_neg (show ¬ (false = true) by decide)] at H; replace H := oa H; obtain ⟨t956, A15, H⟩ := H; (try dsimp only at H); obtain ⟨y957, hy957⟩ : ∃ y_ : List Int, y_ = (([t948, t956] : List Int)) := ⟨_, rfl⟩; replace H : ((L_first.f k y957).bind fun t960 => (some t960)) = some r := by first | (rw [hy957]; with_reducible exact H) | (have H2_ := (Option.bind_some _ _).symm.trans H; rw [hy957]; with_reducible exact H2_) | (have H2_ := (Option.bind_some _ _).symm.trans H; with_reducible exact H2_) | with_reducible exact H | (rw [hy957]; exact H) | exact H
  have Ny957 := m0 hy957; clear hy957; replace H := oa H; obtain ⟨t960, A16, H⟩ := H; (try dsimp only at H); obtain rfl := Option.some.inj H; go_enter Try.func101, Try.ntmps101
  go_wp2_with (first | ((with_reducible refine ga 3 rfl ?_); refine be 3 87 #[.int .i64 a1_0, .int .i64 a1_1] ?_; intro gb946 hg w17 hbox hb; have BK946 := m0 hbox; have GE946 := gw w hg; replace HB := sb HB hb; clear hb hbox hg) | ((with_reducible refine gc 55 rfl ?_); refine gl (some 9) Try.func55 #[.slice A0 l0.length c0] ?_; (with_reducible refine (L_CheckClasses.calls k _ _ l0 t947 t948 _ ?side1 ?side2 A3.out).mono ?_); (case side1 => exact cb HR0 HB); (case side2 => exact HC0.out); rintro e w18 ⟨rfl, hb⟩; refine ⟨_, rfl, ?_⟩; replace BK946 := bb BK946 hb; replace HB := sb HB hb; (try clear hb); obtain ⟨_, _, _, _⟩ := b2 BK946) | ((with_reducible refine gc 90 rfl ?_); refine gl (some 15) Try.func90 #[.int .i64 a1_0] ?_; (with_reducible refine (L_isSignal.calls a1_0 false _ A4.out).mono ?_); rintro e w' ⟨rfl, ⟨nd, rfl⟩⟩; refine ⟨_, rfl, ?_⟩) | ((with_reducible refine gc 69 rfl ?_); refine gl (some 21) Try.func69 #[.bool false, .int .i64 2] ?_; (with_reducible refine (L_unless.calls false 2 t956 _ A15.out).mono ?_); rintro e w' ⟨rfl, ⟨nd, rfl⟩⟩; refine ⟨_, rfl, ?_⟩) | ((with_reducible refine ga 22 rfl ?_); refine Kd.R_lit (Kd.int .i64) _ 26 ?hg (N := 22) ?hd (xs := ([t948, t956] : List Int)) (inner := [.int .i64 t948, .int .i64 t956]) (ok := fun _ => True) (okp := fun _ => True) ?hr ?hp (fun _ hk => hk) trivial (Below.refl _ _) (Nat.le_refl _) (by simp) ?_; (case hd => rfl); (case hg => rfl); (case hr => first | (go_simp; done) | (go_simp; rfl)); (case hp => exact (Reps.one (ki t948) (Reps.one (ki t956) (Reps.none _ _)))); intro v958 w20 ho21 hb hg_ hnew_; clear hg_ hnew_; (first | rw [← Ny957.out] at ho21 | (simp only [Int.reduceToNat] at ho21; rw [← Ny957.out] at ho21)); have HO959 := m0 (Kd.R_lower ho21 (below_size bz)); replace BK946 := bb BK946 hb; replace HB := sb HB hb; clear hb ho21; obtain ⟨Ao22, co22, eo22⟩ := Kd.R_slice HO959.out; subst eo22) | ((with_reducible refine gc 68 rfl ?_); refine gl (some 23) Try.func68 #[.slice Ao22 y957.length co22] ?_; (with_reducible refine (L_first.calls k _ _ y957 t960 _ ?side1 ?side2 A16.out).mono ?_); (case side1 => exact bc (Kd.R_reads' HO959.out).2.2); (case side2 => exact (Kd.R_reads' HO959.out).2.1); rintro e w' ⟨rfl, ⟨nd, rfl⟩⟩; refine ⟨_, rfl, ?_⟩))
  go_ret
  exact ez
end
section
def IsS87 (w0 W : World) (g : Nat) (f0 : Int) (f1 : Int) : Prop := W.heap[g]? = some (.cells #[.int .i64 f0, .int .i64 f1] 87 (0, 0)) ∧ w0.heap.size ≤ g
theorem IsS87.grown {w0 W : World} {g : Nat} {f0 : Int} {f1 : Int} {W1 : World} {row : Option Nat} (h : IsS87 w0 W g f0 f1) (hw : W.grownBy W1 row) (hne : some g ≠ row) : IsS87 w0 W1 g f0 f1 := by
 obtain ⟨hb, hg⟩ := h; exact ⟨blk_grown hb hw hne, hg⟩
theorem IsS87.own_neN {w0 W : World} {g : Nat} {f0 : Int} {f1 : Int} {α : Type} {d : Kd α} {e : Nat} {base : Nat} {ok : Nat → Prop} {v : Value} {xs : List α} (h : IsS87 w0 W g f0 f1) (ho : Kd.N d e W base ok v xs) (ht : e ≠ 87) : some g ≠ v.ownBlock := by
 obtain ⟨hb, hg⟩ := h; exact Kd.N_ne ho hb ht
theorem IsS87.fresh {w0 W : World} {g : Nat} {f0 : Int} {f1 : Int} (h : IsS87 w0 W g f0 f1) : ∀ k, W.heap.size ≤ k → k ≠ g := by
 obtain ⟨hb, hg⟩ := h; exact Kd.freshB hb
theorem IsS87.kept {w0 W : World} {g : Nat} {f0 : Int} {f1 : Int} {W1 : World} {S : Nat → Prop} (h : IsS87 w0 W g f0 f1) (hk : Kept W W1 S) (hne : ¬ S g) : IsS87 w0 W1 g f0 f1 := by
 obtain ⟨hb, hg⟩ := h; exact ⟨blk_kept hb hk hne, hg⟩
theorem IsS87.below {w0 W : World} {g : Nat} {f0 : Int} {f1 : Int} {W1 : World} (h : IsS87 w0 W g f0 f1) (hw : Below W.heap.size W W1) : IsS87 w0 W1 g f0 f1 := h.grown (grown_of_below hw none) (by simp)
theorem IsS87.alloc {w0 W : World} {g : Nat} {f0 : Int} {f1 : Int} (h : IsS87 w0 W g f0 f1) (o : Obj) : IsS87 w0 (W.alloc o) g f0 f1 := h.below (below_alloc (Below.refl _ _) o)
theorem IsS87.drewN {w0 W : World} {g : Nat} {f0 : Int} {f1 : Int} (h : IsS87 w0 W g f0 f1) (m : Nat) : IsS87 w0 (W.drewN m) g f0 f1 := h
theorem IsS87.drew {w0 W : World} {g : Nat} {f0 : Int} {f1 : Int} (h : IsS87 w0 W g f0 f1) : IsS87 w0 W.drew g f0 f1 := h
theorem IsS87.at_ {w0 W : World} {g : Nat} {f0 : Int} {f1 : Int} {w' : World} {m : Nat} (hq : W.drewN m = w') (h : IsS87 w0 W g f0 f1) : IsS87 w0 w' g f0 f1 := by subst hq; exact IsS87.drewN h m
theorem IsS87.apart {w0 W : World} {g : Nat} {f0 : Int} {f1 : Int} {α : Type} {d : Kd α} {e : Nat} {base : Nat} {ok : Nat → Prop} {v : Value} {xs : List α} (h : IsS87 w0 W g f0 f1) (ho : d.R e W base ok v xs) (ht : ∀ q, q ∈ e :: d.E → q ≠ 87) : d.R e W base (fun k => ok k ∧ k ≠ g) v xs := by
 obtain ⟨hb, hg⟩ := h; exact Kd.R_types ho hb ht
theorem IsS87.own_ne {w0 W : World} {g : Nat} {f0 : Int} {f1 : Int} {α : Type} {d : Kd α} {e : Nat} {base : Nat} {ok : Nat → Prop} {v : Value} {xs : List α} (h : IsS87 w0 W g f0 f1) (ho : d.R e W base ok v xs) (ht : e ≠ 87) : some g ≠ v.ownBlock := by
 obtain ⟨hb, hg⟩ := h; exact Kd.R_ne ho hb ht
theorem IsS87.apartQ {w0 W : World} {g : Nat} {f0 : Int} {f1 : Int} {α : Type} {d : Kd α} {e : Nat} {base : Nat} {ok : Nat → Prop} {v : Value} {xs : List α} (h : IsS87 w0 W g f0 f1) (ho : d.Q e W base ok v xs) (ht : ∀ q, q ∈ e :: d.E → q ≠ 87) : d.Q e W base (fun k => ok k ∧ k ≠ g) v xs := by
 obtain ⟨hb, hg⟩ := h; exact Kd.Q_types ho hb ht
theorem IsS87.own_neQ {w0 W : World} {g : Nat} {f0 : Int} {f1 : Int} {α : Type} {d : Kd α} {e : Nat} {base : Nat} {ok : Nat → Prop} {v : Value} {xs : List α} (h : IsS87 w0 W g f0 f1) (ho : d.Q e W base ok v xs) (ht : e ≠ 87) : some g ≠ v.ownBlock := by
 obtain ⟨hb, hg⟩ := h; exact Kd.Q_ne ho hb ht
theorem IsS87.apartS {w0 W : World} {g : Nat} {f0 : Int} {f1 : Int} {α : Type} {d : Kd α} {e : Nat} {base : Nat} {ok : Nat → Prop} {v : Value} {xs : List α} (h : IsS87 w0 W g f0 f1) (ho : d.S e W base ok v xs) (ht : ∀ q, q ∈ e :: d.E → q ≠ 87) : d.S e W base (fun k => ok k ∧ k ≠ g) v xs := by
 obtain ⟨hb, hg⟩ := h; exact Kd.S_types ho hb ht
theorem IsS87.own_neS {w0 W : World} {g : Nat} {f0 : Int} {f1 : Int} {α : Type} {d : Kd α} {e : Nat} {base : Nat} {ok : Nat → Prop} {v : Value} {xs : List α} (h : IsS87 w0 W g f0 f1) (ho : d.S e W base ok v xs) (ht : e ≠ 87) : some g ≠ v.ownBlock := by
 obtain ⟨hb, hg⟩ := h; exact Kd.S_ne ho hb ht
theorem IsS87.lt {w0 W : World} {g : Nat} {f0 : Int} {f1 : Int} (h : IsS87 w0 W g f0 f1) : g < W.heap.size := by
 obtain ⟨hb, hg⟩ := h; exact blk_lt hb
theorem IsS87.ge {w0 W : World} {g : Nat} {f0 : Int} {f1 : Int} (h : IsS87 w0 W g f0 f1) : w0.heap.size ≤ g := by
 obtain ⟨hb, hg⟩ := h; exact hg
theorem IsS87.ne_blk {w0 W : World} {g : Nat} {f0 : Int} {f1 : Int} {a : Nat} {cs : Array Value} {t : TypeId} {fr : Nat × Nat} (h : IsS87 w0 W g f0 f1) (hb2 : W.heap[a]? = some (.cells cs t fr)) (ht : t ≠ 87) : g ≠ a := by
 obtain ⟨hb, hg⟩ := h; rintro rfl; rw [hb] at hb2
 injection hb2 with hb2
 injection hb2 with _ ht2
 exact ht ht2.symm
theorem IsS87.far {w0 W : World} {g : Nat} {f0 : Int} {f1 : Int} {p : Addr} (h : IsS87 w0 W g f0 f1) (hne : g ≠ p.block) (u : Value) : IsS87 w0 (W.setCell p u) g f0 f1 := by
 obtain ⟨hb, hg⟩ := h; exact ⟨blk_far hb hne u, hg⟩
theorem cellS87_0 {W : World} {g : Nat} {f0 : Int} {f1 : Int} (h : W.heap[g]? = some (.cells #[.int .i64 f0, .int .i64 f1] 87 (0, 0))) : W.cell? ⟨g, 0, none⟩ = some (.int .i64 f0) := (blk_cell h 0).trans rfl
theorem IsS87.set_0 {w0 W : World} {g : Nat} {f0 : Int} {f1 : Int} (h : IsS87 w0 W g f0 f1) (x : Int) : IsS87 w0 (W.setCell ⟨g, 0, none⟩ (.int .i64 x)) g x f1 := by
 obtain ⟨hb, hg⟩ := h; exact ⟨by simpa using blk_set hb 0 (.int .i64 x), hg⟩
theorem cellS87_1 {W : World} {g : Nat} {f0 : Int} {f1 : Int} (h : W.heap[g]? = some (.cells #[.int .i64 f0, .int .i64 f1] 87 (0, 0))) : W.cell? ⟨g, 1, none⟩ = some (.int .i64 f1) := (blk_cell h 1).trans rfl
theorem IsS87.set_1 {w0 W : World} {g : Nat} {f0 : Int} {f1 : Int} (h : IsS87 w0 W g f0 f1) (x : Int) : IsS87 w0 (W.setCell ⟨g, 1, none⟩ (.int .i64 x)) g f0 x := by
 obtain ⟨hb, hg⟩ := h; exact ⟨by simpa using blk_set hb 1 (.int .i64 x), hg⟩
theorem IsS87.new (w0 W : World) (f0 : Int) (f1 : Int) (hB : Below w0.heap.size w0 W) : IsS87 w0 (W.alloc (.cells #[.int .i64 f0, .int .i64 f1] 87)) W.heap.size f0 f1 := ⟨by simpa using heap_alloc_new W _, hB.size⟩
def L_classOf_1.f (a0_0 : Int) (a0_1 : Int) (a0_2 : Int) (a0_3 : Int) (s1_0 : Int) (s1_1 : Int) : Option (Bool × Int × Int) := (L_within.f s1_0 a0_0 a0_1).bind fun t962 => (if t962 = true then ((L_within.f s1_1 a0_2 a0_3).bind fun t963 => (some (t963, s1_0, s1_1))) else (some (false, s1_0, s1_1)))
theorem L_classOf_1.calls (a0_0 : Int) (a0_1 : Int) (a0_2 : Int) (a0_3 : Int) (g : Nat) (s1_0 : Int) (s1_1 : Int) (r1 : Bool) (r2 : Int) (r3 : Int) (w0 w : World) (hI : IsS87 w0 w g s1_0 s1_1) (hB : Below w0.heap.size w0 w) (H : L_classOf_1.f a0_0 a0_1 a0_2 a0_3 s1_0 s1_1 = some (r1, r2, r3)) :
  Calls Try.prog 121 #[.agg #[.int .i64 a0_0, .int .i64 a0_1, .int .i64 a0_2, .int .i64 a0_3], .pointer (some ⟨g, 0, none⟩)] w fun e w' => e = .returned (.bool r1) ∧ IsS87 w0 w' g r2 r3 ∧ Below w0.heap.size w0 w' ∧ KeepBut w w' g none := by
 have hu143 := Try.underlying143; have HI1 := m0 hI; have HK := m0 (KeepBut.refl w g none); have HL := m0 hB.size; clear hI; have HW0 := m0 hB.size; have HB := m0 hB; clear hB; unfold L_classOf_1.f at H; replace H := oa H; obtain ⟨t962, A3, H⟩ := H; (try dsimp only at H)
 by_cases c4 : t962 = true
 ·subst c4; rw [if_pos rfl] at H; replace H := oa H; obtain ⟨t963, A5, H⟩ := H; (try dsimp only at H); simp only [Option.some.injEq, Prod.mk.injEq] at H; obtain ⟨rfl, rfl, rfl⟩ := H; go_enter Try.func121, Try.ntmps121
  go_wp2_with (first | ((with_reducible refine ga 2 rfl ?_); refine be 2 143 #[.int .i64 a0_0, .int .i64 a0_1, .int .i64 a0_2, .int .i64 a0_3] ?_; intro gb961 hg w6 hbox hb; replace HB := m0 (below_step (by repeat (first | (with_reducible first | exact HB.out | apply below_alloc | apply pw_below_drewN | apply below_drew1 | refine below_set ?_ (IsS87.ge HI1.out)) | exact HB.out)) hb); have BK961 := m0 hbox; have GW961 := m0 ((by rw [hg]; exact (keep_size (w := w) (g := g) (row := none) (by repeat (first | (with_reducible first | exact HK.out | apply KeepBut.set_ | apply keep_drewN | apply keep_drew | apply keep_alloc) | exact HK.out))) : w.heap.size ≤ gb961)); have GE961 := m0 ((Nat.le_trans HW0.out (by rw [hg]; exact (keep_size (w := w) (g := g) (row := none) (by repeat (first | (with_reducible first | exact HK.out | apply KeepBut.set_ | apply keep_drewN | apply keep_drew | apply keep_alloc) | exact HK.out))) : w.heap.size ≤ gb961) : w0.heap.size ≤ gb961)); replace HK := m0 (KeepBut.trans (by repeat (first | (with_reducible first | exact HK.out | apply KeepBut.set_ | apply keep_drewN | apply keep_drew | apply keep_alloc) | exact HK.out)) (KeepBut.of_below hb g none) (.inl rfl)); have NB1_961 := m0 ((by rw [hg]; exact Nat.ne_of_lt (IsS87.lt (show IsS87 w0 _ g s1_0 s1_1 from by repeat (first | (with_reducible first | exact HI1.out | apply IsS87.alloc | apply IsS87.drewN | apply IsS87.drew | apply IsS87.set_0 | apply IsS87.set_1) | exact HI1.out))) : g ≠ gb961)); have NB961_1 := m0 ((by rw [hg]; exact Nat.ne_of_gt (IsS87.lt (show IsS87 w0 _ g s1_0 s1_1 from by repeat (first | (with_reducible first | exact HI1.out | apply IsS87.alloc | apply IsS87.drewN | apply IsS87.drew | apply IsS87.set_0 | apply IsS87.set_1) | exact HI1.out))) : gb961 ≠ g)); replace HI1 := m0 (IsS87.below (by repeat (first | (with_reducible first | exact HI1.out | apply IsS87.alloc | apply IsS87.drewN | apply IsS87.drew | apply IsS87.set_0 | apply IsS87.set_1) | exact HI1.out)) hb); clear hb hbox hg; obtain ⟨HGz7, hgz7⟩ := HI1.out; have hcz7_0 := cellS87_0 HGz7; have hcz7_1 := cellS87_1 HGz7; have hfz7_0 := blk_frozen HGz7 0; have hfz7_1 := blk_frozen HGz7 1; clear HGz7 hgz7; have hnb8 := NB961_1.out; have hnc8 := NB1_961.out; obtain ⟨_, _, _, _, _, _, _, _⟩ := b4 BK961) | ((with_reducible refine gc 70 rfl ?_); refine gl (some 12) Try.func70 #[.int .i64 s1_0, .int .i64 a0_0, .int .i64 a0_1] ?_; (with_reducible refine (L_within.calls s1_0 a0_0 a0_1 true _ A3.out).mono ?_); rintro e w' ⟨rfl, ⟨nd, rfl⟩⟩; refine ⟨_, rfl, ?_⟩) | (go_at_call 70; (with_reducible refine (L_within.calls s1_1 a0_2 a0_3 t963 _ A5.out).mono ?_); rintro e w' ⟨rfl, ⟨nd, rfl⟩⟩))
  go_ret
  exact ⟨by first | rfl | (simp [errW_none, errW_some] <;> rfl) | (simp [*, errW_none, errW_some] <;> rfl), by repeat (first | (with_reducible first | exact HI1.out | apply IsS87.alloc | apply IsS87.drewN | apply IsS87.drew | apply IsS87.set_0 | apply IsS87.set_1 | refine IsS87.far ?_ NB1_961.out _) | exact HI1.out), by repeat (first | (with_reducible first | exact HB.out | apply below_alloc | apply pw_below_drewN | apply below_drew1 | refine below_set ?_ (IsS87.ge HI1.out) | refine below_set ?_ GE961.out) | exact HB.out), by repeat (first | (with_reducible first | exact HK.out | apply KeepBut.set_ | apply keep_drewN | apply keep_drew | apply keep_alloc | refine keep_far ?_ GW961.out _) | exact HK.out)⟩
 ·replace c4 := Bool.eq_false_iff.mpr c4; subst c4; rw [if_neg (show ¬ (false = true) by decide)] at H; simp only [Option.some.injEq, Prod.mk.injEq] at H; obtain ⟨rfl, rfl, rfl⟩ := H; go_enter Try.func121, Try.ntmps121
  go_wp2_with (first | ((with_reducible refine ga 2 rfl ?_); refine be 2 143 #[.int .i64 a0_0, .int .i64 a0_1, .int .i64 a0_2, .int .i64 a0_3] ?_; intro gb961 hg w10 hbox hb; replace HB := m0 (below_step (by repeat (first | (with_reducible first | exact HB.out | apply below_alloc | apply pw_below_drewN | apply below_drew1 | refine below_set ?_ (IsS87.ge HI1.out)) | exact HB.out)) hb); have BK961 := m0 hbox; have GW961 := m0 ((by rw [hg]; exact (keep_size (w := w) (g := g) (row := none) (by repeat (first | (with_reducible first | exact HK.out | apply KeepBut.set_ | apply keep_drewN | apply keep_drew | apply keep_alloc) | exact HK.out))) : w.heap.size ≤ gb961)); have GE961 := m0 ((Nat.le_trans HW0.out (by rw [hg]; exact (keep_size (w := w) (g := g) (row := none) (by repeat (first | (with_reducible first | exact HK.out | apply KeepBut.set_ | apply keep_drewN | apply keep_drew | apply keep_alloc) | exact HK.out))) : w.heap.size ≤ gb961) : w0.heap.size ≤ gb961)); replace HK := m0 (KeepBut.trans (by repeat (first | (with_reducible first | exact HK.out | apply KeepBut.set_ | apply keep_drewN | apply keep_drew | apply keep_alloc) | exact HK.out)) (KeepBut.of_below hb g none) (.inl rfl)); have NB1_961 := m0 ((by rw [hg]; exact Nat.ne_of_lt (IsS87.lt (show IsS87 w0 _ g s1_0 s1_1 from by repeat (first | (with_reducible first | exact HI1.out | apply IsS87.alloc | apply IsS87.drewN | apply IsS87.drew | apply IsS87.set_0 | apply IsS87.set_1) | exact HI1.out))) : g ≠ gb961)); have NB961_1 := m0 ((by rw [hg]; exact Nat.ne_of_gt (IsS87.lt (show IsS87 w0 _ g s1_0 s1_1 from by repeat (first | (with_reducible first | exact HI1.out | apply IsS87.alloc | apply IsS87.drewN | apply IsS87.drew | apply IsS87.set_0 | apply IsS87.set_1) | exact HI1.out))) : gb961 ≠ g)); replace HI1 := m0 (IsS87.below (by repeat (first | (with_reducible first | exact HI1.out | apply IsS87.alloc | apply IsS87.drewN | apply IsS87.drew | apply IsS87.set_0 | apply IsS87.set_1) | exact HI1.out)) hb); clear hb hbox hg; obtain ⟨HGz11, hgz11⟩ := HI1.out; have hcz11_0 := cellS87_0 HGz11; have hcz11_1 := cellS87_1 HGz11; have hfz11_0 := blk_frozen HGz11 0; have hfz11_1 := blk_frozen HGz11 1; clear HGz11 hgz11; have hnb12 := NB961_1.out; have hnc12 := NB1_961.out; obtain ⟨_, _, _, _, _, _, _, _⟩ := b4 BK961) | ((with_reducible refine gc 70 rfl ?_); refine gl (some 12) Try.func70 #[.int .i64 s1_0, .int .i64 a0_0, .int .i64 a0_1] ?_; (with_reducible refine (L_within.calls s1_0 a0_0 a0_1 false _ A3.out).mono ?_); rintro e w' ⟨rfl, ⟨nd, rfl⟩⟩; refine ⟨_, rfl, ?_⟩))
  go_ret
  exact ⟨by first | rfl | (simp [errW_none, errW_some] <;> rfl) | (simp [*, errW_none, errW_some] <;> rfl), by repeat (first | (with_reducible first | exact HI1.out | apply IsS87.alloc | apply IsS87.drewN | apply IsS87.drew | apply IsS87.set_0 | apply IsS87.set_1 | refine IsS87.far ?_ NB1_961.out _) | exact HI1.out), by repeat (first | (with_reducible first | exact HB.out | apply below_alloc | apply pw_below_drewN | apply below_drew1 | refine below_set ?_ (IsS87.ge HI1.out) | refine below_set ?_ GE961.out) | exact HB.out), by repeat (first | (with_reducible first | exact HK.out | apply KeepBut.set_ | apply keep_drewN | apply keep_drew | apply keep_alloc | refine keep_far ?_ GW961.out _) | exact HK.out)⟩
end
section
def api_CloudClass_classOf_1.l0 : Nat → List (S143) → Int → Int → Int → Int → Option (Int × Int × Int)
 | 0, _, _, _, _, _ => none
 | k + 1, x0, x7, x8, x2000, x2001 => if x8 < x7 then (if 0 ≤ x8 then (if x8 < (x0.length : Int) then ((L_classOf_1.f ((rd_T143 x0 x8).f0.f0) ((rd_T143 x0 x8).f0.f1) ((rd_T143 x0 x8).f1.f0) ((rd_T143 x0 x8).f1.f1) x2000 x2001).bind fun bt965 => (if bt965.1 = true then (some (x8, bt965.2.1, bt965.2.2)) else (api_CloudClass_classOf_1.l0 k x0 x7 (wrap64 (x8 + 1)) bt965.2.1 bt965.2.2))) else (none)) else (none)) else (some ((-1), x2000, x2001))
def api_CloudClass_classOf_1.f (k : Nat) (l0 : List (S143)) (s1_0 : Int) (s1_1 : Int) : Option (Int × Int × Int) := api_CloudClass_classOf_1.l0 k l0 (l0.length : Int) 0 s1_0 s1_1
theorem api_CloudClass_classOf_1.mono_l : ∀ k, (∀ y0 y1 y2 y3 y4, LeO (api_CloudClass_classOf_1.l0 k y0 y1 y2 y3 y4) (api_CloudClass_classOf_1.l0 (k + 1) y0 y1 y2 y3 y4))
 | 0 => fun _ _ _ _ _ r h => by simp [api_CloudClass_classOf_1.l0] at h
 | k + 1 => by
  have ih0 := api_CloudClass_classOf_1.mono_l k
  ·intro y0 y1 y2 y3 y4; unfold api_CloudClass_classOf_1.l0
   repeat' with_reducible first
    | exact ih0 ..
    | exact LeO.refl ..
    | exact LeO.none ..
    | refine LeO.ite ?_ ?_
    | refine LeO.bind ?_ (fun _ => ?_)
theorem api_CloudClass_classOf_1.mono : ∀ a0 a1 a2 k, LeO (api_CloudClass_classOf_1.f k a0 a1 a2) (api_CloudClass_classOf_1.f (k + 1) a0 a1 a2) := by
 intro a0 a1 a2 k; have ih0 := api_CloudClass_classOf_1.mono_l k; unfold api_CloudClass_classOf_1.f
 repeat' with_reducible first
  | exact ih0 ..
  | exact LeO.refl ..
  | exact LeO.none ..
  | refine LeO.ite ?_ ?_
  | refine LeO.bind ?_ (fun _ => ?_)
theorem api_CloudClass_classOf_1.calls (k : Nat) (A0 : Option Addr) (c0 : Nat) (l0 : List (S143)) (g : Nat) (s1_0 : Int) (s1_1 : Int) (r1 : Int) (r2 : Int) (r3 : Int) (w0 w : World) (hI : IsS87 w0 w g s1_0 s1_1) (hB : Below w0.heap.size w0 w) (hr0 : ∀ W_, KeepBut w W_ g none → Kd.C k143 W_ A0 l0.length l0) (hc0 : l0.length ≤ c0) (H : api_CloudClass_classOf_1.f k l0 s1_0 s1_1 = some (r1, r2, r3)) :
  Calls Try.prog 120 #[.slice A0 l0.length c0, .func (.func 121) #[] #[.pointer (some ⟨g, 0, none⟩)]] w fun e w' => e = .returned (.int .i64 r1) ∧ IsS87 w0 w' g r2 r3 ∧ Below w0.heap.size w0 w' ∧ KeepBut w w' g none := by
 have hu143 := Try.underlying143; have HR0 := m0 hr0; have HC0 := m0 hc0; clear hr0 hc0; have HI1 := m0 hI; have HK := m0 (KeepBut.refl w g none); have HL := m0 hB.size; clear hI; have HW0 := m0 hB.size; have HB := m0 hB; clear hB; unfold api_CloudClass_classOf_1.f at H; have H' := m0 H; clear H; go_enter Try.func120, Try.ntmps120
 go_wp2
 go_loopg [8] k (fun kq v8 w' => ∃ (x8_1 : Int) (x2000_1 : Int) (x2001_1 : Int), v8 = .int .i64 x8_1 ∧ Aside0 (api_CloudClass_classOf_1.l0 kq l0 (l0.length : Int) x8_1 x2000_1 x2001_1 = some (r1, r2, r3)) ∧ Aside0 (kq ≤ k) ∧ Aside0 (IsS87 w0 w' g x2000_1 x2001_1) ∧ Aside0 (KeepBut w w' g none) ∧ Aside0 (Below w0.heap.size w0 w'))
 case atStart => exact ⟨(0), (s1_0), (s1_1), rz, H', ⟨Nat.le_refl _⟩, ⟨by repeat (first | (with_reducible first | exact HI1.out | apply IsS87.alloc | apply IsS87.drewN | apply IsS87.drew | apply IsS87.set_0 | apply IsS87.set_1) | exact HI1.out)⟩, ⟨by repeat (first | (with_reducible first | exact HK.out | apply KeepBut.set_ | apply keep_drewN | apply keep_drew | apply keep_alloc) | exact HK.out)⟩, ⟨by repeat (first | (with_reducible first | exact HB.out | apply below_alloc | apply pw_below_drewN | apply below_drew1 | refine below_set ?_ (IsS87.ge HI1.out)) | exact HB.out)⟩⟩
 case round =>
  clear H'; obtain ⟨x8_1, x2000_1, x2001_1, rfl, HA, HK1, HI1, HK, HB⟩ := hrel
  cases gk with
  | zero => exact absurd HA.out (by simp [api_CloudClass_classOf_1.l0])
  | succ k1 =>
   have H := HA.out; clear HA; simp only [api_CloudClass_classOf_1.l0] at H
   by_cases c3 : x8_1 < (l0.length : Int)
   ·rw [if_pos c3] at H; have c3b0 := decide_eq_true c3; clear c3
    by_cases c4 : 0 ≤ x8_1
    ·rw [if_pos c4] at H; have c4b0 := decide_eq_true c4; clear c4
     by_cases c5 : x8_1 < (l0.length : Int)
     ·rw [if_pos c5] at H; have c5b0 := decide_eq_true c5; clear c5; replace H := oa H; obtain ⟨⟨t965, t966, t967⟩, A6, H⟩ := H; (try dsimp only at H)
      by_cases c7 : t965 = true
      ·subst c7; rw [if_pos rfl] at H; simp only [Option.some.injEq, Prod.mk.injEq] at H; obtain ⟨rfl, rfl, rfl⟩ := H; have p964 : 0 ≤ (x8_1 : Int) := od; have q964 : x8_1 < (l0.length : Int) := od; obtain ⟨ad964, e964, hx964_0, hx964_1, hx964_2, hx964_3⟩ := at_T143 (Kd.C_foot_now HR0.out HK.out) x8_1 p964 q964
       cases e964
       replace p964 := eq_true p964; replace q964 := eq_true q964
       go_wp2_with (first | (go_at_call 121; (with_reducible refine (L_classOf_1.calls ((rd_T143 l0 x8_1).f0.f0) ((rd_T143 l0 x8_1).f0.f1) ((rd_T143 l0 x8_1).f1.f0) ((rd_T143 l0 x8_1).f1.f1) g x2000_1 x2001_1 true t966 t967 w0 _ ?side1 ?side2 A6.out).mono ?_); (case side1 => repeat (first | (with_reducible first | exact HI1.out | apply IsS87.alloc | apply IsS87.drewN | apply IsS87.drew | apply IsS87.set_0 | apply IsS87.set_1) | exact HI1.out)); (case side2 => repeat (first | (with_reducible first | exact HB.out | apply below_alloc | apply pw_below_drewN | apply below_drew1 | refine below_set ?_ (IsS87.ge HI1.out)) | exact HB.out)); rintro e w8 ⟨rfl, hi, hb, hk⟩; replace HK := m0 (KeepBut.trans (by repeat (first | (with_reducible first | exact HK.out | apply KeepBut.set_ | apply keep_drewN | apply keep_drew | apply keep_alloc) | exact HK.out)) hk (.inl rfl)); replace HB := m0 (hb); replace HI1 := m0 (hi); (try clear hb)))
       go_ret
       exact ⟨by first | rfl | (simp [errW_none, errW_some] <;> rfl) | (simp [*, errW_none, errW_some] <;> rfl), by repeat (first | (with_reducible first | exact HI1.out | apply IsS87.alloc | apply IsS87.drewN | apply IsS87.drew | apply IsS87.set_0 | apply IsS87.set_1) | exact HI1.out), by repeat (first | (with_reducible first | exact HB.out | apply below_alloc | apply pw_below_drewN | apply below_drew1 | refine below_set ?_ (IsS87.ge HI1.out)) | exact HB.out), by repeat (first | (with_reducible first | exact HK.out | apply KeepBut.set_ | apply keep_drewN | apply keep_drew | apply keep_alloc) | exact HK.out)⟩
      ·replace c7 := Bool.eq_false_iff.mpr c7; subst c7; rw [if_neg (show ¬ (false = true) by decide)] at H; have H' := m0 H; clear H; have p964 : 0 ≤ (x8_1 : Int) := od; have q964 : x8_1 < (l0.length : Int) := od; obtain ⟨ad964, e964, hx964_0, hx964_1, hx964_2, hx964_3⟩ := at_T143 (Kd.C_foot_now HR0.out HK.out) x8_1 p964 q964
       cases e964
       replace p964 := eq_true p964; replace q964 := eq_true q964
       go_wp2_with (first | (go_at_call 121; (with_reducible refine (L_classOf_1.calls ((rd_T143 l0 x8_1).f0.f0) ((rd_T143 l0 x8_1).f0.f1) ((rd_T143 l0 x8_1).f1.f0) ((rd_T143 l0 x8_1).f1.f1) g x2000_1 x2001_1 false t966 t967 w0 _ ?side1 ?side2 A6.out).mono ?_); (case side1 => repeat (first | (with_reducible first | exact HI1.out | apply IsS87.alloc | apply IsS87.drewN | apply IsS87.drew | apply IsS87.set_0 | apply IsS87.set_1) | exact HI1.out)); (case side2 => repeat (first | (with_reducible first | exact HB.out | apply below_alloc | apply pw_below_drewN | apply below_drew1 | refine below_set ?_ (IsS87.ge HI1.out)) | exact HB.out)); rintro e w9 ⟨rfl, hi, hb, hk⟩; replace HK := m0 (KeepBut.trans (by repeat (first | (with_reducible first | exact HK.out | apply KeepBut.set_ | apply keep_drewN | apply keep_drew | apply keep_alloc) | exact HK.out)) hk (.inl rfl)); replace HB := m0 (hb); replace HI1 := m0 (hi); (try clear hb)))
       go_roundg k1
       case measure => have := HK1.out; omega
       case rel => exact ⟨(wrap64 (x8_1 + 1)), (t966), (t967), rz, H', ⟨by have := HK1.out; omega⟩, ⟨by repeat (first | (with_reducible first | exact HI1.out | apply IsS87.alloc | apply IsS87.drewN | apply IsS87.drew | apply IsS87.set_0 | apply IsS87.set_1) | exact HI1.out)⟩, ⟨by repeat (first | (with_reducible first | exact HK.out | apply KeepBut.set_ | apply keep_drewN | apply keep_drew | apply keep_alloc) | exact HK.out)⟩, ⟨by repeat (first | (with_reducible first | exact HB.out | apply below_alloc | apply pw_below_drewN | apply below_drew1 | refine below_set ?_ (IsS87.ge HI1.out)) | exact HB.out)⟩⟩
     ·rw [if_neg c5] at H; exact absurd H (by simp)
    ·rw [if_neg c4] at H; exact absurd H (by simp)
   ·rw [if_neg c3] at H; have c3b0 := decide_eq_false c3; clear c3; simp only [Option.some.injEq, Prod.mk.injEq] at H; obtain ⟨rfl, rfl, rfl⟩ := H
    go_wp2
    go_ret
    exact ⟨by first | rfl | (simp [errW_none, errW_some] <;> rfl) | (simp [*, errW_none, errW_some] <;> rfl), by repeat (first | (with_reducible first | exact HI1.out | apply IsS87.alloc | apply IsS87.drewN | apply IsS87.drew | apply IsS87.set_0 | apply IsS87.set_1) | exact HI1.out), by repeat (first | (with_reducible first | exact HB.out | apply below_alloc | apply pw_below_drewN | apply below_drew1 | refine below_set ?_ (IsS87.ge HI1.out)) | exact HB.out), by repeat (first | (with_reducible first | exact HK.out | apply KeepBut.set_ | apply keep_drewN | apply keep_drew | apply keep_alloc) | exact HK.out)⟩
end
section
def L_classOf.f (k : Nat) (l0 : List (S143)) (a1_0 : Int) (a1_1 : Int) : Option (Int) := (api_CloudClass_classOf_1.f k l0 a1_0 a1_1).bind fun bt969 => (some bt969.1)
theorem L_classOf.mono : ∀ a0 a1 a2 k, LeO (L_classOf.f k a0 a1 a2) (L_classOf.f (k + 1) a0 a1 a2) := by
 intro a0 a1 a2 k; unfold L_classOf.f
 repeat' with_reducible first
  | exact api_CloudClass_classOf_1.mono ..
  | exact LeO.refl ..
  | exact LeO.none ..
  | refine LeO.ite ?_ ?_
  | refine LeO.bind ?_ (fun _ => ?_)
theorem L_classOf.calls (k : Nat) (A0 : Option Addr) (c0 : Nat) (l0 : List (S143)) (a1_0 : Int) (a1_1 : Int) (r : Int) (w : World) (hr0 : Kd.C k143 w A0 l0.length l0) (hc0 : l0.length ≤ c0) (H : L_classOf.f k l0 a1_0 a1_1 = some r) :
  Calls Try.prog 102 #[.slice A0 l0.length c0, .agg #[.int .i64 a1_0, .int .i64 a1_1]] w fun e w' => e = .returned (.int .i64 r) ∧ Below w.heap.size w w' := by
 have hu87 := Try.underlying87; have HR0 := m0 hr0; have HC0 := m0 hc0; clear hr0 hc0; have HB := m0 (Below.refl w.heap.size w); unfold L_classOf.f at H; replace H := oa H; obtain ⟨⟨t969, t970, t971⟩, A3, H⟩ := H; (try dsimp only at H); obtain rfl := Option.some.inj H; go_enter Try.func102, Try.ntmps102
 go_wp2_with (first | ((with_reducible refine ga 3 rfl ?_); refine be 3 87 #[.int .i64 a1_0, .int .i64 a1_1] ?_; intro gb968 hg w4 hbox hb; have BK968 := m0 hbox; have GE968 := gw w hg; have HI968 := m0 ((show IsS87 w w4 gb968 a1_0 a1_1 from ⟨hbox, (by rw [hg]; exact (below_size bz) : w.heap.size ≤ gb968)⟩)); replace HB := sb HB hb; clear hb hbox hg) | ((with_reducible refine gc 120 rfl ?_); refine gl (some 7) Try.func120 #[.slice A0 l0.length c0, .func (.func 121) #[] #[.pointer (some ⟨gb968, 0, none⟩)]] ?_; (with_reducible refine (api_CloudClass_classOf_1.calls k _ _ l0 gb968 a1_0 a1_1 t969 t970 t971 w _ ?side1 ?side2 ?side3 ?side4 A3.out).mono ?_); (case side1 => repeat (first | (with_reducible first | exact HI968.out | apply IsS87.alloc | apply IsS87.drewN | apply IsS87.drew | apply IsS87.set_0 | apply IsS87.set_1) | exact HI968.out)); (case side2 => repeat (first | (with_reducible first | exact HB.out | apply below_alloc | apply pw_below_drewN | apply below_drew1 | refine below_set ?_ (IsS87.ge HI968.out)) | exact HB.out)); (case side3 => exact Kd.C_foot_came k143_heap HR0.out (by repeat (first | (with_reducible first | exact HB.out | apply below_alloc | apply pw_below_drewN | apply below_drew1 | refine below_set ?_ (IsS87.ge HI968.out)) | exact HB.out)) (IsS87.ge HI968.out)); (case side4 => exact HC0.out); rintro e w5 ⟨rfl, hi, hb, hk⟩; refine ⟨_, rfl, ?_⟩; replace HB := m0 (hb); replace HI968 := m0 (hi); (try clear hb)))
 go_ret
 exact ⟨by first | rfl | (simp [errW_none, errW_some] <;> rfl) | (simp [*, errW_none, errW_some] <;> rfl), by repeat (first | (with_reducible first | exact HB.out | apply below_alloc | apply pw_below_drewN | apply below_drew1 | refine below_set ?_ (IsS87.ge HI968.out)) | exact HB.out)⟩
end
section
def L_ClassOf.f (k : Nat) (l0 : List (S143)) (a1_0 : Int) (a1_1 : Int) : Option (Int × Int) := (L_openClass.f k l0 a1_0 a1_1).bind fun t973 => (if t973 = 0 then ((L_classOf.f k l0 a1_0 a1_1).bind fun t974 => ((L_unless.f (decide (t974 ≥ 0)) 12).bind fun t975 => (some (mx t974 0, t975)))) else (some (0, t973)))
theorem L_ClassOf.mono : ∀ a0 a1 a2 k, LeO (L_ClassOf.f k a0 a1 a2) (L_ClassOf.f (k + 1) a0 a1 a2) := by
 intro a0 a1 a2 k; unfold L_ClassOf.f
 repeat' with_reducible first
  | exact L_classOf.mono ..
  | exact L_openClass.mono ..
  | exact LeO.refl ..
  | exact LeO.none ..
  | refine LeO.ite ?_ ?_
  | refine LeO.bind ?_ (fun _ => ?_)
theorem L_ClassOf.calls (k : Nat) (A0 : Option Addr) (c0 : Nat) (l0 : List (S143)) (a1_0 : Int) (a1_1 : Int) (r1 : Int) (r2 : Int) (w : World) (hr0 : Kd.C k143 w A0 l0.length l0) (hc0 : l0.length ≤ c0) (H : L_ClassOf.f k l0 a1_0 a1_1 = some (r1, r2)) :
  Calls Try.prog 57 #[.slice A0 l0.length c0, .agg #[.int .i64 a1_0, .int .i64 a1_1]] w fun e w' => e = .returned (.tuple #[.int .i64 r1, .int .i64 r2]) ∧ Below w.heap.size w w' := by
 have hu87 := Try.underlying87; have HR0 := m0 hr0; have HC0 := m0 hc0; clear hr0 hc0; have HB := m0 (Below.refl w.heap.size w); unfold L_ClassOf.f at H; replace H := oa H; obtain ⟨t973, A3, H⟩ := H; (try dsimp only at H)
 by_cases c4 : t973 = 0
 ·rw [if_pos c4] at H; have c4b0 := beq_iff_eq.mpr c4; have c4b1 := bne_eq_false_iff_eq.mpr c4; clear c4; replace H := oa H; obtain ⟨t974, A5, H⟩ := H; (try dsimp only at H); obtain ⟨ji6, hji6⟩ : ∃ j_ : Int, (mx t974 0) = j_ := ⟨_, rfl⟩; replace H : ((L_unless.f (decide (t974 ≥ 0)) 12).bind fun t975 => (some (ji6, t975))) = some (r1, r2) := by first | (rw [hji6] at H; exact H) | (simp only [hji6] at H ⊢; exact H)
  (try rw [hji6] at A3); (try rw [hji6] at A5); (try (have hji6l : 0 ≤ ji6 := by (rw [← hji6]; unfold mx; (repeat' split) <;> omega)))
  (try (have hji6m : 0 ≤ ji6 := by omega)); have hji6_ : (if t974 < 0 then 0 else t974) = ji6 := hji6; replace H := oa H; obtain ⟨t975, A7, H⟩ := H; (try dsimp only at H); simp only [Option.some.injEq, Prod.mk.injEq] at H; obtain ⟨rfl, rfl⟩ := H; go_enter Try.func57, Try.ntmps57
  go_wp2_with (first | ((with_reducible refine ga 3 rfl ?_); refine be 3 87 #[.int .i64 a1_0, .int .i64 a1_1] ?_; intro gb972 hg w8 hbox hb; have BK972 := m0 hbox; have GE972 := gw w hg; replace HB := sb HB hb; clear hb hbox hg; obtain ⟨_, _, _, _⟩ := b2 BK972) | ((with_reducible refine gc 101 rfl ?_); refine gl (some 10) Try.func101 #[.slice A0 l0.length c0, .agg #[.int .i64 a1_0, .int .i64 a1_1]] ?_; (with_reducible refine (L_openClass.calls k _ _ l0 a1_0 a1_1 t973 _ ?side1 ?side2 A3.out).mono ?_); (case side1 => exact cb HR0 HB); (case side2 => exact HC0.out); rintro e w10 ⟨rfl, hb⟩; refine ⟨_, rfl, ?_⟩; replace BK972 := bb BK972 hb; replace HB := sb HB hb; (try clear hb); obtain ⟨_, _, _, _⟩ := b2 BK972) | ((with_reducible refine gc 102 rfl ?_); refine gl (some 16) Try.func102 #[.slice A0 l0.length c0, .agg #[.int .i64 a1_0, .int .i64 a1_1]] ?_; (with_reducible refine (L_classOf.calls k _ _ l0 a1_0 a1_1 t974 _ ?side1 ?side2 A5.out).mono ?_); (case side1 => exact cb HR0 HB); (case side2 => exact HC0.out); rintro e w12 ⟨rfl, hb⟩; refine ⟨_, rfl, ?_⟩; replace BK972 := bb BK972 hb; replace HB := sb HB hb; (try clear hb)) | ((with_reducible refine gc 69 rfl ?_); refine gl (some 21) Try.func69 #[.bool (decide (t974 ≥ 0)), .int .i64 12] ?_; (with_reducible refine (L_unless.calls (decide (t974 ≥ 0)) 12 t975 _ A7.out).mono ?_); rintro e w' ⟨rfl, ⟨nd, rfl⟩⟩; refine ⟨_, rfl, ?_⟩))
  go_ret2
  exact ⟨by first | rfl | (simp [errW_none, errW_some] <;> rfl) | (simp only [← hji6]; first | rfl | (simp [errW_none, errW_some] <;> rfl)) | (simp [*, errW_none, errW_some] <;> rfl), by repeat (first | (with_reducible first | exact HB.out | apply below_alloc | apply pw_below_drewN | apply below_drew1 | refine below_set ?_ GE972.out) | exact HB.out)⟩
 ·rw [if_neg c4] at H; have c4b0 := beq_eq_false_iff_ne.mpr c4; have c4b1 := bne_iff_ne.mpr c4; simp only [Option.some.injEq, Prod.mk.injEq] at H; obtain ⟨rfl, rfl⟩ := H; go_enter Try.func57, Try.ntmps57
  go_wp2_with (first | ((with_reducible refine ga 3 rfl ?_); refine be 3 87 #[.int .i64 a1_0, .int .i64 a1_1] ?_; intro gb972 hg w13 hbox hb; have BK972 := m0 hbox; have GE972 := gw w hg; replace HB := sb HB hb; clear hb hbox hg; obtain ⟨_, _, _, _⟩ := b2 BK972) | ((with_reducible refine gc 101 rfl ?_); refine gl (some 10) Try.func101 #[.slice A0 l0.length c0, .agg #[.int .i64 a1_0, .int .i64 a1_1]] ?_; (with_reducible refine (L_openClass.calls k _ _ l0 a1_0 a1_1 t973 _ ?side1 ?side2 A3.out).mono ?_); (case side1 => exact cb HR0 HB); (case side2 => exact HC0.out); rintro e w15 ⟨rfl, hb⟩; refine ⟨_, rfl, ?_⟩; replace BK972 := bb BK972 hb; replace HB := sb HB hb; (try clear hb)))
  go_ret2
  exact ez
end
end Go.Proofs.Yteiafijbgjgiaaa.A
