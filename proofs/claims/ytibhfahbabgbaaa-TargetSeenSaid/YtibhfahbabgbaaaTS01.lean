/- Walks of the program's functions (printed, made shorter), each with what it computes. -/
import Derived.Test.YtibhfahbabgbaaaB05
import Derived.Test.YtibhfahbabgbaaaB04
import Derived.Test.YtibhfahbabgbaaaB12
import Derived.Test.YtibhfahbabgbaaaB14
import Derived.Test.YtibhfahbabgbaaaB13
import Derived.Test.YtibhfahbabgbaaaB15
namespace Go.Proofs.Ytibhfahbabgbaaa.A
set_option maxHeartbeats 8000000
set_option maxRecDepth 100000
open Go.RowKit Go.Proofs.YtibhfahbabgbaaaW.PrintWords Go.Proofs.YtibhfahbabgbaaaW.PrintLast Go.Proofs.YtibhfahbabgbaaaW.PrintMore
attribute [local go_sem] max2_int min2_int max_two min_two max_three min_three max_four min_four
set_option linter.unusedVariables false
set_option linter.unusedSimpArgs false
section
def Bs_Within.f (a0 : Int) (a1 : Int) (a2 : Int) : Option (Bool) := if a1 ≤ a0 then (some (decide (a0 ≤ a2))) else (some false)
theorem Bs_Within.calls (a0 : Int) (a1 : Int) (a2 : Int) (r : Bool) (w : World) (h : Bs_Within.f a0 a1 a2 = some r) :
  Calls Try.prog 24 #[.int .i64 a0, .int .i64 a1, .int .i64 a2] w fun e w' => e = .returned (.bool r) ∧ Drawn0 w w' := by
 have H : (if a1 ≤ a0 then (some (decide (a0 ≤ a2))) else (some false)) = some r := h
 clear h
 by_cases c4 : a1 ≤ a0
 ·rw [if_pos c4] at H
  have c4b0 := decide_eq_true c4
  clear c4
  obtain rfl := Option.some.inj H
  go_enter Try.func24, Try.ntmps24
  go_wp2
  go_ret
  exact ⟨by first | rfl | (simp; done) | (simp [*]; done), by repeat (first | exact Drawn0.refl _ | apply Drawn0.step)⟩
 ·rw [if_neg c4] at H
  have c4b0 := decide_eq_false c4
  clear c4
  obtain rfl := Option.some.inj H
  go_enter Try.func24, Try.ntmps24
  go_wp2
  go_ret
  exact ⟨by first | rfl | (simp; done) | (simp [*]; done), by repeat (first | exact Drawn0.refl _ | apply Drawn0.step)⟩
end
section
def L_indexErr.f (a0 : Int) : Option (Int) := (L_within.f a0 0 23).bind fun t424 => ((L_unless.f t424 2).bind fun t425 => (some t425))
theorem L_indexErr.calls (a0 : Int) (r : Int) (w : World) (h : L_indexErr.f a0 = some r) :
  Calls Try.prog 83 #[.int .i64 a0] w fun e w' => e = .returned (.int .i64 r) ∧ Drawn0 w w' := by
 have H : ((L_within.f a0 0 23).bind fun t424 => ((L_unless.f t424 2).bind fun t425 => (some t425))) = some r := h
 clear h
 replace H := ob H
 obtain ⟨t424, A2, H⟩ := H
 (try dsimp only at H)
 replace A2 := m0 A2
 replace H := ob H
 obtain ⟨t425, A3, H⟩ := H
 (try dsimp only at H)
 replace A3 := m0 A3
 obtain rfl := Option.some.inj H
 go_enter Try.func83, Try.ntmps83
 go_wp2_with (first | ((with_reducible refine gate_callee (f := 78) rfl ?_); refine gl (some 4) Try.func78 #[.int .i64 a0, .int .i64 0, .int .i64 23] ?_; (with_reducible refine (L_within.calls a0 0 23 t424 _ A2.out).mono ?_); rintro e w' ⟨rfl, ⟨nd, rfl⟩⟩; refine ⟨_, rfl, ?_⟩) | ((with_reducible refine gate_callee (f := 76) rfl ?_); refine gl (some 5) Try.func76 #[.bool t424, .int .i64 2] ?_; (with_reducible refine (L_unless.calls t424 2 t425 _ A3.out).mono ?_); rintro e w' ⟨rfl, ⟨nd, rfl⟩⟩; refine ⟨_, rfl, ?_⟩))
 go_ret
 exact ⟨by first | rfl | (simp; done) | (simp [*]; done), by repeat (first | exact Drawn0.refl _ | apply Drawn0.step)⟩
end
section
def L_TurnedBy.f (k : Nat) (a0 : Int) (a1_0 : Int) (a1_1 : Int) (a1_2 : Int) : Option (Int × Int × Int × Int) := (L_indexErr.f a0).bind fun t435 => ((L_isDirection.f a1_0 a1_1 a1_2).bind fun t436 => ((L_unless.f t436 2).bind fun t437 => ((L_first.f k (([t435, t437] : List Int))).bind fun t441 => (if t441 = 0 then ((L_rotations.f k).bind fun t442 => (if 0 ≤ a0 then (if a0 < (t442.length : Int) then ((L_rotation_turned.f ((rd_T139 t442 a0).f0.f0) ((rd_T139 t442 a0).f0.f1) ((rd_T139 t442 a0).f0.f2) ((rd_T139 t442 a0).f1.f0) ((rd_T139 t442 a0).f1.f1) ((rd_T139 t442 a0).f1.f2) ((rd_T139 t442 a0).f2.f0) ((rd_T139 t442 a0).f2.f1) ((rd_T139 t442 a0).f2.f2) a1_0 a1_1 a1_2).bind fun bt446 => (some (bt446.1, bt446.2.1, bt446.2.2, 0))) else (none)) else (none))) else (some (0, 0, 0, t441))))))
theorem L_TurnedBy.mono : ∀ a0 a1 a2 a3 k, LeO (L_TurnedBy.f k a0 a1 a2 a3) (L_TurnedBy.f (k + 1) a0 a1 a2 a3) := by
 intro a0 a1 a2 a3 k
 unfold L_TurnedBy.f
 repeat' with_reducible first
  | exact L_first.mono ..
  | exact L_rotations.mono ..
  | exact LeO.refl ..
  | exact LeO.none ..
  | refine LeO.ite ?_ ?_
  | refine LeO.bind ?_ (fun _ => ?_)
def L_TurnedBy.T1 : Bool × List (List Nat × List Nat) := (true, [([], []), ([0], [0]), ([], []), ([2, 1], [2]), ([3, 3], [3]), ([1, 4], [1, 4]), ([5, 4], [5]), ([6, 6, 0, 1, 2, 3, 4, 5, 6], [6])])
def L_TurnedBy.B1 : List Nat := [0, 1, 0, 7, 15, 31, 63, 127]
theorem L_TurnedBy.tab1 : rtab .any (opsOf Try.f26 1) = L_TurnedBy.T1 := by kernel_rfl
theorem L_TurnedBy.bits1 : waitsOk L_TurnedBy.T1.2 L_TurnedBy.B1 = true := by kernel_rfl
def L_TurnedBy.T4 : Bool × List (List Nat × List Nat) := (true, [([], []), ([], []), ([0, 1], [0, 1]), ([2], [2]), ([], []), ([3, 4, 0], [3, 4]), ([5, 5, 0, 1, 2, 3, 4, 5], [5]), ([6, 0, 1, 2, 3, 4, 5, 6], [])])
def L_TurnedBy.B4 : List Nat := [0, 0, 3, 7, 0, 31, 63, 127]
theorem L_TurnedBy.tab4 : rtab .any (opsOf Try.f26 4) = L_TurnedBy.T4 := by kernel_rfl
theorem L_TurnedBy.bits4 : waitsOk L_TurnedBy.T4.2 L_TurnedBy.B4 = true := by kernel_rfl
theorem L_TurnedBy.calls (k : Nat) (a0 : Int) (a1_0 : Int) (a1_1 : Int) (a1_2 : Int) (r1 : Int) (r2 : Int) (r3 : Int) (r4 : Int) (w : World) (h : L_TurnedBy.f k a0 a1_0 a1_1 a1_2 = some (r1, r2, r3, r4)) :
  Calls Try.prog 26 #[.int .i64 a0, .agg #[.int .i64 a1_0, .int .i64 a1_1, .int .i64 a1_2]] w fun e w' => e = .returned (.tuple #[.agg #[.int .i64 r1, .int .i64 r2, .int .i64 r3], .int .i64 r4]) ∧ Below w.heap.size w w' := by
 have hu44 := Try.underlying44
 have hu139 := Try.underlying139
 have HB := m0 (Below.refl w.heap.size w)
 have H : ((L_indexErr.f a0).bind fun t435 => ((L_isDirection.f a1_0 a1_1 a1_2).bind fun t436 => ((L_unless.f t436 2).bind fun t437 => ((L_first.f k (([t435, t437] : List Int))).bind fun t441 => (if t441 = 0 then ((L_rotations.f k).bind fun t442 => (if 0 ≤ a0 then (if a0 < (t442.length : Int) then ((L_rotation_turned.f ((rd_T139 t442 a0).f0.f0) ((rd_T139 t442 a0).f0.f1) ((rd_T139 t442 a0).f0.f2) ((rd_T139 t442 a0).f1.f0) ((rd_T139 t442 a0).f1.f1) ((rd_T139 t442 a0).f1.f2) ((rd_T139 t442 a0).f2.f0) ((rd_T139 t442 a0).f2.f1) ((rd_T139 t442 a0).f2.f2) a1_0 a1_1 a1_2).bind fun bt446 => (some (bt446.1, bt446.2.1, bt446.2.2, 0))) else (none)) else (none))) else (some (0, 0, 0, t441))))))) = some (r1, r2, r3, r4) := h
 clear h
 replace H := ob H
 obtain ⟨t435, A3, H⟩ := H
 (try dsimp only at H)
 replace A3 := m0 A3
 replace H := ob H
 obtain ⟨t436, A4, H⟩ := H
 (try dsimp only at H)
 replace A4 := m0 A4
 replace H := ob H
 obtain ⟨t437, A5, H⟩ := H
 (try dsimp only at H)
 replace A5 := m0 A5
 obtain ⟨y438, hy438⟩ : ∃ y_ : List Int, y_ = (([t435, t437] : List Int)) := ⟨_, rfl⟩
 replace H : ((L_first.f k y438).bind fun t441 => (if t441 = 0 then ((L_rotations.f k).bind fun t442 => (if 0 ≤ a0 then (if a0 < (t442.length : Int) then ((L_rotation_turned.f ((rd_T139 t442 a0).f0.f0) ((rd_T139 t442 a0).f0.f1) ((rd_T139 t442 a0).f0.f2) ((rd_T139 t442 a0).f1.f0) ((rd_T139 t442 a0).f1.f1) ((rd_T139 t442 a0).f1.f2) ((rd_T139 t442 a0).f2.f0) ((rd_T139 t442 a0).f2.f1) ((rd_T139 t442 a0).f2.f2) a1_0 a1_1 a1_2).bind fun bt446 => (some (bt446.1, bt446.2.1, bt446.2.2, 0))) else (none)) else (none))) else (some (0, 0, 0, t441)))) = some (r1, r2, r3, r4) := by first | (rw [hy438]; with_reducible exact H) | (have H2_ := (Option.bind_some _ _).symm.trans H; rw [hy438]; with_reducible exact H2_) | (have H2_ := (Option.bind_some _ _).symm.trans H; with_reducible exact H2_) | with_reducible exact H | (rw [hy438]; exact H) | exact H
 have Ny438 := m0 hy438
 clear hy438
 replace H := ob H
 obtain ⟨t441, A6, H⟩ := H
 (try dsimp only at H)
 replace A6 := m0 A6
 by_cases c7 : t441 = 0
 ·rw [if_pos c7] at H
  have c7b0 := beq_iff_eq.mpr c7
  have c7b1 := bne_eq_false_iff_eq.mpr c7
  clear c7
  replace H := ob H
  obtain ⟨t442, A8, H⟩ := H
  (try dsimp only at H)
  replace A8 := m0 A8
  by_cases c9 : 0 ≤ a0
  ·rw [if_pos c9] at H
   have c9b0 := decide_eq_true c9
   clear c9
   by_cases c10 : a0 < (t442.length : Int)
   ·rw [if_pos c10] at H
    have c10b0 := decide_eq_true c10
    clear c10
    replace H := ob H
    obtain ⟨⟨t446, t447, t448⟩, A11, H⟩ := H
    (try dsimp only at H)
    replace A11 := m0 A11
    simp only [Option.some.injEq, Prod.mk.injEq] at H
    obtain ⟨rfl, rfl, rfl, rfl⟩ := H
    go_enter Try.func26, Try.ntmps26
    try go_wp2_with (first | ((with_reducible refine gate_dst (N := 3) rfl ?_); refine be 3 44 #[.int .i64 a1_0, .int .i64 a1_1, .int .i64 a1_2] ?_; intro gb433 hg w12 hbox hb; have BK433 := m0 hbox; have GE433 := gw w hg; replace HB := sb HB hb; clear hb hbox hg) | ((with_reducible refine gate_dst (N := 4) rfl ?_); refine be 4 44 #[.int .i64 0, .int .i64 0, .int .i64 0] ?_; intro gb434 hg w13 hbox hb; have BK434 := m0 hbox; have GE434 := gw w hg; replace HB := sb HB hb; have NB433_434 := nl BK433 hg; have NB434_433 := ng (nl BK433 hg); replace BK433 := bb BK433 hb; clear hb hbox hg))
    replace BK433 := bd BK433; replace BK434 := bd BK434; replace HB := sd HB
    refine start_ (n := 8) (S := fun w' => w'.cell? ⟨gb433, 0, none⟩ = some (.int .i64 a1_0) ∧ w'.cell? ⟨gb433, 1, none⟩ = some (.int .i64 a1_1) ∧ w'.cell? ⟨gb433, 2, none⟩ = some (.int .i64 a1_2)) (ds := []) #[false, false, false, false, false, false, false, false] (by kernel_rfl) rfl rfl cz (fun hH => ?_); refine with_tabW L_TurnedBy.tab1 L_TurnedBy.bits1 (fun HT_ HW_ => ?_)
    generalize w13.drew = w14 at BK433 BK434 HB hH ⊢
    refine pZ 0 (some 7) #[true, false, false, false, false, false, false, false] HT_ ?_
    refine takeZ 2 (some 9) #[true, false, true, false, false, false, false, false] (take_ofW HT_.out HW_.out (by kernel_rfl)) hH ?_
    refine oneZ 1 (some 8) #[true, true, true, false, false, false, false, false] (one_of HT_.out (by kernel_rfl)) fun K hK => ?_
    refine gz Try.func83 #[.int .i64 a0] ?_
    with_reducible refine (L_indexErr.calls a0 t435 _ A3.out).mono ?_
    rintro e w' ⟨rfl, ⟨nd, rfl⟩⟩
    refine ⟨_, rfl, ?_⟩
    refine hK.out _ _ cz (fun hH => ?_)
    clear hK K
    refine norm_ (a' := ?_) ?_ ?_
    rotate_left
    ·show Act.put _ (some 8) _ = _
     exact pz
    refine oneZ 3 (some 10) #[true, true, true, true, false, false, false, false] (one_of HT_.out (by kernel_rfl)) fun K hK => ?_
    refine gz Try.func85 #[.agg #[.int .i64 a1_0, .int .i64 a1_1, .int .i64 a1_2]] ?_
    with_reducible refine (L_isDirection.calls a1_0 a1_1 a1_2 t436 _ A4.out).mono ?_
    rintro e w15 ⟨rfl, hb⟩
    refine ⟨_, rfl, ?_⟩
    replace BK433 := bb BK433 hb; replace BK434 := bb BK434 hb; replace HB := sb HB hb
    (try clear hb)
    refine hK.out _ _ cz (fun hH => ?_)
    clear hK K
    refine norm_ (a' := ?_) ?_ ?_
    rotate_left
    ·show Act.put _ (some 10) _ = _
     exact pz
    refine oneZ 4 (some 11) #[true, true, true, true, true, false, false, false] (one_of HT_.out (by kernel_rfl)) fun K hK => ?_
    refine gz Try.func76 #[.bool t436, .int .i64 2] ?_
    with_reducible refine (L_unless.calls t436 2 t437 _ A5.out).mono ?_
    rintro e w' ⟨rfl, ⟨nd, rfl⟩⟩
    refine ⟨_, rfl, ?_⟩
    refine hK.out _ _ cz (fun hH => ?_)
    clear hK K
    refine norm_ (a' := ?_) ?_ ?_
    rotate_left
    ·show Act.put _ (some 11) _ = _
     exact pz
    refine oneZ 5 (some 12) #[true, true, true, true, true, true, false, false] (one_of HT_.out (by kernel_rfl)) fun K hK => ?_
    refine Kd.R_lit_step (Kd.int .i64) _ 24 ?hg (N := 12) ?hd (xs := ([t435, t437] : List Int)) (inner := [.int .i64 t435, .int .i64 t437]) (ok := fun _ => True) (okp := fun _ => True) ?hr ?hp (fun _ hk => hk) trivial (Below.refl _ _) (Nat.le_refl _) (by simp) ?_; (case hd => rfl); (case hg => rfl); (case hr => first | (go_simp; done) | (go_simp; rfl)); (case hp => exact (Reps.one (show Kd.M (Kd.int .i64) _ _ _ t435 [.int .i64 t435] from rfl) (Reps.one (show Kd.M (Kd.int .i64) _ _ _ t437 [.int .i64 t437] from rfl) (Reps.none _ _))))
    intro v439 w16 ho17 hb hg_ hnew_
    clear hg_ hnew_
    (first | rw [← Ny438.out] at ho17 | (simp only [Int.reduceToNat] at ho17; rw [← Ny438.out] at ho17))
    have HO440 := m0 (Kd.R_lower ho17 (below_size bz)); replace BK433 := bb BK433 hb; replace BK434 := bb BK434 hb; replace HB := sb HB hb
    clear hb ho17
    obtain ⟨Ao18, co18, eo18⟩ := Kd.R_slice HO440.out
    subst eo18
    refine hK.out _ _ cz (fun hH => ?_)
    clear hK K
    refine norm_ (a' := ?_) ?_ ?_
    rotate_left
    ·show Act.put _ (some 12) _ = _
     exact pz
    refine oneZ 6 (some 13) #[true, true, true, true, true, true, true, false] (one_of HT_.out (by kernel_rfl)) fun K hK => ?_
    refine gz Try.func75 #[.slice Ao18 y438.length co18] ?_
    with_reducible refine (L_first.calls k _ _ y438 t441 _ ?side1 ?side2 A6.out).mono ?_
    (case side1 => exact bc (Kd.R_reads' HO440.out).2.2)
    (case side2 => exact (Kd.R_reads' HO440.out).2.1)
    rintro e w' ⟨rfl, ⟨nd, rfl⟩⟩
    refine ⟨_, rfl, ?_⟩
    refine hK.out _ _ cz (fun hH => ?_)
    clear hK K
    refine norm_ (a' := ?_) ?_ ?_
    rotate_left
    ·show Act.put _ (some 13) _ = _
     exact pz
    refine pZ 7 (some 6) #[true, true, true, true, true, true, true, true] HT_ ?_
    refine done_ (done_of HT_.out (by kernel_rfl)) ?_
    try go_wp2
    (try (rw [drewN_self w16]; generalize hq_ : World.drewN w16 _ = w16; replace HO440 := gr HO440 hq_; replace BK433 := gd BK433 hq_; replace BK434 := gd BK434 hq_; replace HB := gs HB hq_; clear hq_))
    replace HO440 := m0 (Kd.R_drew HO440.out); replace BK433 := bd BK433; replace BK434 := bd BK434; replace HB := sd HB
    refine start_ (n := 8) (S := fun w' => w'.cell? ⟨gb433, 0, none⟩ = some (.int .i64 a1_0) ∧ w'.cell? ⟨gb433, 1, none⟩ = some (.int .i64 a1_1) ∧ w'.cell? ⟨gb433, 2, none⟩ = some (.int .i64 a1_2)) (ds := []) #[false, false, false, false, false, false, false, false] (by kernel_rfl) rfl rfl cz (fun hH => ?_); refine with_tabW L_TurnedBy.tab4 L_TurnedBy.bits4 (fun HT_ HW_ => ?_)
    generalize w16.drew = w19 at HO440 BK433 BK434 HB hH ⊢
    refine pZ 1 (some 19) #[false, true, false, false, false, false, false, false] HT_ ?_
    refine takeZ 4 (some 22) #[false, true, false, false, true, false, false, false] (take_ofW HT_.out HW_.out (by kernel_rfl)) hH ?_
    refine oneZ 0 (some 18) #[true, true, false, false, true, false, false, false] (one_of HT_.out (by kernel_rfl)) fun K hK => ?_
    refine gz Try.func84 #[] ?_
    with_reducible refine (L_rotations.calls k  t442 _ A8.out).mono ?_
    rintro e w20 ⟨v443, rfl, ho0, hb⟩
    refine ⟨_, rfl, ?_⟩
    replace HO440 := rb HO440 hb; have HO444 := m0 (Kd.R_lower ho0 (below_size bz)); replace BK433 := bb BK433 hb; replace BK434 := bb BK434 hb; replace HB := sb HB hb
    (try clear hb)
    (try clear ho0)
    obtain ⟨Ao21, co21, eo21⟩ := Kd.R_slice HO444.out
    subst eo21
    have p445 : 0 ≤ (a0 : Int) := od
    have q445 : a0 < (t442.length : Int) := od
    obtain ⟨ad445, e445, hx445_0, hx445_1, hx445_2, hx445_3, hx445_4, hx445_5, hx445_6, hx445_7, hx445_8⟩ := at_T139 (Kd.R_reads' HO444.out).2.2 a0 p445 q445
    cases e445
    replace p445 := eq_true p445
    replace q445 := eq_true q445
    refine hK.out _ _ cz (fun hH => ?_)
    clear hK K
    refine norm_ (a' := ?_) ?_ ?_
    rotate_left
    ·show Act.put _ (some 18) _ = _
     exact pz
    refine pZ 2 (some 20) #[true, true, true, false, true, false, false, false] HT_ ?_
    refine oneZ 3 (some 21) #[true, true, true, true, true, false, false, false] (one_of HT_.out (by kernel_rfl)) fun K hK => ?_
    refine value_ (w1 := ?_) (v := ?_) (by rfl) rfl ?_ ?_
    rotate_left 2
    ·go_simp
     constructor
     ·rfl
     ·rfl
    refine hK.out _ _ cz (fun hH => ?_)
    clear hK K
    refine norm_ (a' := ?_) ?_ ?_
    rotate_left
    ·show Act.put _ (some 21) _ = _
     exact pz
    refine oneZ 5 (some 23) #[true, true, true, true, true, true, false, false] (one_of HT_.out (by kernel_rfl)) fun K hK => ?_
    refine gz Try.func86 #[.agg #[.int .i64 ((rd_T139 t442 a0).f0.f0), .int .i64 ((rd_T139 t442 a0).f0.f1), .int .i64 ((rd_T139 t442 a0).f0.f2), .int .i64 ((rd_T139 t442 a0).f1.f0), .int .i64 ((rd_T139 t442 a0).f1.f1), .int .i64 ((rd_T139 t442 a0).f1.f2), .int .i64 ((rd_T139 t442 a0).f2.f0), .int .i64 ((rd_T139 t442 a0).f2.f1), .int .i64 ((rd_T139 t442 a0).f2.f2)], .agg #[.int .i64 a1_0, .int .i64 a1_1, .int .i64 a1_2]] ?_
    with_reducible refine (L_rotation_turned.calls ((rd_T139 t442 a0).f0.f0) ((rd_T139 t442 a0).f0.f1) ((rd_T139 t442 a0).f0.f2) ((rd_T139 t442 a0).f1.f0) ((rd_T139 t442 a0).f1.f1) ((rd_T139 t442 a0).f1.f2) ((rd_T139 t442 a0).f2.f0) ((rd_T139 t442 a0).f2.f1) ((rd_T139 t442 a0).f2.f2) a1_0 a1_1 a1_2 t446 t447 t448 _ A11.out).mono ?_
    rintro e w22 ⟨rfl, hb⟩
    refine ⟨_, rfl, ?_⟩
    replace HO440 := rb HO440 hb; replace HO444 := rb HO444 hb; replace BK433 := bb BK433 hb; replace BK434 := bb BK434 hb; replace HB := sb HB hb
    (try clear hb)
    refine hK.out _ _ cz (fun hH => ?_)
    clear hK K
    refine norm_ (a' := ?_) ?_ ?_
    rotate_left
    ·show Act.put _ (some 23) _ = _
     exact pz
    refine oneZ 6 (none) #[true, true, true, true, true, true, true, false] (one_of HT_.out (by kernel_rfl)) fun K hK => ?_
    have hs23 : w22.cell? ⟨gb434, 0, none⟩ = some (.int .i64 0) := (blk_cell BK434.out 0).trans rfl
    have hfs23 := blk_frozen BK434.out 0
    have hs24 : w22.cell? ⟨gb434, 1, none⟩ = some (.int .i64 0) := (blk_cell BK434.out 1).trans rfl
    have hfs24 := blk_frozen BK434.out 1
    have hs25 : w22.cell? ⟨gb434, 2, none⟩ = some (.int .i64 0) := (blk_cell BK434.out 2).trans rfl
    have hfs25 := blk_frozen BK434.out 2
    refine skip_ (w1 := ?_) (by rfl) rfl ?_ ?_
    rotate_left
    ·go_simp
     rfl
    refine hK.out _ _ (cf hH) (fun hH => ?_)
    clear hK K
    refine pZ 7 (some 5) #[true, true, true, true, true, true, true, true] HT_ ?_
    refine done_ (done_of HT_.out (by kernel_rfl)) ?_
    try go_wp2
    refine bodyPost_ret (results_ct rfl _ _ gb434 44 #[.int .i64 t446, .int .i64 t447, .int .i64 t448] (0, 0) _ rfl (bq BK434.out) Try.underlying44 rfl (by kernel_rfl)) rfl ?_
    exact ez
   ·rw [if_neg c10] at H
    exact absurd H (by simp)
  ·rw [if_neg c9] at H
   exact absurd H (by simp)
 ·rw [if_neg c7] at H
  have c7b0 := beq_eq_false_iff_ne.mpr c7
  have c7b1 := bne_iff_ne.mpr c7
  simp only [Option.some.injEq, Prod.mk.injEq] at H
  obtain ⟨rfl, rfl, rfl, rfl⟩ := H
  go_enter Try.func26, Try.ntmps26
  try go_wp2_with (first | ((with_reducible refine gate_dst (N := 3) rfl ?_); refine be 3 44 #[.int .i64 a1_0, .int .i64 a1_1, .int .i64 a1_2] ?_; intro gb433 hg w26 hbox hb; have BK433 := m0 hbox; have GE433 := gw w hg; replace HB := sb HB hb; clear hb hbox hg) | ((with_reducible refine gate_dst (N := 4) rfl ?_); refine be 4 44 #[.int .i64 0, .int .i64 0, .int .i64 0] ?_; intro gb434 hg w27 hbox hb; have BK434 := m0 hbox; have GE434 := gw w hg; replace HB := sb HB hb; have NB433_434 := nl BK433 hg; have NB434_433 := ng (nl BK433 hg); replace BK433 := bb BK433 hb; clear hb hbox hg))
  replace BK433 := bd BK433; replace BK434 := bd BK434; replace HB := sd HB
  refine start_ (n := 8) (S := fun w' => w'.cell? ⟨gb433, 0, none⟩ = some (.int .i64 a1_0) ∧ w'.cell? ⟨gb433, 1, none⟩ = some (.int .i64 a1_1) ∧ w'.cell? ⟨gb433, 2, none⟩ = some (.int .i64 a1_2)) (ds := []) #[false, false, false, false, false, false, false, false] (by kernel_rfl) rfl rfl cz (fun hH => ?_); refine with_tabW L_TurnedBy.tab1 L_TurnedBy.bits1 (fun HT_ HW_ => ?_)
  generalize w27.drew = w28 at BK433 BK434 HB hH ⊢
  refine pZ 0 (some 7) #[true, false, false, false, false, false, false, false] HT_ ?_
  refine takeZ 2 (some 9) #[true, false, true, false, false, false, false, false] (take_ofW HT_.out HW_.out (by kernel_rfl)) hH ?_
  refine oneZ 1 (some 8) #[true, true, true, false, false, false, false, false] (one_of HT_.out (by kernel_rfl)) fun K hK => ?_
  refine gz Try.func83 #[.int .i64 a0] ?_
  with_reducible refine (L_indexErr.calls a0 t435 _ A3.out).mono ?_
  rintro e w' ⟨rfl, ⟨nd, rfl⟩⟩
  refine ⟨_, rfl, ?_⟩
  refine hK.out _ _ cz (fun hH => ?_)
  clear hK K
  refine norm_ (a' := ?_) ?_ ?_
  rotate_left
  ·show Act.put _ (some 8) _ = _
   exact pz
  refine oneZ 3 (some 10) #[true, true, true, true, false, false, false, false] (one_of HT_.out (by kernel_rfl)) fun K hK => ?_
  refine gz Try.func85 #[.agg #[.int .i64 a1_0, .int .i64 a1_1, .int .i64 a1_2]] ?_
  with_reducible refine (L_isDirection.calls a1_0 a1_1 a1_2 t436 _ A4.out).mono ?_
  rintro e w29 ⟨rfl, hb⟩
  refine ⟨_, rfl, ?_⟩
  replace BK433 := bb BK433 hb; replace BK434 := bb BK434 hb; replace HB := sb HB hb
  (try clear hb)
  refine hK.out _ _ cz (fun hH => ?_)
  clear hK K
  refine norm_ (a' := ?_) ?_ ?_
  rotate_left
  ·show Act.put _ (some 10) _ = _
   exact pz
  refine oneZ 4 (some 11) #[true, true, true, true, true, false, false, false] (one_of HT_.out (by kernel_rfl)) fun K hK => ?_
  refine gz Try.func76 #[.bool t436, .int .i64 2] ?_
  with_reducible refine (L_unless.calls t436 2 t437 _ A5.out).mono ?_
  rintro e w' ⟨rfl, ⟨nd, rfl⟩⟩
  refine ⟨_, rfl, ?_⟩
  refine hK.out _ _ cz (fun hH => ?_)
  clear hK K
  refine norm_ (a' := ?_) ?_ ?_
  rotate_left
  ·show Act.put _ (some 11) _ = _
   exact pz
  refine oneZ 5 (some 12) #[true, true, true, true, true, true, false, false] (one_of HT_.out (by kernel_rfl)) fun K hK => ?_
  refine Kd.R_lit_step (Kd.int .i64) _ 24 ?hg (N := 12) ?hd (xs := ([t435, t437] : List Int)) (inner := [.int .i64 t435, .int .i64 t437]) (ok := fun _ => True) (okp := fun _ => True) ?hr ?hp (fun _ hk => hk) trivial (Below.refl _ _) (Nat.le_refl _) (by simp) ?_; (case hd => rfl); (case hg => rfl); (case hr => first | (go_simp; done) | (go_simp; rfl)); (case hp => exact (Reps.one (show Kd.M (Kd.int .i64) _ _ _ t435 [.int .i64 t435] from rfl) (Reps.one (show Kd.M (Kd.int .i64) _ _ _ t437 [.int .i64 t437] from rfl) (Reps.none _ _))))
  intro v439 w30 ho31 hb hg_ hnew_
  clear hg_ hnew_
  (first | rw [← Ny438.out] at ho31 | (simp only [Int.reduceToNat] at ho31; rw [← Ny438.out] at ho31))
  have HO440 := m0 (Kd.R_lower ho31 (below_size bz)); replace BK433 := bb BK433 hb; replace BK434 := bb BK434 hb; replace HB := sb HB hb
  clear hb ho31
  obtain ⟨Ao32, co32, eo32⟩ := Kd.R_slice HO440.out
  subst eo32
  refine hK.out _ _ cz (fun hH => ?_)
  clear hK K
  refine norm_ (a' := ?_) ?_ ?_
  rotate_left
  ·show Act.put _ (some 12) _ = _
   exact pz
  refine oneZ 6 (some 13) #[true, true, true, true, true, true, true, false] (one_of HT_.out (by kernel_rfl)) fun K hK => ?_
  refine gz Try.func75 #[.slice Ao32 y438.length co32] ?_
  with_reducible refine (L_first.calls k _ _ y438 t441 _ ?side1 ?side2 A6.out).mono ?_
  (case side1 => exact bc (Kd.R_reads' HO440.out).2.2)
  (case side2 => exact (Kd.R_reads' HO440.out).2.1)
  rintro e w' ⟨rfl, ⟨nd, rfl⟩⟩
  refine ⟨_, rfl, ?_⟩
  refine hK.out _ _ cz (fun hH => ?_)
  clear hK K
  refine norm_ (a' := ?_) ?_ ?_
  rotate_left
  ·show Act.put _ (some 13) _ = _
   exact pz
  refine pZ 7 (some 6) #[true, true, true, true, true, true, true, true] HT_ ?_
  refine done_ (done_of HT_.out (by kernel_rfl)) ?_
  have hnb33 := NB434_433.out
  have hnc33 := NB433_434.out
  obtain ⟨_, _, _, _, _, _⟩ := b3 BK434
  try go_wp2
  refine bodyPost_ret (results_ct rfl _ _ gb434 44 #[.int .i64 0, .int .i64 0, .int .i64 0] (0, 0) _ rfl (bq BK434.out) Try.underlying44 rfl (by kernel_rfl)) rfl ?_
  exact ez
end
section
def Rf_isDirection.l0 : Nat → Int → Int → Int → Int → Option (Bool)
 | 0, _, _, _, _ => none
 | k + 1, x3, x471000, x471001, x471002 => if x3 < 3 then (if x3 = 0 then ((Bs_Within.f x471000 (-20) 20).bind fun t471 => (if t471 = true then (Rf_isDirection.l0 k (wrap64 (x3 + 1)) x471000 x471001 x471002) else (some false))) else (if x3 = 1 then ((Bs_Within.f x471001 (-20) 20).bind fun t472 => (if t472 = true then (Rf_isDirection.l0 k (wrap64 (x3 + 1)) x471000 x471001 x471002) else (some false))) else (if x3 = 2 then ((Bs_Within.f x471002 (-20) 20).bind fun t473 => (if t473 = true then (Rf_isDirection.l0 k (wrap64 (x3 + 1)) x471000 x471001 x471002) else (some false))) else (none)))) else (some true)
def Rf_isDirection.f (k : Nat) (a0_0 : Int) (a0_1 : Int) (a0_2 : Int) : Option (Bool) := Rf_isDirection.l0 k 0 a0_0 a0_1 a0_2
theorem Rf_isDirection.mono_l : ∀ k, (∀ y0 y1 y2 y3, LeO (Rf_isDirection.l0 k y0 y1 y2 y3) (Rf_isDirection.l0 (k + 1) y0 y1 y2 y3))
 | 0 => fun _ _ _ _ r h => by simp [Rf_isDirection.l0] at h
 | k + 1 => by
  have ih0 := Rf_isDirection.mono_l k
  ·intro y0 y1 y2 y3
   unfold Rf_isDirection.l0
   repeat' with_reducible first
    | exact ih0 ..
    | exact LeO.refl ..
    | exact LeO.none ..
    | refine LeO.ite ?_ ?_
    | refine LeO.bind ?_ (fun _ => ?_)
theorem Rf_isDirection.mono : ∀ a0 a1 a2 k, LeO (Rf_isDirection.f k a0 a1 a2) (Rf_isDirection.f (k + 1) a0 a1 a2) := by
 intro a0 a1 a2 k
 have ih0 := Rf_isDirection.mono_l k
 unfold Rf_isDirection.f
 repeat' with_reducible first
  | exact ih0 ..
  | exact LeO.refl ..
  | exact LeO.none ..
  | refine LeO.ite ?_ ?_
  | refine LeO.bind ?_ (fun _ => ?_)
theorem Rf_isDirection.calls (k : Nat) (a0_0 : Int) (a0_1 : Int) (a0_2 : Int) (r : Bool) (w : World) (h : Rf_isDirection.f k a0_0 a0_1 a0_2 = some r) :
  Calls Try.prog 89 #[.agg #[.int .i64 a0_0, .int .i64 a0_1, .int .i64 a0_2]] w fun e w' => e = .returned (.bool r) ∧ Below w.heap.size w w' := by
 have hu44 := Try.underlying44
 have hix44_0 : ∀ (g_ : Nat) (W_ : World), (Instr.indexAt 44 (.pointer (some ⟨g_, 0, none⟩)) (.int .i64 0)).run Try.prog W_ = .ok (.pointer (some ⟨g_, 0, none⟩)) W_ := fun _ _ => by kernel_rfl
 have hix44_1 : ∀ (g_ : Nat) (W_ : World), (Instr.indexAt 44 (.pointer (some ⟨g_, 0, none⟩)) (.int .i64 1)).run Try.prog W_ = .ok (.pointer (some ⟨g_, 1, none⟩)) W_ := fun _ _ => by kernel_rfl
 have hix44_2 : ∀ (g_ : Nat) (W_ : World), (Instr.indexAt 44 (.pointer (some ⟨g_, 0, none⟩)) (.int .i64 2)).run Try.prog W_ = .ok (.pointer (some ⟨g_, 2, none⟩)) W_ := fun _ _ => by kernel_rfl
 have HB := m0 (Below.refl w.heap.size w)
 have H : (Rf_isDirection.l0 k 0 a0_0 a0_1 a0_2) = some r := h
 clear h
 have H' := m0 H
 clear H
 go_enter Try.func89, Try.ntmps89
 go_wp2_with (first | ((with_reducible refine gate_dst (N := 1) rfl ?_); refine be 1 44 #[.int .i64 a0_0, .int .i64 a0_1, .int .i64 a0_2] ?_; intro gb470 hg w2 hbox hb; have BK470 := m0 hbox; have GE470 := gw w hg; replace HB := sb HB hb; clear hb hbox hg))
 go_loopg [3] k (fun kq v3 w' => ∃ (x3_1 : Int), v3 = .int .i64 x3_1 ∧ Aside0 (Rf_isDirection.l0 kq x3_1 a0_0 a0_1 a0_2 = some r) ∧ Aside0 (kq ≤ k) ∧ Aside0 (w'.heap[gb470]? = some (.cells #[.int .i64 a0_0, .int .i64 a0_1, .int .i64 a0_2] 44 (0, 0))) ∧ Aside0 (Below w.heap.size w w'))
 case atStart => exact ⟨(0), (by first | rfl | (simp; done) | (simp [*]; done)), H', ⟨Nat.le_refl _⟩, ⟨bk BK470.out⟩, ⟨bz⟩⟩
 case round =>
  clear H'
  obtain ⟨x3_1, rfl, HA, HK1, BK470, HB⟩ := hrel
  cases gk with
  | zero => exact absurd HA.out (by simp [Rf_isDirection.l0])
  | succ k1 =>
   have H := HA.out
   clear HA
   simp only [Rf_isDirection.l0] at H
   by_cases c3 : x3_1 < 3
   ·rw [if_pos c3] at H
    have c3b0 := decide_eq_true c3
    clear c3
    by_cases c4 : x3_1 = 0
    ·rw [if_pos c4] at H
     have c4b0 := beq_iff_eq.mpr c4
     have c4b1 := bne_eq_false_iff_eq.mpr c4
     clear c4
     have hiv5 : ∀ (g_ : Nat) (W_ : World), (Instr.indexAt 44 (.pointer (some ⟨g_, 0, none⟩)) (.int .i64 x3_1)).run Try.prog W_ = .ok (.pointer (some ⟨g_, 0, none⟩)) W_ := fun g_ W_ => by rw [show (x3_1 : Int) = 0 from eq_of_beq (by first | (with_reducible assumption) | assumption)]; exact hix44_0 g_ W_
     replace H := ob H
     obtain ⟨t471, A6, H⟩ := H
     (try dsimp only at H)
     replace A6 := m0 A6
     by_cases c7 : t471 = true
     ·subst c7
      rw [if_pos rfl] at H
      have H' := m0 H
      clear H
      obtain ⟨_, _, _, _, _, _⟩ := b3 BK470
      go_wp2_with (first | ((with_reducible refine gate_callee (f := 24) rfl ?_); refine gl (some 11) Try.func24 #[.int .i64 a0_0, .int .i64 (-20), .int .i64 20] ?_; (with_reducible refine (Bs_Within.calls a0_0 (-20) 20 true _ A6.out).mono ?_); rintro e w' ⟨rfl, ⟨nd, rfl⟩⟩; refine ⟨_, rfl, ?_⟩))
      go_roundg k1
      case measure => have := HK1.out; omega
      case rel => exact ⟨(wrap64 (x3_1 + 1)), (by first | rfl | (simp; done) | (simp [*]; done)), H', ⟨by have := HK1.out; omega⟩, ⟨bk BK470.out⟩, ⟨bz⟩⟩
     ·replace c7 := Bool.eq_false_iff.mpr c7
      subst c7
      rw [if_neg (show ¬ (false = true) by decide)] at H
      obtain rfl := Option.some.inj H
      obtain ⟨_, _, _, _, _, _⟩ := b3 BK470
      go_wp2_with (first | ((with_reducible refine gate_callee (f := 24) rfl ?_); refine gl (some 11) Try.func24 #[.int .i64 a0_0, .int .i64 (-20), .int .i64 20] ?_; (with_reducible refine (Bs_Within.calls a0_0 (-20) 20 false _ A6.out).mono ?_); rintro e w' ⟨rfl, ⟨nd, rfl⟩⟩; refine ⟨_, rfl, ?_⟩))
      go_ret
      exact ez
    ·rw [if_neg c4] at H
     have c4b0 := beq_eq_false_iff_ne.mpr c4
     have c4b1 := bne_iff_ne.mpr c4
     by_cases c10 : x3_1 = 1
     ·rw [if_pos c10] at H
      have c10b0 := beq_iff_eq.mpr c10
      have c10b1 := bne_eq_false_iff_eq.mpr c10
      clear c10
      have hiv11 : ∀ (g_ : Nat) (W_ : World), (Instr.indexAt 44 (.pointer (some ⟨g_, 0, none⟩)) (.int .i64 x3_1)).run Try.prog W_ = .ok (.pointer (some ⟨g_, 1, none⟩)) W_ := fun g_ W_ => by rw [show (x3_1 : Int) = 1 from eq_of_beq (by first | (with_reducible assumption) | assumption)]; exact hix44_1 g_ W_
      replace H := ob H
      obtain ⟨t472, A12, H⟩ := H
      (try dsimp only at H)
      replace A12 := m0 A12
      by_cases c13 : t472 = true
      ·subst c13
       rw [if_pos rfl] at H
       have H' := m0 H
       clear H
       obtain ⟨_, _, _, _, _, _⟩ := b3 BK470
       go_wp2_with (first | ((with_reducible refine gate_callee (f := 24) rfl ?_); refine gl (some 11) Try.func24 #[.int .i64 a0_1, .int .i64 (-20), .int .i64 20] ?_; (with_reducible refine (Bs_Within.calls a0_1 (-20) 20 true _ A12.out).mono ?_); rintro e w' ⟨rfl, ⟨nd, rfl⟩⟩; refine ⟨_, rfl, ?_⟩))
       go_roundg k1
       case measure => have := HK1.out; omega
       case rel => exact ⟨(wrap64 (x3_1 + 1)), (by first | rfl | (simp; done) | (simp [*]; done)), H', ⟨by have := HK1.out; omega⟩, ⟨bk BK470.out⟩, ⟨bz⟩⟩
      ·replace c13 := Bool.eq_false_iff.mpr c13
       subst c13
       rw [if_neg (show ¬ (false = true) by decide)] at H
       obtain rfl := Option.some.inj H
       obtain ⟨_, _, _, _, _, _⟩ := b3 BK470
       go_wp2_with (first | ((with_reducible refine gate_callee (f := 24) rfl ?_); refine gl (some 11) Try.func24 #[.int .i64 a0_1, .int .i64 (-20), .int .i64 20] ?_; (with_reducible refine (Bs_Within.calls a0_1 (-20) 20 false _ A12.out).mono ?_); rintro e w' ⟨rfl, ⟨nd, rfl⟩⟩; refine ⟨_, rfl, ?_⟩))
       go_ret
       exact ez
     ·rw [if_neg c10] at H
      have c10b0 := beq_eq_false_iff_ne.mpr c10
      have c10b1 := bne_iff_ne.mpr c10
      by_cases c16 : x3_1 = 2
      ·rw [if_pos c16] at H
       have c16b0 := beq_iff_eq.mpr c16
       have c16b1 := bne_eq_false_iff_eq.mpr c16
       clear c16
       have hiv17 : ∀ (g_ : Nat) (W_ : World), (Instr.indexAt 44 (.pointer (some ⟨g_, 0, none⟩)) (.int .i64 x3_1)).run Try.prog W_ = .ok (.pointer (some ⟨g_, 2, none⟩)) W_ := fun g_ W_ => by rw [show (x3_1 : Int) = 2 from eq_of_beq (by first | (with_reducible assumption) | assumption)]; exact hix44_2 g_ W_
       replace H := ob H
       obtain ⟨t473, A18, H⟩ := H
       (try dsimp only at H)
       replace A18 := m0 A18
       by_cases c19 : t473 = true
       ·subst c19
        rw [if_pos rfl] at H
        have H' := m0 H
        clear H
        obtain ⟨_, _, _, _, _, _⟩ := b3 BK470
        go_wp2_with (first | ((with_reducible refine gate_callee (f := 24) rfl ?_); refine gl (some 11) Try.func24 #[.int .i64 a0_2, .int .i64 (-20), .int .i64 20] ?_; (with_reducible refine (Bs_Within.calls a0_2 (-20) 20 true _ A18.out).mono ?_); rintro e w' ⟨rfl, ⟨nd, rfl⟩⟩; refine ⟨_, rfl, ?_⟩))
        go_roundg k1
        case measure => have := HK1.out; omega
        case rel => exact ⟨(wrap64 (x3_1 + 1)), (by first | rfl | (simp; done) | (simp [*]; done)), H', ⟨by have := HK1.out; omega⟩, ⟨bk BK470.out⟩, ⟨bz⟩⟩
       ·replace c19 := Bool.eq_false_iff.mpr c19
        subst c19
        rw [if_neg (show ¬ (false = true) by decide)] at H
        obtain rfl := Option.some.inj H
        obtain ⟨_, _, _, _, _, _⟩ := b3 BK470
        go_wp2_with (first | ((with_reducible refine gate_callee (f := 24) rfl ?_); refine gl (some 11) Try.func24 #[.int .i64 a0_2, .int .i64 (-20), .int .i64 20] ?_; (with_reducible refine (Bs_Within.calls a0_2 (-20) 20 false _ A18.out).mono ?_); rintro e w' ⟨rfl, ⟨nd, rfl⟩⟩; refine ⟨_, rfl, ?_⟩))
        go_ret
        exact ez
      ·rw [if_neg c16] at H
       exact absurd H (by simp)
   ·rw [if_neg c3] at H
    have c3b0 := decide_eq_false c3
    clear c3
    obtain rfl := Option.some.inj H
    go_wp2
    go_ret
    exact ez
end
section
def Rf_TurnedErr.f (k : Nat) (a0 : Int) (a1_0 : Int) (a1_1 : Int) (a1_2 : Int) : Option (Int) := (Bs_Within.f a0 0 23).bind fun t475 => (if t475 = true then ((Rf_isDirection.f k a1_0 a1_1 a1_2).bind fun t476 => (if t476 = true then (some 0) else (some 2))) else (some 2))
theorem Rf_TurnedErr.mono : ∀ a0 a1 a2 a3 k, LeO (Rf_TurnedErr.f k a0 a1 a2 a3) (Rf_TurnedErr.f (k + 1) a0 a1 a2 a3) := by
 intro a0 a1 a2 a3 k
 unfold Rf_TurnedErr.f
 repeat' with_reducible first
  | exact Rf_isDirection.mono ..
  | exact LeO.refl ..
  | exact LeO.none ..
  | refine LeO.ite ?_ ?_
  | refine LeO.bind ?_ (fun _ => ?_)
theorem Rf_TurnedErr.calls (k : Nat) (a0 : Int) (a1_0 : Int) (a1_1 : Int) (a1_2 : Int) (r : Int) (w : World) (h : Rf_TurnedErr.f k a0 a1_0 a1_1 a1_2 = some r) :
  Calls Try.prog 28 #[.int .i64 a0, .agg #[.int .i64 a1_0, .int .i64 a1_1, .int .i64 a1_2]] w fun e w' => e = .returned (.int .i64 r) ∧ Below w.heap.size w w' := by
 have hu44 := Try.underlying44
 have HB := m0 (Below.refl w.heap.size w)
 have H : ((Bs_Within.f a0 0 23).bind fun t475 => (if t475 = true then ((Rf_isDirection.f k a1_0 a1_1 a1_2).bind fun t476 => (if t476 = true then (some 0) else (some 2))) else (some 2))) = some r := h
 clear h
 replace H := ob H
 obtain ⟨t475, A3, H⟩ := H
 (try dsimp only at H)
 replace A3 := m0 A3
 by_cases c4 : t475 = true
 ·subst c4
  rw [if_pos rfl] at H
  replace H := ob H
  obtain ⟨t476, A5, H⟩ := H
  (try dsimp only at H)
  replace A5 := m0 A5
  by_cases c6 : t476 = true
  ·subst c6
   rw [if_pos rfl] at H
   obtain rfl := Option.some.inj H
   go_enter Try.func28, Try.ntmps28
   go_wp2_with (first | ((with_reducible refine gate_dst (N := 3) rfl ?_); refine be 3 44 #[.int .i64 a1_0, .int .i64 a1_1, .int .i64 a1_2] ?_; intro gb474 hg w7 hbox hb; have BK474 := m0 hbox; have GE474 := gw w hg; replace HB := sb HB hb; clear hb hbox hg) | ((with_reducible refine gate_callee (f := 24) rfl ?_); refine gl (some 6) Try.func24 #[.int .i64 a0, .int .i64 0, .int .i64 23] ?_; (with_reducible refine (Bs_Within.calls a0 0 23 true _ A3.out).mono ?_); rintro e w' ⟨rfl, ⟨nd, rfl⟩⟩; refine ⟨_, rfl, ?_⟩; obtain ⟨_, _, _, _, _, _⟩ := b3 BK474) | (go_at_call 89; (with_reducible refine (Rf_isDirection.calls k a1_0 a1_1 a1_2 true _ A5.out).mono ?_); rintro e w9 ⟨rfl, hb⟩; replace BK474 := bb BK474 hb; replace HB := sb HB hb; (try clear hb)))
   go_ret
   exact ez
  ·replace c6 := Bool.eq_false_iff.mpr c6
   subst c6
   rw [if_neg (show ¬ (false = true) by decide)] at H
   obtain rfl := Option.some.inj H
   go_enter Try.func28, Try.ntmps28
   go_wp2_with (first | ((with_reducible refine gate_dst (N := 3) rfl ?_); refine be 3 44 #[.int .i64 a1_0, .int .i64 a1_1, .int .i64 a1_2] ?_; intro gb474 hg w10 hbox hb; have BK474 := m0 hbox; have GE474 := gw w hg; replace HB := sb HB hb; clear hb hbox hg) | ((with_reducible refine gate_callee (f := 24) rfl ?_); refine gl (some 6) Try.func24 #[.int .i64 a0, .int .i64 0, .int .i64 23] ?_; (with_reducible refine (Bs_Within.calls a0 0 23 true _ A3.out).mono ?_); rintro e w' ⟨rfl, ⟨nd, rfl⟩⟩; refine ⟨_, rfl, ?_⟩; obtain ⟨_, _, _, _, _, _⟩ := b3 BK474) | (go_at_call 89; (with_reducible refine (Rf_isDirection.calls k a1_0 a1_1 a1_2 false _ A5.out).mono ?_); rintro e w12 ⟨rfl, hb⟩; replace BK474 := bb BK474 hb; replace HB := sb HB hb; (try clear hb)))
   go_ret
   exact ez
 ·replace c4 := Bool.eq_false_iff.mpr c4
  subst c4
  rw [if_neg (show ¬ (false = true) by decide)] at H
  obtain rfl := Option.some.inj H
  go_enter Try.func28, Try.ntmps28
  go_wp2_with (first | ((with_reducible refine gate_dst (N := 3) rfl ?_); refine be 3 44 #[.int .i64 a1_0, .int .i64 a1_1, .int .i64 a1_2] ?_; intro gb474 hg w13 hbox hb; have BK474 := m0 hbox; have GE474 := gw w hg; replace HB := sb HB hb; clear hb hbox hg) | ((with_reducible refine gate_callee (f := 24) rfl ?_); refine gl (some 6) Try.func24 #[.int .i64 a0, .int .i64 0, .int .i64 23] ?_; (with_reducible refine (Bs_Within.calls a0 0 23 false _ A3.out).mono ?_); rintro e w' ⟨rfl, ⟨nd, rfl⟩⟩; refine ⟨_, rfl, ?_⟩))
  go_ret
  exact ez
end
section
def L_ScoresOf.f (k : Nat) (l0 : List (S126)) : Option (List Int × Int) := (L_sightsErr.f k l0).bind fun t1454 => (if t1454 = 0 then ((L_scores.f k l0).bind fun t1455 => (some (t1455, 0))) else (some (([] : List Int), t1454)))
theorem L_ScoresOf.mono : ∀ a0 k, LeO (L_ScoresOf.f k a0) (L_ScoresOf.f (k + 1) a0) := by
 intro a0 k
 unfold L_ScoresOf.f
 repeat' with_reducible first
  | exact L_scores.mono ..
  | exact L_sightsErr.mono ..
  | exact LeO.refl ..
  | exact LeO.none ..
  | refine LeO.ite ?_ ?_
  | refine LeO.bind ?_ (fun _ => ?_)
theorem L_ScoresOf.calls (k : Nat) (A0 : Option Addr) (c0 : Nat) (l0 : List (S126)) (r1 : List Int) (r2 : Int) (w : World) (hr0 : Kd.C k126 w A0 l0.length l0) (hc0 : l0.length ≤ c0) (h : L_ScoresOf.f k l0 = some (r1, r2)) :
  Calls Try.prog 63 #[.slice A0 l0.length c0] w fun e w' => ∃ v0_ : Value, e = .returned (.tuple #[v0_, .int .i64 r2]) ∧ Kd.R (Kd.int .i64) 3 w' w.heap.size (fun _ => True) v0_ r1 ∧ Below w.heap.size w w' := by
 have HR0 := m0 hr0
 have HC0 := m0 hc0
 clear hr0 hc0
 have HB := m0 (Below.refl w.heap.size w)
 have H : ((L_sightsErr.f k l0).bind fun t1454 => (if t1454 = 0 then ((L_scores.f k l0).bind fun t1455 => (some (t1455, 0))) else (some (([] : List Int), t1454)))) = some (r1, r2) := h
 clear h
 replace H := ob H
 obtain ⟨t1454, A2, H⟩ := H
 (try dsimp only at H)
 replace A2 := m0 A2
 by_cases c3 : t1454 = 0
 ·rw [if_pos c3] at H
  have c3b0 := beq_iff_eq.mpr c3
  have c3b1 := bne_eq_false_iff_eq.mpr c3
  clear c3
  replace H := ob H
  obtain ⟨t1455, A4, H⟩ := H
  (try dsimp only at H)
  replace A4 := m0 A4
  simp only [Option.some.injEq, Prod.mk.injEq] at H
  obtain ⟨rfl, rfl⟩ := H
  go_enter Try.func63, Try.ntmps63
  go_wp2_with (first | ((with_reducible refine gate_callee (f := 123) rfl ?_); refine gl (some 6) Try.func123 #[.slice A0 l0.length c0] ?_; (with_reducible refine (L_sightsErr.calls k _ _ l0 t1454 _ ?side1 ?side2 A2.out).mono ?_); (case side1 => repeat (first | exact HR0.out | (with_reducible refine Kd.C_alloc ?_ _) | (with_reducible refine Kd.C_drewN ?_ _) | (with_reducible refine Kd.C_drew ?_))); (case side2 => exact HC0.out); rintro e w5 ⟨rfl, hb⟩; refine ⟨_, rfl, ?_⟩; replace HB := sb HB hb; (try clear hb)) | ((with_reducible refine gate_callee (f := 124) rfl ?_); refine gl (some 11) Try.func124 #[.slice A0 l0.length c0] ?_; (with_reducible refine (L_scores.calls k _ _ l0 t1455 _ ?side1 ?side2 A4.out).mono ?_); (case side1 => exact cb HR0 HB); (case side2 => exact HC0.out); rintro e w6 ⟨v1456, rfl, ho0, hb⟩; refine ⟨_, rfl, ?_⟩; have HO1457 := m0 (Kd.R_lower ho0 (below_size bz)); replace HB := sb HB hb; (try clear hb); (try clear ho0)))
  go_ret2
  exact ⟨_, by first | rfl | (simp [errW_none, errW_some] <;> rfl) | (simp [*, errW_none, errW_some] <;> rfl), by (with_reducible repeat (first | apply Kd.R_alloc | apply Kd.R_drewN | apply Kd.R_drew)); exact HO1457.out, by repeat (first | (with_reducible first | exact HB.out | apply below_alloc | apply pw_below_drewN | apply below_drew1) | exact HB.out)⟩
 ·rw [if_neg c3] at H
  have c3b0 := beq_eq_false_iff_ne.mpr c3
  have c3b1 := bne_iff_ne.mpr c3
  simp only [Option.some.injEq, Prod.mk.injEq] at H
  obtain ⟨rfl, rfl⟩ := H
  go_enter Try.func63, Try.ntmps63
  go_wp2_with (first | ((with_reducible refine gate_callee (f := 123) rfl ?_); refine gl (some 6) Try.func123 #[.slice A0 l0.length c0] ?_; (with_reducible refine (L_sightsErr.calls k _ _ l0 t1454 _ ?side1 ?side2 A2.out).mono ?_); (case side1 => repeat (first | exact HR0.out | (with_reducible refine Kd.C_alloc ?_ _) | (with_reducible refine Kd.C_drewN ?_ _) | (with_reducible refine Kd.C_drew ?_))); (case side2 => exact HC0.out); rintro e w7 ⟨rfl, hb⟩; refine ⟨_, rfl, ?_⟩; replace HB := sb HB hb; (try clear hb)))
  go_ret2
  exact ⟨_, by first | rfl | (simp [errW_none, errW_some] <;> rfl) | (simp [*, errW_none, errW_some] <;> rfl), by first | exact Kd.R_nil _ _ _ _ _ | exact Kd.N_nil _ _ _ _ _ | exact Kd.V_nil _ _ _ _ _ | exact Kd.Q_nil _ _ _ _ _ | exact Kd.S_nil _ _ _ _ _, by repeat (first | (with_reducible first | exact HB.out | apply below_alloc | apply pw_below_drewN | apply below_drew1) | exact HB.out)⟩
end
section
def Rf_CopySights.f (l0 : List (S126)) : Option ((List (S126))) := (some (([] : List (S126)) : List (S126))).bind fun y1458 => (if y1458.length + l0.length < 2932031007402 then (some (y1458 ++ l0)) else (none))
theorem Rf_CopySights.calls (A0 : Option Addr) (c0 : Nat) (l0 : List (S126)) (r : List (S126)) (w : World) (hr0 : Kd.C k126 w A0 l0.length l0) (hc0 : l0.length ≤ c0) (h : Rf_CopySights.f l0 = some r) :
  Calls Try.prog 64 #[.slice A0 l0.length c0] w fun e w' => ∃ v0_ : Value, e = .returned (v0_) ∧ Kd.R k126 126 w' w.heap.size (fun _ => True) v0_ r ∧ Below w.heap.size w w' := by
 have HR0 := m0 hr0
 have HC0 := m0 hc0
 clear hr0 hc0
 have HB := m0 (Below.refl w.heap.size w)
 have H : ((some (([] : List (S126)) : List (S126))).bind fun y1458 => (if y1458.length + l0.length < 2932031007402 then (some (y1458 ++ l0)) else (none))) = some r := h
 clear h
 obtain ⟨y1458, hy1458⟩ : ∃ y_ : List (S126), y_ = (([] : List (S126))) := ⟨_, rfl⟩
 replace H : (if y1458.length + l0.length < 2932031007402 then (some (y1458 ++ l0)) else (none)) = some r := by first | (rw [hy1458]; with_reducible exact H) | (have H2_ := (Option.bind_some _ _).symm.trans H; rw [hy1458]; with_reducible exact H2_) | (have H2_ := (Option.bind_some _ _).symm.trans H; with_reducible exact H2_) | with_reducible exact H | (rw [hy1458]; exact H) | exact H
 have Ny1458 := m0 hy1458
 clear hy1458
 by_cases c2 : y1458.length + l0.length < 2932031007402
 ·rw [if_pos c2] at H
  have LMc2 := m0 c2
  clear c2
  obtain ⟨y1461, hy1461⟩ : ∃ y_ : List (S126), y_ = (y1458 ++ l0) := ⟨_, rfl⟩
  replace H : (some y1461) = some r := by first | (rw [hy1461]; with_reducible exact H) | (have H2_ := (Option.bind_some _ _).symm.trans H; rw [hy1461]; with_reducible exact H2_) | (have H2_ := (Option.bind_some _ _).symm.trans H; with_reducible exact H2_) | with_reducible exact H | (rw [hy1461]; exact H) | exact H
  have Ny1461 := m0 hy1461
  clear hy1461
  obtain rfl := Option.some.inj H
  go_enter Try.func64, Try.ntmps64
  go_wp2_with (first | ((with_reducible refine gate_dst (N := 3) rfl ?_); refine Kd.R_lit k126 _ 126 ?hg (N := 3) ?hd (xs := ([] : List (S126))) (inner := []) (ok := fun _ => True) (okp := fun _ => True) ?hr ?hp (fun _ hk => hk) trivial (Below.refl _ _) (Nat.le_refl _) (by simp) ?_; (case hd => rfl); (case hg => rfl); (case hr => first | (go_simp; done) | (go_simp; rfl)); (case hp => exact (Reps.none _ _)); intro v1459 w3 ho4 hb hg_ hnew_; clear hg_ hnew_; (first | rw [← Ny1458.out] at ho4 | (simp only [Int.reduceToNat] at ho4; rw [← Ny1458.out] at ho4)); have HO1460 := m0 (Kd.R_lower ho4 (below_size bz)); replace HB := sb HB hb; clear hb ho4) | ((with_reducible refine gate_builtin (b := .append) (xs := #[.tmp 3, .tmp 4]) rfl ?_); at_builtin; refine Kd.R_append_rows k126 (w0 := w) w.heap.size rfl (.tmp 3) (.tmp 4) 113 126 (.agg #[(.int .i64 0), (.int .i64 0), (.int .i64 0), (.int .i64 0), (.int .i64 0), (.int .i64 0)]) 48 rfl Try.underlying113 info126 rfl (by decide) (by omega) v1459 y1458 l0 _ _ _ (fun _ => True) (fun _ => False) rfl rfl ?aO ?aR (fun _ _ h => h) (fun _ h => h.elim) ?aF ?aB ?aS ?aL ?_; (case aR => exact cb HR0 HB); (case aB => exact bz); (case aF => exact (fun _ _ => trivial)); (case aO => exact (br HO1460.out)); (case aS => exact (below_size bz)); (case aL => have := LMc2.out; omega); intro v1462 w5 ho hb hg hat; rw [← Ny1461.out] at ho; have n0_ := m0 (hb); have n1_ := m0 (ho); clear HB; clear HO1460; have HB := n0_; have HO1463 := n1_; clear n0_ n1_; clear ho hb hg hat))
  go_ret
  exact ⟨_, by first | rfl | (simp [errW_none, errW_some] <;> rfl) | (simp [*, errW_none, errW_some] <;> rfl), by (with_reducible repeat (first | apply Kd.R_alloc | apply Kd.R_drewN | apply Kd.R_drew)); exact HO1463.out, by repeat (first | (with_reducible first | exact HB.out | apply below_alloc | apply pw_below_drewN | apply below_drew1) | exact HB.out)⟩
 ·rw [if_neg c2] at H
  exact absurd H (by simp)
end
end Go.Proofs.Ytibhfahbabgbaaa.A
