/- Walks of the program's functions (printed, made shorter), each with what it computes. -/
import Derived.Test.YteiafijbgjgiaaaB06
import Derived.Test.YteiafijbgjgiaaaB05
import Derived.Test.YteiafijbgjgiaaaB12
import Derived.Test.YteiafijbgjgiaaaB13
namespace Go.Proofs.Yteiafijbgjgiaaa.A
set_option maxHeartbeats 8000000
set_option maxRecDepth 100000
open Go.RowKit Go.Proofs.YteiafijbgjgiaaaW.PrintWords Go.Proofs.YteiafijbgjgiaaaW.PrintLast Go.Proofs.YteiafijbgjgiaaaW.PrintMore
attribute [local go_sem] max2_int min2_int max_two min_two max_three min_three max_four min_four
set_option linter.unusedVariables false
set_option linter.unusedSimpArgs false
section
def Lw_both.f (a0 : Int) (a1 : Int) : Option (Int) := if a0 = 0 then (some a1) else (some a0)
theorem Lw_both.calls (a0 : Int) (a1 : Int) (r : Int) (w : World) (H : Lw_both.f a0 a1 = some r) :
  Calls Try.prog 15 #[.int .i64 a0, .int .i64 a1] w fun e w' => e = .returned (.int .i64 r) ∧ Drawn0 w w' := by
 unfold Lw_both.f at H
 by_cases c3 : a0 = 0
 ·rw [if_pos c3] at H; have c3b0 := beq_iff_eq.mpr c3; have c3b1 := bne_eq_false_iff_eq.mpr c3; clear c3; obtain rfl := Option.some.inj H; go_enter Try.func15, Try.ntmps15
  go_wp2
  go_ret
  exact ⟨rz, by repeat (first | exact Drawn0.refl _ | apply Drawn0.step)⟩
 ·rw [if_neg c3] at H; have c3b0 := beq_eq_false_iff_ne.mpr c3; have c3b1 := bne_iff_ne.mpr c3; obtain rfl := Option.some.inj H; go_enter Try.func15, Try.ntmps15
  go_wp2
  go_ret
  exact ⟨rz, by repeat (first | exact Drawn0.refl _ | apply Drawn0.step)⟩
end
section
def Bs_CopyInts.f (l0 : List Int) : Option (List Int) := (some (([] : List Int) : List Int)).bind fun y404 => (if y404.length + l0.length < 17592186044416 then (some (y404 ++ l0)) else (none))
theorem Bs_CopyInts.calls (A0 : Option Addr) (c0 : Nat) (l0 : List Int) (r : List Int) (w : World) (hr0 : Kd.C (Kd.int .i64) w A0 l0.length l0) (hc0 : l0.length ≤ c0) (H : Bs_CopyInts.f l0 = some r) :
  Calls Try.prog 26 #[.slice A0 l0.length c0] w fun e w' => ∃ v0_ : Value, e = .returned (v0_) ∧ Kd.R (Kd.int .i64) 3 w' w.heap.size (fun _ => True) v0_ r ∧ Below w.heap.size w w' := by
 have HR0 := m0 hr0; have HC0 := m0 hc0; clear hr0 hc0; have HB := m0 (Below.refl w.heap.size w); unfold Bs_CopyInts.f at H; obtain ⟨y404, hy404⟩ : ∃ y_ : List Int, y_ = (([] : List Int)) := ⟨_, rfl⟩; replace H : (if y404.length + l0.length < 17592186044416 then (some (y404 ++ l0)) else (none)) = some r := by first | (rw [hy404]; with_reducible exact H) | (have H2_ := (Option.bind_some _ _).symm.trans H; rw [hy404]; with_reducible exact H2_) | (have H2_ := (Option.bind_some _ _).symm.trans H; with_reducible exact H2_) | with_reducible exact H | (rw [hy404]; exact H) | exact H
 have Ny404 := m0 hy404; clear hy404
 by_cases c2 : y404.length + l0.length < 17592186044416
 ·rw [if_pos c2] at H; have LMc2 := m0 c2; clear c2; obtain ⟨y407, hy407⟩ : ∃ y_ : List Int, y_ = (y404 ++ l0) := ⟨_, rfl⟩; replace H : (some y407) = some r := by first | (rw [hy407]; with_reducible exact H) | (have H2_ := (Option.bind_some _ _).symm.trans H; rw [hy407]; with_reducible exact H2_) | (have H2_ := (Option.bind_some _ _).symm.trans H; with_reducible exact H2_) | with_reducible exact H | (rw [hy407]; exact H) | exact H
  have Ny407 := m0 hy407; clear hy407; obtain rfl := Option.some.inj H; go_enter Try.func26, Try.ntmps26
  go_wp2_with (first | ((with_reducible refine ga 3 rfl ?_); refine Kd.R_lit (Kd.int .i64) _ 3 ?hg (N := 3) ?hd (xs := ([] : List Int)) (inner := []) (ok := fun _ => True) (okp := fun _ => True) ?hr ?hp (fun _ hk => hk) trivial (Below.refl _ _) (Nat.le_refl _) (by simp) ?_; (case hd => rfl); (case hg => rfl); (case hr => first | (go_simp; done) | (go_simp; rfl)); (case hp => exact (Reps.none _ _)); intro v405 w3 ho4 hb hg_ hnew_; clear hg_ hnew_; (first | rw [← Ny404.out] at ho4 | (simp only [Int.reduceToNat] at ho4; rw [← Ny404.out] at ho4)); have HO406 := m0 (Kd.R_lower ho4 (below_size bz)); replace HB := sb HB hb; clear hb ho4) | ((with_reducible refine gate_builtin (b := .append) (xs := #[.tmp 3, .tmp 4]) rfl ?_); at_builtin; refine Kd.R_append_rows (Kd.int .i64) (w0 := w) w.heap.size rfl (.tmp 3) (.tmp 4) 41 3 (.int .i64 0) 8 rfl Try.underlying41 info3 rfl (by decide) (by omega) v405 y404 l0 _ _ _ (fun _ => True) (fun _ => False) rfl rfl ?aO ?aR (fun _ _ h => h) (fun _ h => h.elim) ?aF ?aB ?aS ?aL ?_; (case aR => exact cb HR0 HB); (case aB => exact bz); (case aF => exact (fun _ _ => trivial)); (case aO => exact (br HO406.out)); (case aS => exact (below_size bz)); (case aL => have := LMc2.out; omega); intro v408 w5 ho hb hg hat; rw [← Ny407.out] at ho; have n0_ := m0 (hb); have n1_ := m0 (ho); clear HB; clear HO406; have HB := n0_; have HO409 := n1_; clear n0_ n1_; clear ho hb hg hat))
  go_ret
  exact ⟨_, by first | rfl | (simp [errW_none, errW_some] <;> rfl) | (simp [*, errW_none, errW_some] <;> rfl), by (with_reducible repeat (first | apply Kd.R_alloc | apply Kd.R_drewN | apply Kd.R_drew)); exact HO409.out, by repeat (first | (with_reducible first | exact HB.out | apply below_alloc | apply pw_below_drewN | apply below_drew1) | exact HB.out)⟩
 ·rw [if_neg c2] at H; exact absurd H (by simp)
end
section
def Lw_few.f (l0 : List Int) : Option (Bool) := some (decide ((l0.length : Int) ≤ 26))
theorem Lw_few.calls (A0 : Option Addr) (c0 : Nat) (l0 : List Int) (r : Bool) (w : World) (hr0 : Kd.C (Kd.int .i64) w A0 l0.length l0) (hc0 : l0.length ≤ c0) (H : Lw_few.f l0 = some r) :
  Calls Try.prog 31 #[.slice A0 l0.length c0] w fun e w' => e = .returned (.bool r) ∧ Drawn0 w w' := by
 have HR0 := m0 hr0; have HC0 := m0 hc0; clear hr0 hc0; unfold Lw_few.f at H; obtain rfl := Option.some.inj H; go_enter Try.func31, Try.ntmps31
 go_wp2
 go_ret
 exact ⟨rz, by repeat (first | exact Drawn0.refl _ | apply Drawn0.step)⟩
end
section
def L_SegmentCost.f (k : Nat) (l0 : List Int) (a1_0 : Int) (a1_1 : Int) : Option (Int × Int) := (L_open.f k l0).bind fun bt595 => ((L_within.f a1_0 0 (wrap64 ((l0.length : Int) - 1))).bind fun t599 => (if t599 = true then ((L_within.f a1_1 0 (wrap64 ((l0.length : Int) - 1))).bind fun t600 => ((L_unless.f t600 6).bind fun t601 => ((L_unless.f (decide (a1_0 ≤ a1_1)) 9).bind fun t602 => ((L_first.f k (([bt595.2, t601, t602] : List Int))).bind fun t606 => (if t606 = 0 then (if 0 ≤ a1_0 then (if a1_0 ≤ (wrap64 (a1_1 + 1)) then (if (wrap64 (a1_1 + 1)) ≤ (bt595.1.length : Int) then ((L_profile_cost.f k ((bt595.1.take ((wrap64 (a1_1 + 1)) : Int).toNat).drop (a1_0 : Int).toNat)).bind fun t612 => (some (t612, 0))) else (none)) else (none)) else (none)) else (some (0, t606))))))) else ((L_unless.f false 6).bind fun t613 => ((L_unless.f (decide (a1_0 ≤ a1_1)) 9).bind fun t614 => ((L_first.f k (([bt595.2, t613, t614] : List Int))).bind fun t618 => (if t618 = 0 then (if 0 ≤ a1_0 then (if a1_0 ≤ (wrap64 (a1_1 + 1)) then (if (wrap64 (a1_1 + 1)) ≤ (bt595.1.length : Int) then ((L_profile_cost.f k ((bt595.1.take ((wrap64 (a1_1 + 1)) : Int).toNat).drop (a1_0 : Int).toNat)).bind fun t624 => (some (t624, 0))) else (none)) else (none)) else (none)) else (some (0, t618))))))))
theorem L_SegmentCost.mono : ∀ a0 a1 a2 k, LeO (L_SegmentCost.f k a0 a1 a2) (L_SegmentCost.f (k + 1) a0 a1 a2) := by
 intro a0 a1 a2 k; unfold L_SegmentCost.f
 repeat' with_reducible first
  | exact L_first.mono ..
  | exact L_open.mono ..
  | exact L_profile_cost.mono ..
  | exact LeO.refl ..
  | exact LeO.none ..
  | refine LeO.ite ?_ ?_
  | refine LeO.bind ?_ (fun _ => ?_)
def L_SegmentCost.T2 : Bool × List (List Nat × List Nat) := (true, [([], []), ([], []), ([1], [1]), ([], []), ([3], [3]), ([4], [4]), ([2, 5], [2, 5]), ([6, 6], [6]), ([7], [7]), ([8, 7], [7, 8]), ([7], [7]), ([10, 7], [7, 10]), ([11, 7], [7, 11]), ([9, 12, 7, 7], [7, 9, 12]), ([7, 13], [7, 13]), ([14, 13], [14]), ([], []), ([16], [16]), ([], []), ([18], [18]), ([17, 19], [17, 19]), ([20, 15], [20]), ([0, 15, 21], [0, 15, 21]), ([22, 21], [22]), ([23, 23, 0, 1, 2, 3, 4, 5, 6, 7, 8, 9, 10, 11, 12, 13, 14, 15, 16, 17, 18, 19, 20, 21, 22, 23], [0, 23])])
def L_SegmentCost.B2 : List Nat := [0, 0, 2, 0, 8, 24, 62, 126, 254, 510, 254, 1278, 3326, 8190, 16382, 32766, 0, 65536, 0, 262144, 983040, 2097150, 4194303, 8388607, 16777215]
theorem L_SegmentCost.tab2 : rtab .any (opsOf Try.f32 2) = L_SegmentCost.T2 := by kernel_rfl
theorem L_SegmentCost.bits2 : waitsOk L_SegmentCost.T2.2 L_SegmentCost.B2 = true := by kernel_rfl
theorem L_SegmentCost.calls (k : Nat) (A0 : Option Addr) (c0 : Nat) (l0 : List Int) (a1_0 : Int) (a1_1 : Int) (r1 : Int) (r2 : Int) (w : World) (hr0 : Kd.C (Kd.int .i64) w A0 l0.length l0) (hc0 : l0.length ≤ c0) (H : L_SegmentCost.f k l0 a1_0 a1_1 = some (r1, r2)) :
  Calls Try.prog 32 #[.slice A0 l0.length c0, .agg #[.int .i64 a1_0, .int .i64 a1_1]] w fun e w' => e = .returned (.tuple #[.int .i64 r1, .int .i64 r2]) ∧ Below w.heap.size w w' := by
 have hu54 := Try.underlying54; have HR0 := m0 hr0; have HC0 := m0 hc0; clear hr0 hc0; have HB := m0 (Below.refl w.heap.size w); unfold L_SegmentCost.f at H; replace H := oa H; obtain ⟨⟨t595, t598⟩, A3, H⟩ := H; (try dsimp only at H); replace H := oa H; obtain ⟨t599, A4, H⟩ := H; (try dsimp only at H)
 by_cases c5 : t599 = true
 ·subst c5; rw [if_pos rfl] at H; replace H := oa H; obtain ⟨t600, A6, H⟩ := H; (try dsimp only at H); replace H := oa H; obtain ⟨t601, A7, H⟩ := H; (try dsimp only at H); replace H := oa H; obtain ⟨t602, A8, H⟩ := H; (try dsimp only at H); obtain ⟨y603, hy603⟩ : ∃ y_ : List Int, y_ = (([t598, t601, t602] : List Int)) := ⟨_, rfl⟩; replace H : ((L_first.f k y603).bind fun t606 => (if t606 = 0 then (if 0 ≤ a1_0 then (if a1_0 ≤ (wrap64 (a1_1 + 1)) then (if (wrap64 (a1_1 + 1)) ≤ (t595.length : Int) then ((L_profile_cost.f k ((t595.take ((wrap64 (a1_1 + 1)) : Int).toNat).drop (a1_0 : Int).toNat)).bind fun t612 => (some (t612, 0))) else (none)) else (none)) else (none)) else (some (0, t606)))) = some (r1, r2) := by first | (rw [hy603]; with_reducible exact H) | (have H2_ := (Option.bind_some _ _).symm.trans H; rw [hy603]; with_reducible exact H2_) | (have H2_ := (Option.bind_some _ _).symm.trans H; with_reducible exact H2_) | with_reducible exact H | (rw [hy603]; exact H) | exact H
  have Ny603 := m0 hy603; clear hy603; replace H := oa H; obtain ⟨t606, A9, H⟩ := H; (try dsimp only at H)
  by_cases c10 : t606 = 0
  ·rw [if_pos c10] at H; have c10b0 := beq_iff_eq.mpr c10; have c10b1 := bne_eq_false_iff_eq.mpr c10; clear c10
   by_cases c11 : 0 ≤ a1_0
   ·rw [if_pos c11] at H; have c11b0 := eq_true c11; have c11b1 := decide_eq_true c11; clear c11
    by_cases c12 : a1_0 ≤ (wrap64 (a1_1 + 1))
    ·rw [if_pos c12] at H; have c12b0 := eq_true c12; have c12b1 := decide_eq_true c12
     by_cases c13 : (wrap64 (a1_1 + 1)) ≤ (t595.length : Int)
     ·rw [if_pos c13] at H; have c13b0 := eq_true c13; have c13b1 := decide_eq_true c13; obtain ⟨y607, hy607⟩ : ∃ y_ : List Int, y_ = ((t595.take ((wrap64 (a1_1 + 1)) : Int).toNat).drop (a1_0 : Int).toNat) := ⟨_, rfl⟩; replace H : ((L_profile_cost.f k y607).bind fun t612 => (some (t612, 0))) = some (r1, r2) := by first | (rw [hy607]; with_reducible exact H) | (have H2_ := (Option.bind_some _ _).symm.trans H; rw [hy607]; with_reducible exact H2_) | (have H2_ := (Option.bind_some _ _).symm.trans H; with_reducible exact H2_) | with_reducible exact H | (rw [hy607]; exact H) | exact H
      have Ny607 := m0 hy607; clear hy607; replace H := oa H; obtain ⟨t612, A14, H⟩ := H; (try dsimp only at H); simp only [Option.some.injEq, Prod.mk.injEq] at H; obtain ⟨rfl, rfl⟩ := H; go_enter Try.func32, Try.ntmps32
      try go_wp2_with (first | ((with_reducible refine ga 3 rfl ?_); (try (refine gate_guard (by rfl) ?_; dsimp only)); refine be 3 54 #[.int .i64 a1_0, .int .i64 a1_1] ?_; intro gb594 hg w15 hbox hb; have BK594 := m0 hbox; have GW594 := gw w hg; have GE594 := gw w hg; replace HB := sb HB hb; clear hb hbox hg) | ((with_reducible refine gc 84 rfl ?_); refine gl (some 10) Try.func84 #[.slice A0 l0.length c0] ?_; (with_reducible refine (L_open.calls k (fun k_ => k_ < w.heap.size) _ _ l0 t595 t598 _ ?side1 A3.out).mono ?_); (case side1 => exact Kd.V_mk HC0.out (Kd.F_below (Kd.C_F (Kd.heap_int .i64) HR0.out) bz)); rintro e w16 ⟨v596, rfl, ho0, hb⟩; refine ⟨_, rfl, ?_⟩; have HO597 := hv w (fun k_ => k_ ≠ gb594) ho0 (fun k_ hk_ => Or.elim hk_ (fun hs_ => fun e_ => Nat.not_le.2 hs_ (by rw [e_]; exact GW594.out)) (fb BK594 ·)); replace BK594 := bb BK594 hb; replace HB := sb HB hb; (try clear hb); (try clear ho0)))
      replace HO597 := m0 (Kd.V_drew HO597.out); replace BK594 := bd BK594; replace HB := sd HB; refine start_ (n := 25) (S := fun w' => w'.cell? ⟨gb594, 0, none⟩ = some (.int .i64 a1_0) ∧ w'.cell? ⟨gb594, 1, none⟩ = some (.int .i64 a1_1)) (ds := []) _ (by kernel_rfl) rfl rfl cz (fun hH => ?_); refine with_tabW L_SegmentCost.tab2 L_SegmentCost.bits2 (fun HT_ HW_ => ?_); generalize w16.drew = w17 at HO597 BK594 HB hH ⊢; refine pZ 0 (some 13) (bs 25 1) HT_ ?_; refine pZ 1 (some 14) (bs 25 3) HT_ ?_; refine pZ 3 (some 16) (bs 25 11) HT_ ?_; refine pZ 4 (some 17) (bs 25 27) HT_ ?_; refine pZ 5 (some 18) (bs 25 59) HT_ ?_; refine pZ 16 (some 29) (bs 25 65595) HT_ ?_; refine pZ 18 (some 31) (bs 25 327739) HT_ ?_; refine takeZ 2 (some 15) (bs 25 327743) (tw HT_ HW_) hH ?_; refine takeZ 17 (some 30) (bs 25 458815) (tw HT_ HW_) hH ?_; refine takeZ 19 (some 32) (bs 25 983103) (tw HT_ HW_) hH ?_; refine pZ 20 (some 33) (bs 25 2031679) HT_ ?_; refine oneZ 6 (some 19) (bs 25 2031743) (o1 HT_) fun K hK => ?_; refine gz Try.func70 #[.int .i64 a1_0, .int .i64 0, .int .i64 (wrap64 ((l0.length : Int) - 1))] ?_
      with_reducible refine (L_within.calls a1_0 0 (wrap64 ((l0.length : Int) - 1)) true _ A4.out).mono ?_
      rintro e w' ⟨rfl, ⟨nd, rfl⟩⟩; refine ⟨_, rfl, ?_⟩; refine hK.out _ _ cz (fun hH => ?_); clear hK K; refine nz 19 ?_; refine pZ 7 (some 20) (bs 25 2031871) HT_ ?_; refine pZ 8 (some 21) (bs 25 2032127) HT_ ?_; refine pZ 10 (some 23) (bs 25 2033151) HT_ ?_; refine pZ 11 (some 24) (bs 25 2035199) HT_ ?_; refine pZ 12 (some 25) (bs 25 2039295) HT_ ?_; refine takeZ 9 (some 22) (bs 25 2039807) (tw HT_ HW_) hH ?_; refine oneZ 13 (some 26) (bs 25 2047999) (o1 HT_) fun K hK => ?_; refine gz Try.func70 #[.int .i64 a1_1, .int .i64 0, .int .i64 (wrap64 ((l0.length : Int) - 1))] ?_
      with_reducible refine (L_within.calls a1_1 0 (wrap64 ((l0.length : Int) - 1)) t600 _ A6.out).mono ?_
      rintro e w' ⟨rfl, ⟨nd, rfl⟩⟩; refine ⟨_, rfl, ?_⟩; refine hK.out _ _ cz (fun hH => ?_); clear hK K; refine nz 26 ?_; refine pZ 14 (some 27) (bs 25 2064383) HT_ ?_; refine oneZ 15 (some 28) (bs 25 2097151) (o1 HT_) fun K hK => ?_; refine gz Try.func69 #[.bool t600, .int .i64 6] ?_
      with_reducible refine (L_unless.calls t600 6 t601 _ A7.out).mono ?_
      rintro e w' ⟨rfl, ⟨nd, rfl⟩⟩; refine ⟨_, rfl, ?_⟩; refine hK.out _ _ cz (fun hH => ?_); clear hK K; refine nz 28 ?_; refine oneZ 21 (some 34) (bs 25 4194303) (o1 HT_) fun K hK => ?_; refine gz Try.func69 #[.bool (decide (a1_0 ≤ a1_1)), .int .i64 9] ?_
      with_reducible refine (L_unless.calls (decide (a1_0 ≤ a1_1)) 9 t602 _ A8.out).mono ?_
      rintro e w' ⟨rfl, ⟨nd, rfl⟩⟩; refine ⟨_, rfl, ?_⟩; refine hK.out _ _ cz (fun hH => ?_); clear hK K; refine nz 34 ?_; refine oneZ 22 (some 35) (bs 25 8388607) (o1 HT_) fun K hK => ?_; refine Kd.R_lit_step (Kd.int .i64) _ 26 ?hg (N := 35) ?hd (xs := ([t598, t601, t602] : List Int)) (inner := [.int .i64 t598, .int .i64 t601, .int .i64 t602]) (ok := fun _ => True) (okp := fun _ => True) ?hr ?hp (fun _ hk => hk) trivial (Below.refl _ _) (Nat.le_refl _) (by simp) ?_; (case hd => rfl); (case hg => rfl); (case hr => first | (go_simp; done) | (go_simp; rfl)); (case hp => exact (Reps.one (ki t598) (Reps.one (ki t601) (Reps.one (ki t602) (Reps.none _ _)))))
      intro v604 w18 ho19 hb hg_ hnew_; clear hg_ hnew_
      (first | rw [← Ny603.out] at ho19 | (simp only [Int.reduceToNat] at ho19; rw [← Ny603.out] at ho19))
      replace HO597 := m0 (Kd.V_elder' (by (with_reducible repeat (first | apply Kd.V_alloc | apply Kd.V_drewN | apply Kd.V_drew)); exact HO597.out) (Kd.R_base ho19) hb); have HO605 := m0 (Kd.R_lower ho19 (below_size bz)); replace BK594 := bb BK594 hb; replace HB := sb HB hb; clear hb ho19; obtain ⟨Ao20, co20, eo20⟩ := Kd.R_slice HO605.out; subst eo20; refine hK.out _ _ cz (fun hH => ?_); clear hK K; refine nz 35 ?_; refine oneZ 23 (some 36) (bs 25 16777215) (o1 HT_) fun K hK => ?_; refine gz Try.func68 #[.slice Ao20 y603.length co20] ?_
      with_reducible refine (L_first.calls k _ _ y603 t606 _ ?side1 ?side2 A9.out).mono ?_
      (case side1 => exact bc (Kd.R_reads' HO605.out).2.2)
      (case side2 => exact (Kd.R_reads' HO605.out).2.1)
      rintro e w' ⟨rfl, ⟨nd, rfl⟩⟩; refine ⟨_, rfl, ?_⟩; refine hK.out _ _ cz (fun hH => ?_); clear hK K; refine nz 36 ?_; refine pZ 24 (some 7) (bs 25 33554431) HT_ ?_; refine done_ (done_of HT_.out (by kernel_rfl)) ?_; obtain ⟨_, _, _, _⟩ := b2 BK594; obtain ⟨Ao23, co23, eo23⟩ := Kd.V_slice HO597.out; subst eo23; have q22 : ((wrap64 (a1_1 + 1)) : Int) ≤ ((t595.length : Int) : Int) := od; obtain ⟨i022, hi022, _, hsz22, _⟩ := info_parts info3; have hroom22 : t595.length ≤ co23 := (Kd.V_reads' HO597.out).2.1; have hC22 : Kd.F (Kd.int .i64) _ _ Ao23 t595.length t595 := (Kd.V_at (base := w.heap.size) HO597.out).2.2; have ql22 : (a1_0 : Int) ≤ ((wrap64 (a1_1 + 1)) : Int) := od; have q022 : (0 : Int) ≤ (a1_0 : Int) := od; have hcut22 := cut_mid (P := Try.prog) 126 3 .i64 .i64 Try.underlying126 hi022 1 hsz22 Ao23 t595.length co23 a1_0 (wrap64 (a1_1 + 1)) q022 ql22 q22 hroom22; have hr22 := Kd.F_mid (lo := (a1_0 : Int).toNat) (hi := ((wrap64 (a1_1 + 1)) : Int).toNat) (c := co23) hC22 (by omega) (by omega) hroom22; obtain ⟨A22, hA22⟩ : ∃ A1, A1 = (if co23 = (a1_0 : Int).toNat then Ao23 else (Ao23 : Option Addr).map (·.add ((a1_0 : Int).toNat * 1))) := ⟨_, rfl⟩; obtain ⟨c22, hc22⟩ : ∃ c1, c1 = co23 - (a1_0 : Int).toNat := ⟨_, rfl⟩; have hy22 : y607.length = ((wrap64 (a1_1 + 1)) : Int).toNat - (a1_0 : Int).toNat := (by rw [Ny607.out, List.length_drop, List.length_take] <;> omega); rw [show ((t595).take ((wrap64 (a1_1 + 1)) : Int).toNat).drop (a1_0 : Int).toNat = y607 from Ny607.out.symm] at hr22; replace hr22 : Kd.F (Kd.int .i64) _ _ A22 y607.length y607 := (by rw [hA22]; exact hr22); rw [← hy22, ← hA22, ← hc22] at hcut22; have HO611 := m0 (show Kd.V (Kd.int .i64) 3 _ w.heap.size _ (.slice A22 y607.length c22) y607 from Kd.V_mk (by rw [hy22, hc22]; exact Nat.sub_le_sub_right (Nat.le_trans (by omega) hroom22) _) hr22); have HC611 := m0 (show y607.length ≤ c22 from by rw [hy22, hc22]; exact Nat.sub_le_sub_right (Nat.le_trans (by omega) hroom22) _); clear hr22 hC22 hroom22 hi022 hsz22 hc22; have KY22 := m0 hy22; have KA22 := m0 hA22; clear hy22 hA22; replace q22 := eq_true q22
      try go_wp2_with (first | ((with_reducible refine gc 85 rfl ?_); refine gl (some 47) Try.func85 #[.slice A22 y607.length c22] ?_; (with_reducible refine (L_profile_cost.calls k _ _ y607 t612 _ ?side1 ?side2 A14.out).mono ?_); (case side1 => exact bc (Kd.V_reads' HO611.out).2.2); (case side2 => exact (Kd.V_reads' HO611.out).2.1); rintro e w24 ⟨rfl, hb⟩; refine ⟨_, rfl, ?_⟩; replace HO597 := vb HO597 hb; replace HO605 := rb HO605 hb; replace HO611 := vb HO611 hb; replace BK594 := bb BK594 hb; replace HB := sb HB hb; (try clear hb)))
      go_ret2
      exact ez
     ·rw [if_neg c13] at H; exact absurd H (by simp)
    ·rw [if_neg c12] at H; exact absurd H (by simp)
   ·rw [if_neg c11] at H; exact absurd H (by simp)
  ·rw [if_neg c10] at H; have c10b0 := beq_eq_false_iff_ne.mpr c10; have c10b1 := bne_iff_ne.mpr c10; simp only [Option.some.injEq, Prod.mk.injEq] at H; obtain ⟨rfl, rfl⟩ := H; go_enter Try.func32, Try.ntmps32
   try go_wp2_with (first | ((with_reducible refine ga 3 rfl ?_); (try (refine gate_guard (by rfl) ?_; dsimp only)); refine be 3 54 #[.int .i64 a1_0, .int .i64 a1_1] ?_; intro gb594 hg w25 hbox hb; have BK594 := m0 hbox; have GW594 := gw w hg; have GE594 := gw w hg; replace HB := sb HB hb; clear hb hbox hg) | ((with_reducible refine gc 84 rfl ?_); refine gl (some 10) Try.func84 #[.slice A0 l0.length c0] ?_; (with_reducible refine (L_open.calls k (fun k_ => k_ < w.heap.size) _ _ l0 t595 t598 _ ?side1 A3.out).mono ?_); (case side1 => exact Kd.V_mk HC0.out (Kd.F_below (Kd.C_F (Kd.heap_int .i64) HR0.out) bz)); rintro e w26 ⟨v596, rfl, ho0, hb⟩; refine ⟨_, rfl, ?_⟩; have HO597 := hv w (fun k_ => k_ ≠ gb594) ho0 (fun k_ hk_ => Or.elim hk_ (fun hs_ => fun e_ => Nat.not_le.2 hs_ (by rw [e_]; exact GW594.out)) (fb BK594 ·)); replace BK594 := bb BK594 hb; replace HB := sb HB hb; (try clear hb); (try clear ho0)))
   replace HO597 := m0 (Kd.V_drew HO597.out); replace BK594 := bd BK594; replace HB := sd HB; refine start_ (n := 25) (S := fun w' => w'.cell? ⟨gb594, 0, none⟩ = some (.int .i64 a1_0) ∧ w'.cell? ⟨gb594, 1, none⟩ = some (.int .i64 a1_1)) (ds := []) _ (by kernel_rfl) rfl rfl cz (fun hH => ?_); refine with_tabW L_SegmentCost.tab2 L_SegmentCost.bits2 (fun HT_ HW_ => ?_); generalize w26.drew = w27 at HO597 BK594 HB hH ⊢; refine pZ 0 (some 13) (bs 25 1) HT_ ?_; refine pZ 1 (some 14) (bs 25 3) HT_ ?_; refine pZ 3 (some 16) (bs 25 11) HT_ ?_; refine pZ 4 (some 17) (bs 25 27) HT_ ?_; refine pZ 5 (some 18) (bs 25 59) HT_ ?_; refine pZ 16 (some 29) (bs 25 65595) HT_ ?_; refine pZ 18 (some 31) (bs 25 327739) HT_ ?_; refine takeZ 2 (some 15) (bs 25 327743) (tw HT_ HW_) hH ?_; refine takeZ 17 (some 30) (bs 25 458815) (tw HT_ HW_) hH ?_; refine takeZ 19 (some 32) (bs 25 983103) (tw HT_ HW_) hH ?_; refine pZ 20 (some 33) (bs 25 2031679) HT_ ?_; refine oneZ 6 (some 19) (bs 25 2031743) (o1 HT_) fun K hK => ?_; refine gz Try.func70 #[.int .i64 a1_0, .int .i64 0, .int .i64 (wrap64 ((l0.length : Int) - 1))] ?_
   with_reducible refine (L_within.calls a1_0 0 (wrap64 ((l0.length : Int) - 1)) true _ A4.out).mono ?_
   rintro e w' ⟨rfl, ⟨nd, rfl⟩⟩; refine ⟨_, rfl, ?_⟩; refine hK.out _ _ cz (fun hH => ?_); clear hK K; refine nz 19 ?_; refine pZ 7 (some 20) (bs 25 2031871) HT_ ?_; refine pZ 8 (some 21) (bs 25 2032127) HT_ ?_; refine pZ 10 (some 23) (bs 25 2033151) HT_ ?_; refine pZ 11 (some 24) (bs 25 2035199) HT_ ?_; refine pZ 12 (some 25) (bs 25 2039295) HT_ ?_; refine takeZ 9 (some 22) (bs 25 2039807) (tw HT_ HW_) hH ?_; refine oneZ 13 (some 26) (bs 25 2047999) (o1 HT_) fun K hK => ?_; refine gz Try.func70 #[.int .i64 a1_1, .int .i64 0, .int .i64 (wrap64 ((l0.length : Int) - 1))] ?_
   with_reducible refine (L_within.calls a1_1 0 (wrap64 ((l0.length : Int) - 1)) t600 _ A6.out).mono ?_
   rintro e w' ⟨rfl, ⟨nd, rfl⟩⟩; refine ⟨_, rfl, ?_⟩; refine hK.out _ _ cz (fun hH => ?_); clear hK K; refine nz 26 ?_; refine pZ 14 (some 27) (bs 25 2064383) HT_ ?_; refine oneZ 15 (some 28) (bs 25 2097151) (o1 HT_) fun K hK => ?_; refine gz Try.func69 #[.bool t600, .int .i64 6] ?_
   with_reducible refine (L_unless.calls t600 6 t601 _ A7.out).mono ?_
   rintro e w' ⟨rfl, ⟨nd, rfl⟩⟩; refine ⟨_, rfl, ?_⟩; refine hK.out _ _ cz (fun hH => ?_); clear hK K; refine nz 28 ?_; refine oneZ 21 (some 34) (bs 25 4194303) (o1 HT_) fun K hK => ?_; refine gz Try.func69 #[.bool (decide (a1_0 ≤ a1_1)), .int .i64 9] ?_
   with_reducible refine (L_unless.calls (decide (a1_0 ≤ a1_1)) 9 t602 _ A8.out).mono ?_
   rintro e w' ⟨rfl, ⟨nd, rfl⟩⟩; refine ⟨_, rfl, ?_⟩; refine hK.out _ _ cz (fun hH => ?_); clear hK K; refine nz 34 ?_; refine oneZ 22 (some 35) (bs 25 8388607) (o1 HT_) fun K hK => ?_; refine Kd.R_lit_step (Kd.int .i64) _ 26 ?hg (N := 35) ?hd (xs := ([t598, t601, t602] : List Int)) (inner := [.int .i64 t598, .int .i64 t601, .int .i64 t602]) (ok := fun _ => True) (okp := fun _ => True) ?hr ?hp (fun _ hk => hk) trivial (Below.refl _ _) (Nat.le_refl _) (by simp) ?_; (case hd => rfl); (case hg => rfl); (case hr => first | (go_simp; done) | (go_simp; rfl)); (case hp => exact (Reps.one (ki t598) (Reps.one (ki t601) (Reps.one (ki t602) (Reps.none _ _)))))
   intro v604 w28 ho29 hb hg_ hnew_; clear hg_ hnew_
   (first | rw [← Ny603.out] at ho29 | (simp only [Int.reduceToNat] at ho29; rw [← Ny603.out] at ho29))
   replace HO597 := m0 (Kd.V_elder' (by (with_reducible repeat (first | apply Kd.V_alloc | apply Kd.V_drewN | apply Kd.V_drew)); exact HO597.out) (Kd.R_base ho29) hb); have HO605 := m0 (Kd.R_lower ho29 (below_size bz)); replace BK594 := bb BK594 hb; replace HB := sb HB hb; clear hb ho29; obtain ⟨Ao30, co30, eo30⟩ := Kd.R_slice HO605.out; subst eo30; refine hK.out _ _ cz (fun hH => ?_); clear hK K; refine nz 35 ?_; refine oneZ 23 (some 36) (bs 25 16777215) (o1 HT_) fun K hK => ?_; refine gz Try.func68 #[.slice Ao30 y603.length co30] ?_
   with_reducible refine (L_first.calls k _ _ y603 t606 _ ?side1 ?side2 A9.out).mono ?_
   (case side1 => exact bc (Kd.R_reads' HO605.out).2.2)
   (case side2 => exact (Kd.R_reads' HO605.out).2.1)
   rintro e w' ⟨rfl, ⟨nd, rfl⟩⟩; refine ⟨_, rfl, ?_⟩; refine hK.out _ _ cz (fun hH => ?_); clear hK K; refine nz 36 ?_; refine pZ 24 (some 7) (bs 25 33554431) HT_ ?_; refine done_ (done_of HT_.out (by kernel_rfl)) ?_
   try go_wp2
   go_ret2
   exact ez
 ·replace c5 := Bool.eq_false_iff.mpr c5; subst c5; rw [if_neg (show ¬ (false = true) by decide)] at H; replace H := oa H; obtain ⟨t613, A31, H⟩ := H; (try dsimp only at H); replace H := oa H; obtain ⟨t614, A32, H⟩ := H; (try dsimp only at H); obtain ⟨y615, hy615⟩ : ∃ y_ : List Int, y_ = (([t598, t613, t614] : List Int)) := ⟨_, rfl⟩; replace H : ((L_first.f k y615).bind fun t618 => (if t618 = 0 then (if 0 ≤ a1_0 then (if a1_0 ≤ (wrap64 (a1_1 + 1)) then (if (wrap64 (a1_1 + 1)) ≤ (t595.length : Int) then ((L_profile_cost.f k ((t595.take ((wrap64 (a1_1 + 1)) : Int).toNat).drop (a1_0 : Int).toNat)).bind fun t624 => (some (t624, 0))) else (none)) else (none)) else (none)) else (some (0, t618)))) = some (r1, r2) := by first | (rw [hy615]; with_reducible exact H) | (have H2_ := (Option.bind_some _ _).symm.trans H; rw [hy615]; with_reducible exact H2_) | (have H2_ := (Option.bind_some _ _).symm.trans H; with_reducible exact H2_) | with_reducible exact H | (rw [hy615]; exact H) | exact H
  have Ny615 := m0 hy615; clear hy615; replace H := oa H; obtain ⟨t618, A33, H⟩ := H; (try dsimp only at H)
  by_cases c34 : t618 = 0
  ·rw [if_pos c34] at H; have c34b0 := beq_iff_eq.mpr c34; have c34b1 := bne_eq_false_iff_eq.mpr c34; clear c34
   by_cases c35 : 0 ≤ a1_0
   ·rw [if_pos c35] at H; have c35b0 := eq_true c35; have c35b1 := decide_eq_true c35; clear c35
    by_cases c36 : a1_0 ≤ (wrap64 (a1_1 + 1))
    ·rw [if_pos c36] at H; have c36b0 := eq_true c36; have c36b1 := decide_eq_true c36
     by_cases c37 : (wrap64 (a1_1 + 1)) ≤ (t595.length : Int)
     ·rw [if_pos c37] at H; have c37b0 := eq_true c37; have c37b1 := decide_eq_true c37; obtain ⟨y619, hy619⟩ : ∃ y_ : List Int, y_ = ((t595.take ((wrap64 (a1_1 + 1)) : Int).toNat).drop (a1_0 : Int).toNat) := ⟨_, rfl⟩; replace H : ((L_profile_cost.f k y619).bind fun t624 => (some (t624, 0))) = some (r1, r2) := by first | (rw [hy619]; with_reducible exact H) | (have H2_ := (Option.bind_some _ _).symm.trans H; rw [hy619]; with_reducible exact H2_) | (have H2_ := (Option.bind_some _ _).symm.trans H; with_reducible exact H2_) | with_reducible exact H | (rw [hy619]; exact H) | exact H
      have Ny619 := m0 hy619; clear hy619; replace H := oa H; obtain ⟨t624, A38, H⟩ := H; (try dsimp only at H); simp only [Option.some.injEq, Prod.mk.injEq] at H; obtain ⟨rfl, rfl⟩ := H; go_enter Try.func32, Try.ntmps32
      try go_wp2_with (first | ((with_reducible refine ga 3 rfl ?_); (try (refine gate_guard (by rfl) ?_; dsimp only)); refine be 3 54 #[.int .i64 a1_0, .int .i64 a1_1] ?_; intro gb594 hg w39 hbox hb; have BK594 := m0 hbox; have GW594 := gw w hg; have GE594 := gw w hg; replace HB := sb HB hb; clear hb hbox hg) | ((with_reducible refine gc 84 rfl ?_); refine gl (some 10) Try.func84 #[.slice A0 l0.length c0] ?_; (with_reducible refine (L_open.calls k (fun k_ => k_ < w.heap.size) _ _ l0 t595 t598 _ ?side1 A3.out).mono ?_); (case side1 => exact Kd.V_mk HC0.out (Kd.F_below (Kd.C_F (Kd.heap_int .i64) HR0.out) bz)); rintro e w40 ⟨v596, rfl, ho0, hb⟩; refine ⟨_, rfl, ?_⟩; have HO597 := hv w (fun k_ => k_ ≠ gb594) ho0 (fun k_ hk_ => Or.elim hk_ (fun hs_ => fun e_ => Nat.not_le.2 hs_ (by rw [e_]; exact GW594.out)) (fb BK594 ·)); replace BK594 := bb BK594 hb; replace HB := sb HB hb; (try clear hb); (try clear ho0)))
      replace HO597 := m0 (Kd.V_drew HO597.out); replace BK594 := bd BK594; replace HB := sd HB; refine start_ (n := 25) (S := fun w' => w'.cell? ⟨gb594, 0, none⟩ = some (.int .i64 a1_0) ∧ w'.cell? ⟨gb594, 1, none⟩ = some (.int .i64 a1_1)) (ds := []) _ (by kernel_rfl) rfl rfl cz (fun hH => ?_); refine with_tabW L_SegmentCost.tab2 L_SegmentCost.bits2 (fun HT_ HW_ => ?_); generalize w40.drew = w41 at HO597 BK594 HB hH ⊢; refine pZ 0 (some 13) (bs 25 1) HT_ ?_; refine pZ 1 (some 14) (bs 25 3) HT_ ?_; refine pZ 3 (some 16) (bs 25 11) HT_ ?_; refine pZ 4 (some 17) (bs 25 27) HT_ ?_; refine pZ 5 (some 18) (bs 25 59) HT_ ?_; refine pZ 16 (some 29) (bs 25 65595) HT_ ?_; refine pZ 18 (some 31) (bs 25 327739) HT_ ?_; refine takeZ 2 (some 15) (bs 25 327743) (tw HT_ HW_) hH ?_; refine takeZ 17 (some 30) (bs 25 458815) (tw HT_ HW_) hH ?_; refine takeZ 19 (some 32) (bs 25 983103) (tw HT_ HW_) hH ?_; refine pZ 20 (some 33) (bs 25 2031679) HT_ ?_; refine oneZ 6 (some 19) (bs 25 2031743) (o1 HT_) fun K hK => ?_; refine gz Try.func70 #[.int .i64 a1_0, .int .i64 0, .int .i64 (wrap64 ((l0.length : Int) - 1))] ?_
      with_reducible refine (L_within.calls a1_0 0 (wrap64 ((l0.length : Int) - 1)) false _ A4.out).mono ?_
      rintro e w' ⟨rfl, ⟨nd, rfl⟩⟩; refine ⟨_, rfl, ?_⟩; refine hK.out _ _ cz (fun hH => ?_); clear hK K; refine nz 19 ?_; refine pZ 7 (some 20) (bs 25 2031871) HT_ ?_; refine pure_ (i := 8) (N := some 21) (v := undef) (a' := ?_) (bs 25 2032127) rfl rfl (any_of HT_.out (by kernel_rfl)) (fun _ _ _ h => h) (Or.inr ⟨by rfl, rfl⟩) ?_ ?_; rotate_left
      ·exact pz
      refine pure_ (i := 9) (N := some 22) (v := undef) (a' := ?_) (bs 25 2032639) rfl rfl (any_of HT_.out (by kernel_rfl)) (fun _ _ _ h => h) (Or.inr ⟨by rfl, rfl⟩) ?_ ?_; rotate_left
      ·exact pz
      refine pure_ (i := 10) (N := some 23) (v := undef) (a' := ?_) (bs 25 2033663) rfl rfl (any_of HT_.out (by kernel_rfl)) (fun _ _ _ h => h) (Or.inr ⟨by rfl, rfl⟩) ?_ ?_; rotate_left
      ·exact pz
      refine pure_ (i := 11) (N := some 24) (v := undef) (a' := ?_) (bs 25 2035711) rfl rfl (any_of HT_.out (by kernel_rfl)) (fun _ _ _ h => h) (Or.inr ⟨by rfl, rfl⟩) ?_ ?_; rotate_left
      ·exact pz
      refine pure_ (i := 12) (N := some 25) (v := undef) (a' := ?_) (bs 25 2039807) rfl rfl (any_of HT_.out (by kernel_rfl)) (fun _ _ _ h => h) (Or.inr ⟨by rfl, rfl⟩) ?_ ?_; rotate_left
      ·exact pz
      refine pure_ (i := 13) (N := some 26) (v := undef) (a' := ?_) (bs 25 2047999) rfl rfl (any_of HT_.out (by kernel_rfl)) (fun _ _ _ h => h) (Or.inr ⟨by rfl, rfl⟩) ?_ ?_; rotate_left
      ·exact pz
      refine pZ 14 (some 27) (bs 25 2064383) HT_ ?_; refine oneZ 15 (some 28) (bs 25 2097151) (o1 HT_) fun K hK => ?_; refine gz Try.func69 #[.bool false, .int .i64 6] ?_
      with_reducible refine (L_unless.calls false 6 t613 _ A31.out).mono ?_
      rintro e w' ⟨rfl, ⟨nd, rfl⟩⟩; refine ⟨_, rfl, ?_⟩; refine hK.out _ _ cz (fun hH => ?_); clear hK K; refine nz 28 ?_; refine oneZ 21 (some 34) (bs 25 4194303) (o1 HT_) fun K hK => ?_; refine gz Try.func69 #[.bool (decide (a1_0 ≤ a1_1)), .int .i64 9] ?_
      with_reducible refine (L_unless.calls (decide (a1_0 ≤ a1_1)) 9 t614 _ A32.out).mono ?_
      rintro e w' ⟨rfl, ⟨nd, rfl⟩⟩; refine ⟨_, rfl, ?_⟩; refine hK.out _ _ cz (fun hH => ?_); clear hK K; refine nz 34 ?_; refine oneZ 22 (some 35) (bs 25 8388607) (o1 HT_) fun K hK => ?_; refine Kd.R_lit_step (Kd.int .i64) _ 26 ?hg (N := 35) ?hd (xs := ([t598, t613, t614] : List Int)) (inner := [.int .i64 t598, .int .i64 t613, .int .i64 t614]) (ok := fun _ => True) (okp := fun _ => True) ?hr ?hp (fun _ hk => hk) trivial (Below.refl _ _) (Nat.le_refl _) (by simp) ?_; (case hd => rfl); (case hg => rfl); (case hr => first | (go_simp; done) | (go_simp; rfl)); (case hp => exact (Reps.one (ki t598) (Reps.one (ki t613) (Reps.one (ki t614) (Reps.none _ _)))))
      intro v616 w42 ho43 hb hg_ hnew_; clear hg_ hnew_
      (first | rw [← Ny615.out] at ho43 | (simp only [Int.reduceToNat] at ho43; rw [← Ny615.out] at ho43))
      replace HO597 := m0 (Kd.V_elder' (by (with_reducible repeat (first | apply Kd.V_alloc | apply Kd.V_drewN | apply Kd.V_drew)); exact HO597.out) (Kd.R_base ho43) hb); have HO617 := m0 (Kd.R_lower ho43 (below_size bz)); replace BK594 := bb BK594 hb; replace HB := sb HB hb; clear hb ho43; obtain ⟨Ao44, co44, eo44⟩ := Kd.R_slice HO617.out; subst eo44; refine hK.out _ _ cz (fun hH => ?_); clear hK K; refine nz 35 ?_; refine oneZ 23 (some 36) (bs 25 16777215) (o1 HT_) fun K hK => ?_; refine gz Try.func68 #[.slice Ao44 y615.length co44] ?_
      with_reducible refine (L_first.calls k _ _ y615 t618 _ ?side1 ?side2 A33.out).mono ?_
      (case side1 => exact bc (Kd.R_reads' HO617.out).2.2)
      (case side2 => exact (Kd.R_reads' HO617.out).2.1)
      rintro e w' ⟨rfl, ⟨nd, rfl⟩⟩; refine ⟨_, rfl, ?_⟩; refine hK.out _ _ cz (fun hH => ?_); clear hK K; refine nz 36 ?_; refine pZ 24 (some 7) (bs 25 33554431) HT_ ?_; refine done_ (done_of HT_.out (by kernel_rfl)) ?_; obtain ⟨_, _, _, _⟩ := b2 BK594; obtain ⟨Ao47, co47, eo47⟩ := Kd.V_slice HO597.out; subst eo47; have q46 : ((wrap64 (a1_1 + 1)) : Int) ≤ ((t595.length : Int) : Int) := od; obtain ⟨i046, hi046, _, hsz46, _⟩ := info_parts info3; have hroom46 : t595.length ≤ co47 := (Kd.V_reads' HO597.out).2.1; have hC46 : Kd.F (Kd.int .i64) _ _ Ao47 t595.length t595 := (Kd.V_at (base := w.heap.size) HO597.out).2.2; have ql46 : (a1_0 : Int) ≤ ((wrap64 (a1_1 + 1)) : Int) := od; have q046 : (0 : Int) ≤ (a1_0 : Int) := od; have hcut46 := cut_mid (P := Try.prog) 126 3 .i64 .i64 Try.underlying126 hi046 1 hsz46 Ao47 t595.length co47 a1_0 (wrap64 (a1_1 + 1)) q046 ql46 q46 hroom46; have hr46 := Kd.F_mid (lo := (a1_0 : Int).toNat) (hi := ((wrap64 (a1_1 + 1)) : Int).toNat) (c := co47) hC46 (by omega) (by omega) hroom46; obtain ⟨A46, hA46⟩ : ∃ A1, A1 = (if co47 = (a1_0 : Int).toNat then Ao47 else (Ao47 : Option Addr).map (·.add ((a1_0 : Int).toNat * 1))) := ⟨_, rfl⟩; obtain ⟨c46, hc46⟩ : ∃ c1, c1 = co47 - (a1_0 : Int).toNat := ⟨_, rfl⟩; have hy46 : y619.length = ((wrap64 (a1_1 + 1)) : Int).toNat - (a1_0 : Int).toNat := (by rw [Ny619.out, List.length_drop, List.length_take] <;> omega); rw [show ((t595).take ((wrap64 (a1_1 + 1)) : Int).toNat).drop (a1_0 : Int).toNat = y619 from Ny619.out.symm] at hr46; replace hr46 : Kd.F (Kd.int .i64) _ _ A46 y619.length y619 := (by rw [hA46]; exact hr46); rw [← hy46, ← hA46, ← hc46] at hcut46; have HO623 := m0 (show Kd.V (Kd.int .i64) 3 _ w.heap.size _ (.slice A46 y619.length c46) y619 from Kd.V_mk (by rw [hy46, hc46]; exact Nat.sub_le_sub_right (Nat.le_trans (by omega) hroom46) _) hr46); have HC623 := m0 (show y619.length ≤ c46 from by rw [hy46, hc46]; exact Nat.sub_le_sub_right (Nat.le_trans (by omega) hroom46) _); clear hr46 hC46 hroom46 hi046 hsz46 hc46; have KY46 := m0 hy46; have KA46 := m0 hA46; clear hy46 hA46; replace q46 := eq_true q46
      try go_wp2_with (first | ((with_reducible refine gc 85 rfl ?_); refine gl (some 47) Try.func85 #[.slice A46 y619.length c46] ?_; (with_reducible refine (L_profile_cost.calls k _ _ y619 t624 _ ?side1 ?side2 A38.out).mono ?_); (case side1 => exact bc (Kd.V_reads' HO623.out).2.2); (case side2 => exact (Kd.V_reads' HO623.out).2.1); rintro e w48 ⟨rfl, hb⟩; refine ⟨_, rfl, ?_⟩; replace HO597 := vb HO597 hb; replace HO617 := rb HO617 hb; replace HO623 := vb HO623 hb; replace BK594 := bb BK594 hb; replace HB := sb HB hb; (try clear hb)))
      go_ret2
      exact ez
     ·rw [if_neg c37] at H; exact absurd H (by simp)
    ·rw [if_neg c36] at H; exact absurd H (by simp)
   ·rw [if_neg c35] at H; exact absurd H (by simp)
  ·rw [if_neg c34] at H; have c34b0 := beq_eq_false_iff_ne.mpr c34; have c34b1 := bne_iff_ne.mpr c34; simp only [Option.some.injEq, Prod.mk.injEq] at H; obtain ⟨rfl, rfl⟩ := H; go_enter Try.func32, Try.ntmps32
   try go_wp2_with (first | ((with_reducible refine ga 3 rfl ?_); (try (refine gate_guard (by rfl) ?_; dsimp only)); refine be 3 54 #[.int .i64 a1_0, .int .i64 a1_1] ?_; intro gb594 hg w49 hbox hb; have BK594 := m0 hbox; have GW594 := gw w hg; have GE594 := gw w hg; replace HB := sb HB hb; clear hb hbox hg) | ((with_reducible refine gc 84 rfl ?_); refine gl (some 10) Try.func84 #[.slice A0 l0.length c0] ?_; (with_reducible refine (L_open.calls k (fun k_ => k_ < w.heap.size) _ _ l0 t595 t598 _ ?side1 A3.out).mono ?_); (case side1 => exact Kd.V_mk HC0.out (Kd.F_below (Kd.C_F (Kd.heap_int .i64) HR0.out) bz)); rintro e w50 ⟨v596, rfl, ho0, hb⟩; refine ⟨_, rfl, ?_⟩; have HO597 := hv w (fun k_ => k_ ≠ gb594) ho0 (fun k_ hk_ => Or.elim hk_ (fun hs_ => fun e_ => Nat.not_le.2 hs_ (by rw [e_]; exact GW594.out)) (fb BK594 ·)); replace BK594 := bb BK594 hb; replace HB := sb HB hb; (try clear hb); (try clear ho0)))
   replace HO597 := m0 (Kd.V_drew HO597.out); replace BK594 := bd BK594; replace HB := sd HB; refine start_ (n := 25) (S := fun w' => w'.cell? ⟨gb594, 0, none⟩ = some (.int .i64 a1_0) ∧ w'.cell? ⟨gb594, 1, none⟩ = some (.int .i64 a1_1)) (ds := []) _ (by kernel_rfl) rfl rfl cz (fun hH => ?_); refine with_tabW L_SegmentCost.tab2 L_SegmentCost.bits2 (fun HT_ HW_ => ?_); generalize w50.drew = w51 at HO597 BK594 HB hH ⊢; refine pZ 0 (some 13) (bs 25 1) HT_ ?_; refine pZ 1 (some 14) (bs 25 3) HT_ ?_; refine pZ 3 (some 16) (bs 25 11) HT_ ?_; refine pZ 4 (some 17) (bs 25 27) HT_ ?_; refine pZ 5 (some 18) (bs 25 59) HT_ ?_; refine pZ 16 (some 29) (bs 25 65595) HT_ ?_; refine pZ 18 (some 31) (bs 25 327739) HT_ ?_; refine takeZ 2 (some 15) (bs 25 327743) (tw HT_ HW_) hH ?_; refine takeZ 17 (some 30) (bs 25 458815) (tw HT_ HW_) hH ?_; refine takeZ 19 (some 32) (bs 25 983103) (tw HT_ HW_) hH ?_; refine pZ 20 (some 33) (bs 25 2031679) HT_ ?_; refine oneZ 6 (some 19) (bs 25 2031743) (o1 HT_) fun K hK => ?_; refine gz Try.func70 #[.int .i64 a1_0, .int .i64 0, .int .i64 (wrap64 ((l0.length : Int) - 1))] ?_
   with_reducible refine (L_within.calls a1_0 0 (wrap64 ((l0.length : Int) - 1)) false _ A4.out).mono ?_
   rintro e w' ⟨rfl, ⟨nd, rfl⟩⟩; refine ⟨_, rfl, ?_⟩; refine hK.out _ _ cz (fun hH => ?_); clear hK K; refine nz 19 ?_; refine pZ 7 (some 20) (bs 25 2031871) HT_ ?_; refine pure_ (i := 8) (N := some 21) (v := undef) (a' := ?_) (bs 25 2032127) rfl rfl (any_of HT_.out (by kernel_rfl)) (fun _ _ _ h => h) (Or.inr ⟨by rfl, rfl⟩) ?_ ?_; rotate_left
   ·exact pz
   refine pure_ (i := 9) (N := some 22) (v := undef) (a' := ?_) (bs 25 2032639) rfl rfl (any_of HT_.out (by kernel_rfl)) (fun _ _ _ h => h) (Or.inr ⟨by rfl, rfl⟩) ?_ ?_; rotate_left
   ·exact pz
   refine pure_ (i := 10) (N := some 23) (v := undef) (a' := ?_) (bs 25 2033663) rfl rfl (any_of HT_.out (by kernel_rfl)) (fun _ _ _ h => h) (Or.inr ⟨by rfl, rfl⟩) ?_ ?_; rotate_left
   ·exact pz
   refine pure_ (i := 11) (N := some 24) (v := undef) (a' := ?_) (bs 25 2035711) rfl rfl (any_of HT_.out (by kernel_rfl)) (fun _ _ _ h => h) (Or.inr ⟨by rfl, rfl⟩) ?_ ?_; rotate_left
   ·exact pz
   refine pure_ (i := 12) (N := some 25) (v := undef) (a' := ?_) (bs 25 2039807) rfl rfl (any_of HT_.out (by kernel_rfl)) (fun _ _ _ h => h) (Or.inr ⟨by rfl, rfl⟩) ?_ ?_; rotate_left
   ·exact pz
   refine pure_ (i := 13) (N := some 26) (v := undef) (a' := ?_) (bs 25 2047999) rfl rfl (any_of HT_.out (by kernel_rfl)) (fun _ _ _ h => h) (Or.inr ⟨by rfl, rfl⟩) ?_ ?_; rotate_left
   ·exact pz
   refine pZ 14 (some 27) (bs 25 2064383) HT_ ?_; refine oneZ 15 (some 28) (bs 25 2097151) (o1 HT_) fun K hK => ?_; refine gz Try.func69 #[.bool false, .int .i64 6] ?_
   with_reducible refine (L_unless.calls false 6 t613 _ A31.out).mono ?_
   rintro e w' ⟨rfl, ⟨nd, rfl⟩⟩; refine ⟨_, rfl, ?_⟩; refine hK.out _ _ cz (fun hH => ?_); clear hK K; refine nz 28 ?_; refine oneZ 21 (some 34) (bs 25 4194303) (o1 HT_) fun K hK => ?_; refine gz Try.func69 #[.bool (decide (a1_0 ≤ a1_1)), .int .i64 9] ?_
   with_reducible refine (L_unless.calls (decide (a1_0 ≤ a1_1)) 9 t614 _ A32.out).mono ?_
   rintro e w' ⟨rfl, ⟨nd, rfl⟩⟩; refine ⟨_, rfl, ?_⟩; refine hK.out _ _ cz (fun hH => ?_); clear hK K; refine nz 34 ?_; refine oneZ 22 (some 35) (bs 25 8388607) (o1 HT_) fun K hK => ?_; refine Kd.R_lit_step (Kd.int .i64) _ 26 ?hg (N := 35) ?hd (xs := ([t598, t613, t614] : List Int)) (inner := [.int .i64 t598, .int .i64 t613, .int .i64 t614]) (ok := fun _ => True) (okp := fun _ => True) ?hr ?hp (fun _ hk => hk) trivial (Below.refl _ _) (Nat.le_refl _) (by simp) ?_; (case hd => rfl); (case hg => rfl); (case hr => first | (go_simp; done) | (go_simp; rfl)); (case hp => exact (Reps.one (ki t598) (Reps.one (ki t613) (Reps.one (ki t614) (Reps.none _ _)))))
   intro v616 w52 ho53 hb hg_ hnew_; clear hg_ hnew_
   (first | rw [← Ny615.out] at ho53 | (simp only [Int.reduceToNat] at ho53; rw [← Ny615.out] at ho53))
   replace HO597 := m0 (Kd.V_elder' (by (with_reducible repeat (first | apply Kd.V_alloc | apply Kd.V_drewN | apply Kd.V_drew)); exact HO597.out) (Kd.R_base ho53) hb); have HO617 := m0 (Kd.R_lower ho53 (below_size bz)); replace BK594 := bb BK594 hb; replace HB := sb HB hb; clear hb ho53; obtain ⟨Ao54, co54, eo54⟩ := Kd.R_slice HO617.out; subst eo54; refine hK.out _ _ cz (fun hH => ?_); clear hK K; refine nz 35 ?_; refine oneZ 23 (some 36) (bs 25 16777215) (o1 HT_) fun K hK => ?_; refine gz Try.func68 #[.slice Ao54 y615.length co54] ?_
   with_reducible refine (L_first.calls k _ _ y615 t618 _ ?side1 ?side2 A33.out).mono ?_
   (case side1 => exact bc (Kd.R_reads' HO617.out).2.2)
   (case side2 => exact (Kd.R_reads' HO617.out).2.1)
   rintro e w' ⟨rfl, ⟨nd, rfl⟩⟩; refine ⟨_, rfl, ?_⟩; refine hK.out _ _ cz (fun hH => ?_); clear hK K; refine nz 36 ?_; refine pZ 24 (some 7) (bs 25 33554431) HT_ ?_; refine done_ (done_of HT_.out (by kernel_rfl)) ?_
   try go_wp2
   go_ret2
   exact ez
end
section
def L_PotentialsOf.l0 : Nat → List Int → List (S132) → Int → Int → Option (List Int × Int)
 | 0, _, _, _, _ => none
 | k + 1, x8, x22, x23, x24 => if x24 < x23 then (if 0 ≤ x24 then (if x24 < (x22.length : Int) then (if x8.length < 17592186044416 then (L_PotentialsOf.l0 k (x8 ++ [(rd_T132 x22 x24).f0]) x22 x23 (wrap64 (x24 + 1))) else (none)) else (none)) else (none)) else (some (x8, 0))
def L_PotentialsOf.f (k : Nat) (l0 : List Int) (a1 : Int) : Option (List Int × Int) := (L_openDivision.f k l0 a1).bind fun bt625 => (if bt625.2 = 0 then ((L_profile_divisions.f k bt625.1 a1).bind fun t629 => (L_PotentialsOf.l0 k ([] : List Int) t629 (t629.length : Int) 0)) else (some (([] : List Int), bt625.2)))
theorem L_PotentialsOf.mono_l : ∀ k, (∀ y0 y1 y2 y3, LeO (L_PotentialsOf.l0 k y0 y1 y2 y3) (L_PotentialsOf.l0 (k + 1) y0 y1 y2 y3))
 | 0 => fun _ _ _ _ r h => by simp [L_PotentialsOf.l0] at h
 | k + 1 => by
  have ih0 := L_PotentialsOf.mono_l k
  ·intro y0 y1 y2 y3; unfold L_PotentialsOf.l0
   repeat' with_reducible first
    | exact ih0 ..
    | exact L_openDivision.mono ..
    | exact L_profile_divisions.mono ..
    | exact LeO.refl ..
    | exact LeO.none ..
    | refine LeO.ite ?_ ?_
    | refine LeO.bind ?_ (fun _ => ?_)
theorem L_PotentialsOf.mono : ∀ a0 a1 k, LeO (L_PotentialsOf.f k a0 a1) (L_PotentialsOf.f (k + 1) a0 a1) := by
 intro a0 a1 k; have ih0 := L_PotentialsOf.mono_l k; unfold L_PotentialsOf.f
 repeat' with_reducible first
  | exact ih0 ..
  | exact L_openDivision.mono ..
  | exact L_profile_divisions.mono ..
  | exact LeO.refl ..
  | exact LeO.none ..
  | refine LeO.ite ?_ ?_
  | refine LeO.bind ?_ (fun _ => ?_)
theorem L_PotentialsOf.calls (k : Nat) (A0 : Option Addr) (c0 : Nat) (l0 : List Int) (a1 : Int) (r1 : List Int) (r2 : Int) (w : World) (hr0 : Kd.C (Kd.int .i64) w A0 l0.length l0) (hc0 : l0.length ≤ c0) (H : L_PotentialsOf.f k l0 a1 = some (r1, r2)) :
  Calls Try.prog 34 #[.slice A0 l0.length c0, .int .i64 a1] w fun e w' => ∃ v0_ : Value, e = .returned (.tuple #[v0_, .int .i64 r2]) ∧ Kd.R (Kd.int .i64) 3 w' w.heap.size (fun _ => True) v0_ r1 ∧ Below w.heap.size w w' := by
 have hu132 := Try.underlying132; have HR0 := m0 hr0; have HC0 := m0 hc0; clear hr0 hc0; have HB := m0 (Below.refl w.heap.size w); unfold L_PotentialsOf.f at H; replace H := oa H; obtain ⟨⟨t625, t628⟩, A3, H⟩ := H; (try dsimp only at H)
 by_cases c4 : t628 = 0
 ·rw [if_pos c4] at H; have c4b0 := beq_iff_eq.mpr c4; have c4b1 := bne_eq_false_iff_eq.mpr c4; clear c4; replace H := oa H; obtain ⟨t629, A5, H⟩ := H; (try dsimp only at H); have H' := m0 H; clear H; go_enter Try.func34, Try.ntmps34
  go_wp2_with (first | ((with_reducible refine gc 86 rfl ?_); refine gl (some 14) Try.func86 #[.slice A0 l0.length c0, .int .i64 a1] ?_; (with_reducible refine (L_openDivision.calls k (fun k_ => k_ < w.heap.size) _ _ l0 a1 t625 t628 _ ?side1 A3.out).mono ?_); (case side1 => exact Kd.V_mk HC0.out (Kd.F_below (Kd.C_F (Kd.heap_int .i64) HR0.out) bz)); rintro e w6 ⟨v626, rfl, ho0, hb⟩; refine ⟨_, rfl, ?_⟩; have HO627 := hv w (fun k_ => True) ho0 (fun k_ hk_ => trivial); replace HB := sb HB hb; (try clear hb); (try clear ho0); obtain ⟨Ao7, co7, eo7⟩ := Kd.V_slice HO627.out; subst eo7) | ((with_reducible refine gc 87 rfl ?_); refine gl (some 22) Try.func87 #[.slice Ao7 t625.length co7, .int .i64 a1] ?_; (with_reducible refine (L_profile_divisions.calls k _ _ t625 a1 t629 _ ?side1 ?side2 A5.out).mono ?_); (case side1 => exact bc (Kd.V_reads' HO627.out).2.2); (case side2 => exact (Kd.V_reads' HO627.out).2.1); rintro e w8 ⟨v630, rfl, ho0, hb⟩; refine ⟨_, rfl, ?_⟩; replace HO627 := m0 (Kd.V_elder' (by (with_reducible repeat (first | apply Kd.V_alloc | apply Kd.V_drewN | apply Kd.V_drew)); exact HO627.out) (Kd.N_base ho0) hb); have HO631 := m0 (Kd.N_lower (Kd.N_mono (ok' := fun k_ => True) ho0 (fun k_ hk_ => trivial)) (below_size bz)); replace HB := sb HB hb; (try clear hb); (try clear ho0); obtain ⟨Ao9, co9, eo9⟩ := Kd.N_slice HO631.out; subst eo9))
  go_loopg [8, 24] k (fun kq v8 v24 w' => ∃ (x8_1 : List Int) (x24_1 : Int), v24 = .int .i64 x24_1 ∧ Aside0 (L_PotentialsOf.l0 kq x8_1 t629 (t629.length : Int) x24_1 = some (r1, r2)) ∧ Aside0 (kq ≤ k) ∧ Aside0 (Kd.R (Kd.int .i64) 3 w' w.heap.size (fun _ => True) v8 x8_1) ∧ Aside0 (Kd.N k132 132 w' w.heap.size (fun k_ => some k_ ≠ (v8 : Value).ownBlock) (.slice Ao9 t629.length co9) t629) ∧ Aside0 (Below w.heap.size w w'))
  case atStart => exact ⟨(([] : List Int)), (0), rz, H', ⟨Nat.le_refl _⟩, ⟨by first | exact Kd.R_nil _ _ _ _ _ | exact Kd.N_nil _ _ _ _ _ | exact Kd.V_nil _ _ _ _ _ | exact Kd.Q_nil _ _ _ _ _ | exact Kd.S_nil _ _ _ _ _⟩, ⟨by (with_reducible repeat (first | apply Kd.N_alloc | apply Kd.N_drewN | apply Kd.N_drew)); exact Kd.N_mono HO631.out (fun _ hk => (by simp [Value.ownBlock]))⟩, ⟨bz⟩⟩
  case round =>
   clear H'; obtain ⟨x8_1, x24_1, rfl, HA, HK1, HO_8, HO_22, HB⟩ := hrel
   cases gk with
   | zero => exact absurd HA.out (by simp [L_PotentialsOf.l0])
   | succ k1 =>
    have H := HA.out; clear HA; simp only [L_PotentialsOf.l0] at H
    by_cases c10 : x24_1 < (t629.length : Int)
    ·rw [if_pos c10] at H; have c10b0 := decide_eq_true c10; clear c10
     by_cases c11 : 0 ≤ x24_1
     ·rw [if_pos c11] at H; have c11b0 := decide_eq_true c11; clear c11
      by_cases c12 : x24_1 < (t629.length : Int)
      ·rw [if_pos c12] at H; have c12b0 := decide_eq_true c12; clear c12
       by_cases c13 : x8_1.length < 17592186044416
       ·rw [if_pos c13] at H; have LMc13 := m0 c13; clear c13; obtain ⟨y634, hy634⟩ : ∃ y_ : List Int, y_ = (x8_1 ++ [(rd_T132 t629 x24_1).f0]) := ⟨_, rfl⟩; replace H : (L_PotentialsOf.l0 k1 y634 t629 (t629.length : Int) (wrap64 (x24_1 + 1))) = some (r1, r2) := by first | (rw [hy634]; with_reducible exact H) | (have H2_ := (Option.bind_some _ _).symm.trans H; rw [hy634]; with_reducible exact H2_) | (have H2_ := (Option.bind_some _ _).symm.trans H; with_reducible exact H2_) | with_reducible exact H | (rw [hy634]; exact H) | exact H
        have Ny634 := m0 hy634; clear hy634; have H' := m0 H; clear H; have p632 : 0 ≤ (x24_1 : Int) := od; have q632 : x24_1 < (t629.length : Int) := od; obtain ⟨ad632, A632_1, c632_1, e632, hx632_0, hx632_1, hl632_1, hi632_1⟩ := at_T132 (Kd.N_reads' HO_22.out).2.2 x24_1 p632 q632
        cases e632
        obtain ⟨ce632, hce632, hMe632, hcc632⟩ := Kd.N_get HO_22.out z132 x24_1 p632 (by first | exact q632 | exact od | (have e_ := (Kd.N_reads' HO_22.out).1; omega))
        obtain ⟨ua632_1, uc632_1, rfl, ul632_1, ge632_1⟩ := k132_openF hMe632; have hv632_1 := hcc632 1 _ rfl; rw [add_field _ _ 1 (by omega)] at hv632_1; replace hv632_1 := Option.some.inj (hv632_1.symm.trans hx632_1)
        injection hv632_1 with hva_ hvn_ hvc_
        rw [hva_] at ge632_1; rw [hvc_] at ul632_1; have HL632_1 := m0 (show Kd.V (Kd.int .i64) 3 _ w.heap.size _ _ ((rd_T132 t629 x24_1).f1) from Kd.V_mk ul632_1 ge632_1); clear hva_ hvn_ hvc_ ge632_1 ul632_1; clear hcc632 hce632; have HR632_1 := m0 hi632_1; have HC632_1 := m0 hl632_1; clear hi632_1 hl632_1; replace p632 := eq_true p632; replace q632 := eq_true q632
        go_wp2_with (first | ((with_reducible refine ga 10 rfl ?_); refine be 10 132 #[.int .i64 0, .slice none 0 0] ?_; intro gb633 hg w14 hbox hb; replace HO_8 := rb HO_8 hb; replace HO_22 := m0 (Kd.N_below (Kd.N_elderB (by (with_reducible repeat (first | apply Kd.N_alloc | apply Kd.N_drewN | apply Kd.N_drew)); exact HO_22.out) gb633 (Nat.le_of_eq hg.symm)) hb); replace HL632_1 := ve HL632_1 hg hb; replace HR632_1 := m0 (Kd.C_below (by repeat (first | (with_reducible exact HR632_1.out) | (with_reducible refine Kd.C_alloc ?_ _) | (with_reducible refine Kd.C_drewN ?_ _) | (with_reducible refine Kd.C_drew ?_) | exact HR632_1.out)) hb); have BK633 := m0 hbox; have GE633 := gw w hg; replace HB := sb HB hb; clear hb hbox hg; obtain ⟨_, _, _, _⟩ := b2 BK633) | ((with_reducible refine gate_builtin (b := .append) (xs := #[.tmp 28, .tmp 31]) rfl ?_); at_builtin; refine Kd.R_append (Kd.int .i64) (w0 := w) w.heap.size rfl (.tmp 28) (.tmp 31) 41 3 (.int .i64 0) 8 rfl Try.underlying41 info3 rfl (by decide) (by omega) u8 x8_1 ((rd_T132 t629 x24_1).f0) [.int .i64 ((rd_T132 t629 x24_1).f0)] (fun _ => True) (fun _ => False) rfl (by first | (go_simp; done) | (go_simp; rfl)) ?aP (fun _ hk => hk.elim) ?aF ?aO ?aB ?aS ?aL ?_; (case aP => exact rfl); (case aB => exact bz); (case aF => exact (fun _ _ => trivial)); (case aO => exact (by (with_reducible repeat (first | apply Kd.R_alloc | apply Kd.R_drewN | apply Kd.R_drew)); exact Kd.R_mono (rf (rf (Kd.R_types HO_8.out BK633.out (by decide)) (·.2)) (·.2)) (fun _ hk => trivial))); (case aS => exact (below_size bz)); (case aL => have := LMc13.out; omega); intro v635 w16 ho hb hg hat; rw [← Ny634.out] at ho; have n0_ := m0 (Kd.N_afterv (ok := (fun k_ => k_ ≠ gb633)) (by (with_reducible repeat (first | apply Kd.N_alloc | apply Kd.N_drewN | apply Kd.N_drew)); exact Kd.N_mono (Kd.N_far (p := ⟨gb633, 1, none⟩) (Kd.N_far (p := ⟨gb633, 0, none⟩) (Kd.N_mono HO_22.out (fun k_ hk => (⟨hk, hk.2⟩ : _ ∧ k_ ≠ gb633))) (fun _ hk => hk.2) (.int .i64 ((rd_T132 t629 x24_1).f0))) (fun _ hk => hk.2) (.slice A632_1 ((rd_T132 t629 x24_1).f1).length c632_1)) (fun _ hk => ⟨hk.1.2, hk.1.1⟩)) hg hat); have n1_ := m0 (Kd.V_afterv (ok := (fun k_ => some k_ ≠ (.slice (some ad632) t629.length co9 : Value).ownBlock ∧ k_ ≠ gb633)) (by (with_reducible repeat (first | apply Kd.V_alloc | apply Kd.V_drewN | apply Kd.V_drew)); exact Kd.V_mono (vf (vf (vn gb633 HL632_1.out (·.2)) (·.2)) (·.2)) (fun _ hk => ⟨⟨hk.1.1.2, hk.1.2⟩, hk.1.1.1⟩)) hg hat); have n2_ := m0 (blk_grown (g := gb633) (o := .cells #[.int .i64 ((rd_T132 t629 x24_1).f0), .slice A632_1 ((rd_T132 t629 x24_1).f1).length c632_1] 132 (0, 0)) (bq BK633.out) hg (Kd.R_ne HO_8.out BK633.out (by decide))); have n3_ := m0 (hb); have n4_ := m0 (ho); clear HO_22; clear HL632_1; clear BK633; clear HB; clear HO_8; have HO_22 := n0_; have HL632_1 := n1_; have BK633 := n2_; have HB := n3_; have HO636 := n4_; clear n0_ n1_ n2_ n3_ n4_; clear ho hb hg hat))
        go_roundg k1
        case measure => have := HK1.out; omega
        case rel => exact ⟨(y634), (wrap64 (x24_1 + 1)), rz, H', ⟨by have := HK1.out; omega⟩, ⟨br HO636.out⟩, ⟨by (with_reducible repeat (first | apply Kd.N_alloc | apply Kd.N_drewN | apply Kd.N_drew)); exact Kd.N_mono HO_22.out (fun _ hk => hk.2)⟩, ⟨bz⟩⟩
       ·rw [if_neg c13] at H; exact absurd H (by simp)
      ·rw [if_neg c12] at H; exact absurd H (by simp)
     ·rw [if_neg c11] at H; exact absurd H (by simp)
    ·rw [if_neg c10] at H; have c10b0 := decide_eq_false c10; clear c10; simp only [Option.some.injEq, Prod.mk.injEq] at H; obtain ⟨rfl, rfl⟩ := H
     go_wp2
     go_ret2
     exact ⟨_, by first | rfl | (simp [errW_none, errW_some] <;> rfl) | (simp [*, errW_none, errW_some] <;> rfl), by (with_reducible repeat (first | apply Kd.R_alloc | apply Kd.R_drewN | apply Kd.R_drew)); exact HO_8.out, by repeat (first | (with_reducible first | exact HB.out | apply below_alloc | apply pw_below_drewN | apply below_drew1) | exact HB.out)⟩
 ·rw [if_neg c4] at H; have c4b0 := beq_eq_false_iff_ne.mpr c4; have c4b1 := bne_iff_ne.mpr c4; simp only [Option.some.injEq, Prod.mk.injEq] at H; obtain ⟨rfl, rfl⟩ := H; go_enter Try.func34, Try.ntmps34
  go_wp2_with (first | ((with_reducible refine gc 86 rfl ?_); refine gl (some 14) Try.func86 #[.slice A0 l0.length c0, .int .i64 a1] ?_; (with_reducible refine (L_openDivision.calls k (fun k_ => k_ < w.heap.size) _ _ l0 a1 t625 t628 _ ?side1 A3.out).mono ?_); (case side1 => exact Kd.V_mk HC0.out (Kd.F_below (Kd.C_F (Kd.heap_int .i64) HR0.out) bz)); rintro e w17 ⟨v626, rfl, ho0, hb⟩; refine ⟨_, rfl, ?_⟩; have HO627 := hv w (fun k_ => True) ho0 (fun k_ hk_ => trivial); replace HB := sb HB hb; (try clear hb); (try clear ho0)))
  go_ret2
  exact ⟨_, by first | rfl | (simp [errW_none, errW_some] <;> rfl) | (simp [*, errW_none, errW_some] <;> rfl), by first | exact Kd.R_nil _ _ _ _ _ | exact Kd.N_nil _ _ _ _ _ | exact Kd.V_nil _ _ _ _ _ | exact Kd.Q_nil _ _ _ _ _ | exact Kd.S_nil _ _ _ _ _, by repeat (first | (with_reducible first | exact HB.out | apply below_alloc | apply pw_below_drewN | apply below_drew1) | exact HB.out)⟩
end
section
def Bs_Within.f (a0 : Int) (a1 : Int) (a2 : Int) : Option (Bool) := if a1 ≤ a0 then (some (decide (a0 ≤ a2))) else (some false)
theorem Bs_Within.calls (a0 : Int) (a1 : Int) (a2 : Int) (r : Bool) (w : World) (H : Bs_Within.f a0 a1 a2 = some r) :
  Calls Try.prog 19 #[.int .i64 a0, .int .i64 a1, .int .i64 a2] w fun e w' => e = .returned (.bool r) ∧ Drawn0 w w' := by
 unfold Bs_Within.f at H
 by_cases c4 : a1 ≤ a0
 ·rw [if_pos c4] at H; have c4b0 := decide_eq_true c4; clear c4; obtain rfl := Option.some.inj H; go_enter Try.func19, Try.ntmps19
  go_wp2
  go_ret
  exact ⟨rz, by repeat (first | exact Drawn0.refl _ | apply Drawn0.step)⟩
 ·rw [if_neg c4] at H; have c4b0 := decide_eq_false c4; clear c4; obtain rfl := Option.some.inj H; go_enter Try.func19, Try.ntmps19
  go_wp2
  go_ret
  exact ⟨rz, by repeat (first | exact Drawn0.refl _ | apply Drawn0.step)⟩
end
section
def Rf_CheckProfile.l0 : Nat → List Int → Int → Option (Int × Int)
  | 0, _, _ => none
  | k + 1, x0, x4 => if x4 < (x0.length : Int) then (if 0 ≤ x4 then ((Bs_Within.f (rd x0 x4) 0 10000).bind fun t638 => (if t638 = true then (Rf_CheckProfile.l0 k x0 (wrap64 (x4 + 1))) else (some (x4, 2)))) else (none)) else (some (0, 0))
def Rf_CheckProfile.f (k : Nat) (l0 : List Int) : Option (Int × Int) := if (l0.length : Int) = 0 then (some (0, 10)) else (if (l0.length : Int) > 24 then (some (0, 8)) else (Rf_CheckProfile.l0 k l0 0))
theorem Rf_CheckProfile.mono_l : ∀ k, (∀ y0 y1, LeO (Rf_CheckProfile.l0 k y0 y1) (Rf_CheckProfile.l0 (k + 1) y0 y1))
  | 0 => fun _ _ r h => by simp [Rf_CheckProfile.l0] at h
  | k + 1 => by
    have ih0 := Rf_CheckProfile.mono_l k
    · intro y0 y1; unfold Rf_CheckProfile.l0
      repeat' with_reducible first
        | exact ih0 ..
        | exact LeO.refl ..
        | exact LeO.none ..
        | refine LeO.ite ?_ ?_
        | refine LeO.bind ?_ (fun _ => ?_)
theorem Rf_CheckProfile.mono : ∀ a0 k, LeO (Rf_CheckProfile.f k a0) (Rf_CheckProfile.f (k + 1) a0) := by
  intro a0 k; have ih0 := Rf_CheckProfile.mono_l k; unfold Rf_CheckProfile.f
  repeat' with_reducible first
    | exact ih0 ..
    | exact LeO.refl ..
    | exact LeO.none ..
    | refine LeO.ite ?_ ?_
    | refine LeO.bind ?_ (fun _ => ?_)
theorem Rf_CheckProfile.calls (k : Nat) (A0 : Option Addr) (c0 : Nat) (l0 : List Int) (r1 : Int) (r2 : Int) (w : World) (hr0 : Kd.C (Kd.int .i64) w A0 l0.length l0) (hc0 : l0.length ≤ c0) (H : Rf_CheckProfile.f k l0 = some (r1, r2)) :
    Calls Try.prog 46 #[.slice A0 l0.length c0] w fun e w' => e = .returned (.tuple #[.int .i64 r1, .int .i64 r2]) ∧ Drawn0 w w' := by
  have HR0 := m0 hr0; have HC0 := m0 hc0; clear hr0 hc0; unfold Rf_CheckProfile.f at H
  by_cases c2 : (l0.length : Int) = 0
  · rw [if_pos c2] at H; have c2b0 := beq_iff_eq.mpr c2; have c2b1 := bne_eq_false_iff_eq.mpr c2; clear c2; simp only [Option.some.injEq, Prod.mk.injEq] at H; obtain ⟨rfl, rfl⟩ := H; go_enter Try.func46, Try.ntmps46
    go_wp2
    go_ret2
    exact ⟨rz, by repeat (first | exact Drawn0.refl _ | apply Drawn0.step)⟩
  · rw [if_neg c2] at H; have c2b0 := beq_eq_false_iff_ne.mpr c2; have c2b1 := bne_iff_ne.mpr c2; have c2b2 : ¬ (l0 = []) := fun h_ => c2 (by rw [h_]; rfl)
    by_cases c3 : (l0.length : Int) > 24
    · rw [if_pos c3] at H; have c3b0 := decide_eq_true c3; have c3b1 : decide (24 < l0.length) = true := decide_eq_true (by omega); clear c3; simp only [Option.some.injEq, Prod.mk.injEq] at H; obtain ⟨rfl, rfl⟩ := H; go_enter Try.func46, Try.ntmps46
      go_wp2
      go_ret2
      exact ⟨rz, by repeat (first | exact Drawn0.refl _ | apply Drawn0.step)⟩
    · rw [if_neg c3] at H; have c3b0 := decide_eq_false c3; have c3b1 : decide (24 < l0.length) = false := decide_eq_false (by omega); clear c3; have H' := m0 H; clear H; go_enter Try.func46, Try.ntmps46
      go_wp2
      go_loopg [4] k (fun kq v4 w' => ∃ (x4_1 : Int), v4 = .int .i64 x4_1 ∧ Aside0 (Rf_CheckProfile.l0 kq l0 x4_1 = some (r1, r2)) ∧ Aside0 (kq ≤ k) ∧ Drawn0 w w')
      case atStart => exact ⟨(0), rz, H', ⟨Nat.le_refl _⟩, by repeat (first | exact Drawn0.refl _ | apply Drawn0.step)⟩
      case round =>
        clear H'; obtain ⟨x4_1, rfl, HA, HK1, ⟨m1, rfl⟩⟩ := hrel
        cases gk with
        | zero => exact absurd HA.out (by simp [Rf_CheckProfile.l0])
        | succ k1 =>
          have H := HA.out; clear HA; simp only [Rf_CheckProfile.l0] at H
          by_cases c4 : x4_1 < (l0.length : Int)
          · rw [if_pos c4] at H; have c4b0 := decide_eq_true c4; clear c4
            by_cases c5 : 0 ≤ x4_1
            · rw [if_pos c5] at H; have c5b0 := decide_eq_true c5; clear c5; replace H := oa H; obtain ⟨t638, A6, H⟩ := H; (try dsimp only at H)
              by_cases c7 : t638 = true
              · subst c7; rw [if_pos rfl] at H; have H' := m0 H; clear H; have p637 : 0 ≤ (x4_1 : Int) := od; have q637 : x4_1 < (l0.length : Int) := od; obtain ⟨ad637, e637, hx637_0⟩ := Kd.at_int HR0.out x4_1 p637 q637
                cases e637
                replace p637 := eq_true p637; replace q637 := eq_true q637
                go_wp2_with (first | ((with_reducible refine gc 19 rfl ?_); refine gl (some 21) Try.func19 #[.int .i64 (rd l0 x4_1), .int .i64 0, .int .i64 10000] ?_; (with_reducible refine (Bs_Within.calls (rd l0 x4_1) 0 10000 true _ A6.out).mono ?_); rintro e w' ⟨rfl, ⟨nd, rfl⟩⟩; refine ⟨_, rfl, ?_⟩))
                go_roundg k1
                case measure => have := HK1.out; omega
                case rel => exact ⟨(wrap64 (x4_1 + 1)), rz, H', ⟨by have := HK1.out; omega⟩, by repeat (first | exact Drawn0.refl _ | apply Drawn0.step)⟩
              · replace c7 := Bool.eq_false_iff.mpr c7; subst c7; rw [if_neg (show ¬ (false = true) by decide)] at H; simp only [Option.some.injEq, Prod.mk.injEq] at H; obtain ⟨rfl, rfl⟩ := H; have p637 : 0 ≤ (x4_1 : Int) := od; have q637 : x4_1 < (l0.length : Int) := od; obtain ⟨ad637, e637, hx637_0⟩ := Kd.at_int HR0.out x4_1 p637 q637
                cases e637
                replace p637 := eq_true p637; replace q637 := eq_true q637
                go_wp2_with (first | ((with_reducible refine gc 19 rfl ?_); refine gl (some 21) Try.func19 #[.int .i64 (rd l0 x4_1), .int .i64 0, .int .i64 10000] ?_; (with_reducible refine (Bs_Within.calls (rd l0 x4_1) 0 10000 false _ A6.out).mono ?_); rintro e w' ⟨rfl, ⟨nd, rfl⟩⟩; refine ⟨_, rfl, ?_⟩))
                go_ret2
                exact ⟨rz, by repeat (first | exact Drawn0.refl _ | apply Drawn0.step)⟩
            · rw [if_neg c5] at H; exact absurd H (by simp)
          · rw [if_neg c4] at H; have c4b0 := decide_eq_false c4; clear c4; simp only [Option.some.injEq, Prod.mk.injEq] at H; obtain ⟨rfl, rfl⟩ := H
            go_wp2
            go_ret2
            exact ⟨rz, by repeat (first | exact Drawn0.refl _ | apply Drawn0.step)⟩
end
section
def Rf_ProfileErr.f (k : Nat) (l0 : List Int) : Option (Int) := (Rf_CheckProfile.f k l0).bind fun bt639 => (some bt639.2)
theorem Rf_ProfileErr.mono : ∀ a0 k, LeO (Rf_ProfileErr.f k a0) (Rf_ProfileErr.f (k + 1) a0) := by
 intro a0 k; unfold Rf_ProfileErr.f
 repeat' with_reducible first
  | exact Rf_CheckProfile.mono ..
  | exact LeO.refl ..
  | exact LeO.none ..
  | refine LeO.ite ?_ ?_
  | refine LeO.bind ?_ (fun _ => ?_)
theorem Rf_ProfileErr.calls (k : Nat) (A0 : Option Addr) (c0 : Nat) (l0 : List Int) (r : Int) (w : World) (hr0 : Kd.C (Kd.int .i64) w A0 l0.length l0) (hc0 : l0.length ≤ c0) (H : Rf_ProfileErr.f k l0 = some r) :
  Calls Try.prog 35 #[.slice A0 l0.length c0] w fun e w' => e = .returned (.int .i64 r) ∧ Drawn0 w w' := by
 have HR0 := m0 hr0; have HC0 := m0 hc0; clear hr0 hc0; unfold Rf_ProfileErr.f at H; replace H := oa H; obtain ⟨⟨t639, t640⟩, A2, H⟩ := H; (try dsimp only at H); obtain rfl := Option.some.inj H; go_enter Try.func35, Try.ntmps35
 go_wp2_with (first | ((with_reducible refine gc 46 rfl ?_); refine gl (some 7) Try.func46 #[.slice A0 l0.length c0] ?_; (with_reducible refine (Rf_CheckProfile.calls k _ _ l0 t639 t640 _ ?side1 ?side2 A2.out).mono ?_); (case side1 => repeat (first | exact HR0.out | (with_reducible refine Kd.C_alloc ?_ _) | (with_reducible refine Kd.C_drewN ?_ _) | (with_reducible refine Kd.C_drew ?_))); (case side2 => exact HC0.out); rintro e w' ⟨rfl, ⟨nd, rfl⟩⟩; refine ⟨_, rfl, ?_⟩))
 go_ret
 exact ⟨rz, by repeat (first | exact Drawn0.refl _ | apply Drawn0.step)⟩
end
section
def Rf_SegmentErr.j0 : Nat → Bool → Int → Int → Option (Int)
 | 0, _, _, _ => none
 | k + 1, x20, x642000, x642001 => if x20 = true then (some 6) else (if x642000 > x642001 then (some 9) else (some 0))
def Rf_SegmentErr.f (k : Nat) (l0 : List Int) (a1_0 : Int) (a1_1 : Int) : Option (Int) := (Bs_Within.f a1_0 0 (wrap64 ((l0.length : Int) - 1))).bind fun t642 => (if t642 = true then ((Bs_Within.f a1_1 0 (wrap64 ((l0.length : Int) - 1))).bind fun t643 => (Rf_SegmentErr.j0 k (!t643) a1_0 a1_1)) else (Rf_SegmentErr.j0 k true a1_0 a1_1))
theorem Rf_SegmentErr.mono_l : ∀ k, (∀ y0 y1 y2, LeO (Rf_SegmentErr.j0 k y0 y1 y2) (Rf_SegmentErr.j0 (k + 1) y0 y1 y2))
 | 0 => fun _ _ _ r h => by simp [Rf_SegmentErr.j0] at h
 | k + 1 => by
  have ih0 := Rf_SegmentErr.mono_l k
  ·intro y0 y1 y2; unfold Rf_SegmentErr.j0
   repeat' with_reducible first
    | exact ih0 ..
    | exact LeO.refl ..
    | exact LeO.none ..
    | refine LeO.ite ?_ ?_
    | refine LeO.bind ?_ (fun _ => ?_)
theorem Rf_SegmentErr.mono : ∀ a0 a1 a2 k, LeO (Rf_SegmentErr.f k a0 a1 a2) (Rf_SegmentErr.f (k + 1) a0 a1 a2) := by
 intro a0 a1 a2 k; have ih0 := Rf_SegmentErr.mono_l k; unfold Rf_SegmentErr.f
 repeat' with_reducible first
  | exact ih0 ..
  | exact LeO.refl ..
  | exact LeO.none ..
  | refine LeO.ite ?_ ?_
  | refine LeO.bind ?_ (fun _ => ?_)
theorem Rf_SegmentErr.calls (k : Nat) (A0 : Option Addr) (c0 : Nat) (l0 : List Int) (a1_0 : Int) (a1_1 : Int) (r : Int) (w : World) (hr0 : Kd.C (Kd.int .i64) w A0 l0.length l0) (hc0 : l0.length ≤ c0) (H : Rf_SegmentErr.f k l0 a1_0 a1_1 = some r) :
  Calls Try.prog 36 #[.slice A0 l0.length c0, .agg #[.int .i64 a1_0, .int .i64 a1_1]] w fun e w' => e = .returned (.int .i64 r) ∧ Below w.heap.size w w' := by
 have hu54 := Try.underlying54; have HR0 := m0 hr0; have HC0 := m0 hc0; clear hr0 hc0; have HB := m0 (Below.refl w.heap.size w); unfold Rf_SegmentErr.f at H; have HC3 := m0 H; clear H; go_enter Try.func36, Try.ntmps36
 go_upto_region 1 with (first | ((with_reducible refine ga 3 rfl ?_); (try (refine gate_guard (by rfl) ?_; dsimp only)); refine be 3 54 #[.int .i64 a1_0, .int .i64 a1_1] ?_; intro gb641 hg w4 hbox hb; have BK641 := m0 hbox; have GE641 := gw w hg; replace HB := sb HB hb; clear hb hbox hg))
 (try simp only [Act.put, List.setIfInBounds_toArray, List.set_cons_zero, List.set_cons_succ])
 go_cut [20] (fun v20 wc => ∃ (kq : Nat) (x20_2 : Bool), v20 = .bool x20_2 ∧ Aside0 (Rf_SegmentErr.j0 kq x20_2 a1_0 a1_1 = some r) ∧ Aside0 (kq ≤ k) ∧ Aside0 (wc.heap[gb641]? = some (.cells #[.int .i64 a1_0, .int .i64 a1_1] 54 (0, 0))) ∧ Aside0 (Below w.heap.size w wc))
 case first =>
  have H := HC3.out; clear HC3; replace H := oa H; obtain ⟨t642, A5, H⟩ := H; (try dsimp only at H)
  by_cases c6 : t642 = true
  ·subst c6; rw [if_pos rfl] at H; replace H := oa H; obtain ⟨t643, A7, H⟩ := H; (try dsimp only at H); have H' := m0 H; clear H; obtain ⟨hcz8_0, hcz8_1, hfz8_0, hfz8_1⟩ := b2 BK641
   go_wp2_with (first | ((with_reducible refine gc 19 rfl ?_); refine gl (some 10) Try.func19 #[.int .i64 a1_0, .int .i64 0, .int .i64 (wrap64 ((l0.length : Int) - 1))] ?_; (with_reducible refine (Bs_Within.calls a1_0 0 (wrap64 ((l0.length : Int) - 1)) true _ A5.out).mono ?_); rintro e w' ⟨rfl, ⟨nd, rfl⟩⟩; refine ⟨_, rfl, ?_⟩) | (go_at_call 19; (with_reducible refine (Bs_Within.calls a1_1 0 (wrap64 ((l0.length : Int) - 1)) t643 _ A7.out).mono ?_); rintro e w' ⟨rfl, ⟨nd, rfl⟩⟩))
   go_meet
   case rel => exact ⟨_, (!t643), rz, H', ⟨by first | omega | exact Nat.le_refl _⟩, ⟨bk BK641.out⟩, ⟨bz⟩⟩
  ·replace c6 := Bool.eq_false_iff.mpr c6; subst c6; rw [if_neg (show ¬ (false = true) by decide)] at H; have H' := m0 H; clear H; obtain ⟨hcz9_0, hcz9_1, hfz9_0, hfz9_1⟩ := b2 BK641
   go_wp2_with (first | ((with_reducible refine gc 19 rfl ?_); refine gl (some 10) Try.func19 #[.int .i64 a1_0, .int .i64 0, .int .i64 (wrap64 ((l0.length : Int) - 1))] ?_; (with_reducible refine (Bs_Within.calls a1_0 0 (wrap64 ((l0.length : Int) - 1)) false _ A5.out).mono ?_); rintro e w' ⟨rfl, ⟨nd, rfl⟩⟩; refine ⟨_, rfl, ?_⟩))
   go_meet
   case rel => exact ⟨_, (true), rz, H', ⟨by first | omega | exact Nat.le_refl _⟩, ⟨bk BK641.out⟩, ⟨bz⟩⟩
 case rest =>
  clear HC3
  try clear hcz8_0
  try clear hcz8_1
  try clear hcz9_0
  try clear hcz9_1
  try clear hfz8_0
  try clear hfz8_1
  try clear hfz9_0
  try clear hfz9_1
  obtain ⟨kq, x20_2, rfl, HA, HJ2, BK641, HB⟩ := hcut
  cases kq with
  | zero => exact absurd HA.out (by simp [Rf_SegmentErr.j0])
  | succ kj2 =>
   have H := HA.out; clear HA; simp only [Rf_SegmentErr.j0] at H
   by_cases c10 : x20_2 = true
   ·subst c10; rw [if_pos rfl] at H; obtain rfl := Option.some.inj H
    go_wp2
    go_ret
    exact ez
   ·replace c10 := Bool.eq_false_iff.mpr c10; subst c10; rw [if_neg (show ¬ (false = true) by decide)] at H
    by_cases c11 : a1_0 > a1_1
    ·rw [if_pos c11] at H; have c11b0 := decide_eq_true c11; clear c11; obtain rfl := Option.some.inj H; obtain ⟨_, _, _, _⟩ := b2 BK641
     go_wp2
     go_ret
     exact ez
    ·rw [if_neg c11] at H; have c11b0 := decide_eq_false c11; clear c11; obtain rfl := Option.some.inj H; obtain ⟨_, _, _, _⟩ := b2 BK641
     go_wp2
     go_ret
     exact ez
end
section
def Bs_Size.f (a0 : Int) : Option (Int) := some (mx a0 (wrap64 (-a0)))
theorem Bs_Size.calls (a0 : Int) (r : Int) (w : World) (H : Bs_Size.f a0 = some r) :
  Calls Try.prog 88 #[.int .i64 a0] w fun e w' => e = .returned (.int .i64 r) ∧ Below w.heap.size w w' := by
 have HB := m0 (Below.refl w.heap.size w); unfold Bs_Size.f at H; obtain ⟨ji2, hji2⟩ : ∃ j_ : Int, (mx a0 (wrap64 (-a0))) = j_ := ⟨_, rfl⟩; replace H : (some ji2) = some r := by first | (rw [hji2] at H; exact H) | (simp only [hji2] at H ⊢; exact H)
 have hji2_ : (if a0 < (wrap64 (-a0)) then (wrap64 (-a0)) else a0) = ji2 := hji2; obtain rfl := Option.some.inj H; go_enter Try.func88, Try.ntmps88
 go_wp2
 go_ret
 exact ⟨by first | rfl | (simp [errW_none, errW_some] <;> rfl) | (simp only [← hji2]; first | rfl | (simp [errW_none, errW_some] <;> rfl)) | (simp [*, errW_none, errW_some] <;> rfl), by repeat (first | (with_reducible first | exact HB.out | apply below_alloc | apply pw_below_drewN | apply below_drew1) | exact HB.out)⟩
end
section
mutual
def Rf_Cost.l0 : Nat → List Int → Int → Int → Int → Int → Option (Int)
  | 0, _, _, _, _, _ => none
  | k + 1, x0, x1, x2, x7, x8 => if x8 ≤ x2 then (Rf_Cost.l1 k x0 x1 x2 x7 x8 0 x1) else (some x7)
def Rf_Cost.l1 : Nat → List Int → Int → Int → Int → Int → Int → Int → Option (Int)
  | 0, _, _, _, _, _, _, _ => none
  | k + 1, x0, x1, x2, x7, x8, x9, x10 => if x10 ≤ x2 then (if 0 ≤ x10 then (if x10 < (x0.length : Int) then (if 0 ≤ x8 then (if x8 < (x0.length : Int) then ((Bs_Size.f (wrap64 ((rd x0 x10) - (rd x0 x8)))).bind fun t646 => (Rf_Cost.l1 k x0 x1 x2 x7 x8 (wrap64 (x9 + t646)) (wrap64 (x10 + 1)))) else (none)) else (none)) else (none)) else (none)) else (if x7 < 0 then (Rf_Cost.l0 k x0 x1 x2 x9 (wrap64 (x8 + 1))) else (if x9 < x7 then (Rf_Cost.l0 k x0 x1 x2 x9 (wrap64 (x8 + 1))) else (Rf_Cost.l0 k x0 x1 x2 x7 (wrap64 (x8 + 1)))))
end
def Rf_Cost.f (k : Nat) (l0 : List Int) (a1 : Int) (a2 : Int) : Option (Int) := Rf_Cost.l0 k l0 a1 a2 (-1) a1
theorem Rf_Cost.mono_l : ∀ k, (∀ y0 y1 y2 y3 y4, LeO (Rf_Cost.l0 k y0 y1 y2 y3 y4) (Rf_Cost.l0 (k + 1) y0 y1 y2 y3 y4)) ∧ (∀ y0 y1 y2 y3 y4 y5 y6, LeO (Rf_Cost.l1 k y0 y1 y2 y3 y4 y5 y6) (Rf_Cost.l1 (k + 1) y0 y1 y2 y3 y4 y5 y6))
  | 0 => ⟨fun _ _ _ _ _ r h => by simp [Rf_Cost.l0] at h, fun _ _ _ _ _ _ _ r h => by simp [Rf_Cost.l1] at h⟩
  | k + 1 => by
    obtain ⟨ih0, ih1⟩ := Rf_Cost.mono_l k; refine ⟨?_, ?_⟩
    · intro y0 y1 y2 y3 y4; unfold Rf_Cost.l0
      repeat' with_reducible first
        | exact ih0 ..
        | exact ih1 ..
        | exact LeO.refl ..
        | exact LeO.none ..
        | refine LeO.ite ?_ ?_
        | refine LeO.bind ?_ (fun _ => ?_)
    · intro y0 y1 y2 y3 y4 y5 y6; unfold Rf_Cost.l1
      repeat' with_reducible first
        | exact ih0 ..
        | exact ih1 ..
        | exact LeO.refl ..
        | exact LeO.none ..
        | refine LeO.ite ?_ ?_
        | refine LeO.bind ?_ (fun _ => ?_)
theorem Rf_Cost.mono : ∀ a0 a1 a2 k, LeO (Rf_Cost.f k a0 a1 a2) (Rf_Cost.f (k + 1) a0 a1 a2) := by
  intro a0 a1 a2 k; obtain ⟨ih0, ih1⟩ := Rf_Cost.mono_l k; unfold Rf_Cost.f
  repeat' with_reducible first
    | exact ih0 ..
    | exact ih1 ..
    | exact LeO.refl ..
    | exact LeO.none ..
    | refine LeO.ite ?_ ?_
    | refine LeO.bind ?_ (fun _ => ?_)
def Rf_Cost.T9 : Bool × List (List Nat × List Nat) := (true, [([], []), ([], []), ([], []), ([1, 2], [1, 2]), ([3], [3]), ([], []), ([], []), ([5, 6], [5, 6]), ([7], [7]), ([4, 8], [4, 8]), ([9], [9]), ([0, 10], [0, 10]), ([11, 10, 0, 1, 2, 3, 4, 5, 6, 7, 8, 9, 10, 11], [0, 11])])
def Rf_Cost.B9 : List Nat := [0, 0, 0, 6, 14, 0, 0, 96, 224, 510, 1022, 2047, 4095]
theorem Rf_Cost.tab9 : rtab .any (opsOf Try.f37 9) = Rf_Cost.T9 := by kernel_rfl
theorem Rf_Cost.bits9 : waitsOk Rf_Cost.T9.2 Rf_Cost.B9 = true := by kernel_rfl
theorem Rf_Cost.calls (k : Nat) (A0 : Option Addr) (c0 : Nat) (l0 : List Int) (a1 : Int) (a2 : Int) (r : Int) (w : World) (hr0 : Kd.C (Kd.int .i64) w A0 l0.length l0) (hc0 : l0.length ≤ c0) (H : Rf_Cost.f k l0 a1 a2 = some r) :
    Calls Try.prog 37 #[.slice A0 l0.length c0, .int .i64 a1, .int .i64 a2] w fun e w' => e = .returned (.int .i64 r) ∧ Below w.heap.size w w' := by
  have HR0 := m0 hr0; have HC0 := m0 hc0; clear hr0 hc0; have HB := m0 (Below.refl w.heap.size w); unfold Rf_Cost.f at H; have H' := m0 H; clear H; go_enter Try.func37, Try.ntmps37
  go_wp2
  go_loopg [7, 8] k (fun kq v7 v8 w' => ∃ (x7_1 : Int) (x8_1 : Int), v7 = .int .i64 x7_1 ∧ v8 = .int .i64 x8_1 ∧ Aside0 (Rf_Cost.l0 kq l0 a1 a2 x7_1 x8_1 = some r) ∧ Aside0 (kq ≤ k) ∧ Aside0 (Below w.heap.size w w'))
  case atStart => exact ⟨((-1)), (a1), rz, rz, H', ⟨Nat.le_refl _⟩, ⟨bz⟩⟩
  case round =>
    clear H'; obtain ⟨x7_1, x8_1, rfl, rfl, HA, HK1, HB⟩ := hrel
    cases gk with
    | zero => exact absurd HA.out (by simp [Rf_Cost.l0])
    | succ k1 =>
      have H := HA.out; clear HA; simp only [Rf_Cost.l0] at H
      by_cases c4 : x8_1 ≤ a2
      · rw [if_pos c4] at H; have c4b0 := decide_eq_true c4; clear c4; have H' := m0 H; clear H
        go_wp2
        go_loopg [9, 10] k1 (fun kq v9 v10 w' => ∃ (x9_2 : Int) (x10_2 : Int), v9 = .int .i64 x9_2 ∧ v10 = .int .i64 x10_2 ∧ Aside0 (Rf_Cost.l1 kq l0 a1 a2 x7_1 x8_1 x9_2 x10_2 = some r) ∧ Aside0 (kq ≤ k1) ∧ Aside0 (Below w.heap.size w w'))
        case atStart => exact ⟨(0), (a1), rz, rz, H', ⟨Nat.le_refl _⟩, ⟨bz⟩⟩
        case round =>
          clear H'; obtain ⟨x9_2, x10_2, rfl, rfl, HA, HK2, HB⟩ := hrel
          cases gk with
          | zero => exact absurd HA.out (by simp [Rf_Cost.l1])
          | succ k2 =>
            have H := HA.out; clear HA; simp only [Rf_Cost.l1] at H
            by_cases c5 : x10_2 ≤ a2
            · rw [if_pos c5] at H; have c5b0 := decide_eq_true c5; clear c5
              by_cases c6 : 0 ≤ x10_2
              · rw [if_pos c6] at H; have c6b0 := decide_eq_true c6; clear c6
                by_cases c7 : x10_2 < (l0.length : Int)
                · rw [if_pos c7] at H; have c7b0 := decide_eq_true c7; clear c7
                  by_cases c8 : 0 ≤ x8_1
                  · rw [if_pos c8] at H; have c8b0 := decide_eq_true c8; clear c8
                    by_cases c9 : x8_1 < (l0.length : Int)
                    · rw [if_pos c9] at H; have c9b0 := decide_eq_true c9; clear c9; replace H := oa H; obtain ⟨t646, A10, H⟩ := H; (try dsimp only at H); have H' := m0 H; clear H
                      try go_wp2
                      replace HB := sd HB; have p644 : 0 ≤ (x10_2 : Int) := od; have q644 : x10_2 < (l0.length : Int) := od; obtain ⟨ad644, e644, hx644_0⟩ := Kd.at_int HR0.out x10_2 p644 q644; have hw644_0 := hx644_0
                      cases e644
                      replace hx644_0 := hc HB hx644_0; replace p644 := eq_true p644; replace q644 := eq_true q644; have p645 : 0 ≤ (x8_1 : Int) := od; have q645 : x8_1 < (l0.length : Int) := od; obtain ⟨ad645, e645, hx645_0⟩ := Kd.at_int HR0.out x8_1 p645 q645; have hw645_0 := hx645_0; obtain rfl : ad644 = ad645 := (by injection e645); replace hx645_0 := hc HB hx645_0; replace p645 := eq_true p645; replace q645 := eq_true q645; refine start_ (n := 13) (S := fun w' => w'.cell? (ad644.add (x10_2).toNat) = some (.int .i64 (rd l0 x10_2)) ∧ w'.cell? (ad644.add (x8_1).toNat) = some (.int .i64 (rd l0 x8_1))) (ds := []) _ (by kernel_rfl) rfl rfl ⟨((HB.out.cell (World.block_lt_of_cell? w _ hw644_0)).trans hw644_0), ((HB.out.cell (World.block_lt_of_cell? w _ hw645_0)).trans hw645_0)⟩ (fun hH => ?_); refine with_tabW Rf_Cost.tab9 Rf_Cost.bits9 (fun HT_ HW_ => ?_); generalize wr.drew = w11 at HB hx644_0 hx645_0 hH ⊢; refine pZ 0 (some 23) (bs 13 1) HT_ ?_; refine pZ 1 (some 24) (bs 13 3) HT_ ?_; refine pZ 2 (some 25) (bs 13 7) HT_ ?_; refine pZ 3 (some 26) (bs 13 15) HT_ ?_; refine pZ 5 (some 28) (bs 13 47) HT_ ?_; refine pZ 6 (some 29) (bs 13 111) HT_ ?_; refine pZ 7 (some 30) (bs 13 239) HT_ ?_; refine takeZ 4 (some 27) (bs 13 255) (tw HT_ HW_) hH ?_; refine takeZ 8 (some 31) (bs 13 511) (tw HT_ HW_) hH ?_; refine pZ 9 (some 32) (bs 13 1023) HT_ ?_; refine oneZ 10 (some 33) (bs 13 2047) (o1 HT_) fun K hK => ?_; refine gz Try.func88 #[.int .i64 (wrap64 ((rd l0 x10_2) - (rd l0 x8_1)))] ?_
                      with_reducible refine (Bs_Size.calls (wrap64 ((rd l0 x10_2) - (rd l0 x8_1))) t646 _ A10.out).mono ?_
                      rintro e w12 ⟨rfl, hb⟩; refine ⟨_, rfl, ?_⟩; replace HB := sb HB hb; (try clear hb); refine hK.out _ _ ⟨((HB.out.cell (World.block_lt_of_cell? w _ hw644_0)).trans hw644_0), ((HB.out.cell (World.block_lt_of_cell? w _ hw645_0)).trans hw645_0)⟩ (fun hH => ?_); clear hK K; refine nz 33 ?_; refine pZ 11 (some 34) (bs 13 4095) HT_ ?_; refine pZ 12 (some 9) (bs 13 8191) HT_ ?_; refine done_ (done_of HT_.out (by kernel_rfl)) ?_
                      try go_wp2
                      go_roundg k2
                      case measure => have := HK1.out; have := HK2.out; omega
                      case rel => exact ⟨(wrap64 (x9_2 + t646)), (wrap64 (x10_2 + 1)), rz, rz, H', ⟨by have := HK1.out; have := HK2.out; omega⟩, ⟨bz⟩⟩
                    · rw [if_neg c9] at H; exact absurd H (by simp)
                  · rw [if_neg c8] at H; exact absurd H (by simp)
                · rw [if_neg c7] at H; exact absurd H (by simp)
              · rw [if_neg c6] at H; exact absurd H (by simp)
            · rw [if_neg c5] at H; have c5b0 := decide_eq_false c5; clear c5
              by_cases c13 : x7_1 < 0
              · rw [if_pos c13] at H; have c13b0 := decide_eq_true c13; clear c13; have H' := m0 H; clear H
                go_wp2
                go_roundg k2
                case measure => have := HK1.out; have := HK2.out; omega
                case rel => exact ⟨(x9_2), (wrap64 (x8_1 + 1)), rz, rz, H', ⟨by have := HK1.out; have := HK2.out; omega⟩, ⟨bz⟩⟩
              · rw [if_neg c13] at H; have c13b0 := decide_eq_false c13; clear c13
                by_cases c14 : x9_2 < x7_1
                · rw [if_pos c14] at H; have c14b0 := decide_eq_true c14; clear c14; have H' := m0 H; clear H
                  go_wp2
                  go_roundg k2
                  case measure => have := HK1.out; have := HK2.out; omega
                  case rel => exact ⟨(x9_2), (wrap64 (x8_1 + 1)), rz, rz, H', ⟨by have := HK1.out; have := HK2.out; omega⟩, ⟨bz⟩⟩
                · rw [if_neg c14] at H; have c14b0 := decide_eq_false c14; clear c14; have H' := m0 H; clear H
                  go_wp2
                  go_roundg k2
                  case measure => have := HK1.out; have := HK2.out; omega
                  case rel => exact ⟨(x7_1), (wrap64 (x8_1 + 1)), rz, rz, H', ⟨by have := HK1.out; have := HK2.out; omega⟩, ⟨bz⟩⟩
      · rw [if_neg c4] at H; have c4b0 := decide_eq_false c4; clear c4; obtain rfl := Option.some.inj H
        go_wp2
        go_ret
        exact ez
end
section
def Rf_PenaltyErr.f (a0 : Int) : Option (Int) := (Bs_Within.f a0 0 1000000).bind fun t647 => (if t647 = true then (some 0) else (some 2))
theorem Rf_PenaltyErr.calls (a0 : Int) (r : Int) (w : World) (H : Rf_PenaltyErr.f a0 = some r) :
  Calls Try.prog 38 #[.int .i64 a0] w fun e w' => e = .returned (.int .i64 r) ∧ Drawn0 w w' := by
 unfold Rf_PenaltyErr.f at H; replace H := oa H; obtain ⟨t647, A2, H⟩ := H; (try dsimp only at H)
 by_cases c3 : t647 = true
 ·subst c3; rw [if_pos rfl] at H; obtain rfl := Option.some.inj H; go_enter Try.func38, Try.ntmps38
  go_wp2_with (first | ((with_reducible refine gc 19 rfl ?_); refine gl (some 4) Try.func19 #[.int .i64 a0, .int .i64 0, .int .i64 1000000] ?_; (with_reducible refine (Bs_Within.calls a0 0 1000000 true _ A2.out).mono ?_); rintro e w' ⟨rfl, ⟨nd, rfl⟩⟩; refine ⟨_, rfl, ?_⟩))
  go_ret
  exact ⟨rz, by repeat (first | exact Drawn0.refl _ | apply Drawn0.step)⟩
 ·replace c3 := Bool.eq_false_iff.mpr c3; subst c3; rw [if_neg (show ¬ (false = true) by decide)] at H; obtain rfl := Option.some.inj H; go_enter Try.func38, Try.ntmps38
  go_wp2_with (first | ((with_reducible refine gc 19 rfl ?_); refine gl (some 4) Try.func19 #[.int .i64 a0, .int .i64 0, .int .i64 1000000] ?_; (with_reducible refine (Bs_Within.calls a0 0 1000000 false _ A2.out).mono ?_); rintro e w' ⟨rfl, ⟨nd, rfl⟩⟩; refine ⟨_, rfl, ?_⟩))
  go_ret
  exact ⟨rz, by repeat (first | exact Drawn0.refl _ | apply Drawn0.step)⟩
end
end Go.Proofs.Yteiafijbgjgiaaa.A
