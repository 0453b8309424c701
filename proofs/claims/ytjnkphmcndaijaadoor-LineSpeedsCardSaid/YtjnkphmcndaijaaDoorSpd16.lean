/- Walks of the program's functions (printed, made shorter), each with what it computes. -/
import Derived.Test.YtjnkphmcndaijaaDoorSpd04
import Derived.Test.YtjnkphmcndaijaaDoorSpd13
import Derived.Test.YtjnkphmcndaijaaDoorSpd14
import Derived.Test.YtjnkphmcndaijaaDoorSpd15
import Derived.Test.YtjnkphmcndaijaaDoorSpd03
namespace Go.Proofs.YtjnkphmcndaijaaDoor.A
set_option maxHeartbeats 8000000
set_option maxRecDepth 100000
open Go.RowKit Go.Proofs.YtjnkphmcndaijaaDoorW.PrintWords Go.Proofs.YtjnkphmcndaijaaDoorW.PrintLast Go.Proofs.YtjnkphmcndaijaaDoorW.PrintMore
attribute [local go_sem] max2_int min2_int max_two min_two max_three min_three max_four min_four
set_option linter.unusedVariables false
set_option linter.unusedSimpArgs false
section
def Bs_WideAdd.f (k : Nat) (a0_0 : Int) (l0_1 : List Int) (a1_0 : Int) (l1_1 : List Int) : Option (Int × List Int) := if a0_0 = 0 then (some (a1_0, l1_1)) else (if a1_0 = 0 then (some (a0_0, l0_1)) else (if a0_0 = a1_0 then ((Bs_addDigits.f k l0_1 l1_1).bind fun t512 => ((Bs_wideOf.f k a0_0 t512).bind fun bt515 => (some (bt515.1, bt515.2)))) else ((Bs_cmpDigits.f k l0_1 l1_1).bind fun t519 => (if t519 = 0 then (some (0, ([] : List Int))) else (if t519 > 0 then ((Bs_subDigits.f k l0_1 l1_1).bind fun t520 => ((Bs_wideOf.f k a0_0 t520).bind fun bt523 => (some (bt523.1, bt523.2)))) else ((Bs_subDigits.f k l1_1 l0_1).bind fun t527 => ((Bs_wideOf.f k a1_0 t527).bind fun bt530 => (some (bt530.1, bt530.2)))))))))
theorem Bs_WideAdd.mono : ∀ a0 a1 a2 a3 k, LeO (Bs_WideAdd.f k a0 a1 a2 a3) (Bs_WideAdd.f (k + 1) a0 a1 a2 a3) := by
 intro a0 a1 a2 a3 k
 unfold Bs_WideAdd.f
 repeat' with_reducible first
  | exact Bs_addDigits.mono ..
  | exact Bs_cmpDigits.mono ..
  | exact Bs_subDigits.mono ..
  | exact Bs_wideOf.mono ..
  | exact LeO.refl ..
  | exact LeO.none ..
  | refine LeO.ite ?_ ?_
  | refine LeO.bind ?_ (fun _ => ?_)
def Bs_WideAdd.T6 : Bool × List (List Nat × List Nat) := (true, [([], []), ([0], [0]), ([], []), ([2], [2]), ([], []), ([4], [4]), ([3, 5], [3, 5]), ([1, 6, 6], [1, 6]), ([7, 7, 0, 1, 2, 3, 4, 5, 6, 7], [7])])
def Bs_WideAdd.B6 : List Nat := [0, 1, 0, 4, 0, 16, 60, 127, 255]
theorem Bs_WideAdd.tab6 : rtab .any (opsOf Tryd.f140 6) = Bs_WideAdd.T6 := by kernel_rfl
theorem Bs_WideAdd.bits6 : waitsOk Bs_WideAdd.T6.2 Bs_WideAdd.B6 = true := by kernel_rfl
def Bs_WideAdd.T11 : Bool × List (List Nat × List Nat) := (true, [([], []), ([0], [0]), ([], []), ([2], [2]), ([], []), ([4], [4]), ([3, 5], [3, 5]), ([1, 6, 6], [1, 6]), ([7, 7, 0, 1, 2, 3, 4, 5, 6, 7], [7])])
def Bs_WideAdd.B11 : List Nat := [0, 1, 0, 4, 0, 16, 60, 127, 255]
theorem Bs_WideAdd.tab11 : rtab .any (opsOf Tryd.f140 11) = Bs_WideAdd.T11 := by kernel_rfl
theorem Bs_WideAdd.bits11 : waitsOk Bs_WideAdd.T11.2 Bs_WideAdd.B11 = true := by kernel_rfl
def Bs_WideAdd.T12 : Bool × List (List Nat × List Nat) := (true, [([], []), ([0], [0]), ([], []), ([2], [2]), ([], []), ([4], [4]), ([3, 5], [3, 5]), ([1, 6, 6], [1, 6]), ([7, 7, 0, 1, 2, 3, 4, 5, 6, 7], [7])])
def Bs_WideAdd.B12 : List Nat := [0, 1, 0, 4, 0, 16, 60, 127, 255]
theorem Bs_WideAdd.tab12 : rtab .any (opsOf Tryd.f140 12) = Bs_WideAdd.T12 := by kernel_rfl
theorem Bs_WideAdd.bits12 : waitsOk Bs_WideAdd.T12.2 Bs_WideAdd.B12 = true := by kernel_rfl
theorem Bs_WideAdd.calls (k : Nat) (a0_0 : Int) (P0_1_ : Nat → Prop) (A0_1 : Option Addr) (c0_1 : Nat) (l0_1 : List Int) (a1_0 : Int) (P1_1_ : Nat → Prop) (A1_1 : Option Addr) (c1_1 : Nat) (l1_1 : List Int) (r1 : Int) (r2 : List Int) (w : World) (hs0_1 : Kd.V (Kd.int .i64) 3 w w.heap.size (fun k_ => P0_1_ k_) (.slice A0_1 l0_1.length c0_1) l0_1) (hs1_1 : Kd.V (Kd.int .i64) 3 w w.heap.size (fun k_ => P1_1_ k_) (.slice A1_1 l1_1.length c1_1) l1_1) (h : Bs_WideAdd.f k a0_0 l0_1 a1_0 l1_1 = some (r1, r2)) :
  Calls Tryd.prog 140 #[.agg #[.int .i64 a0_0, .slice A0_1 l0_1.length c0_1], .agg #[.int .i64 a1_0, .slice A1_1 l1_1.length c1_1]] w fun e w' => ∃ v1_ : Value, e = .returned (.agg #[.int .i64 r1, v1_]) ∧ Kd.V (Kd.int .i64) 3 w' w.heap.size (fun k_ => ((P0_1_ k_ ∨ P1_1_ k_) ∨ w.heap.size ≤ k_)) v1_ r2 ∧ Below w.heap.size w w' := by
 have hu135 := Tryd.underlying135
 have HO0_1 := m0 (show Kd.V (Kd.int .i64) 3 w w.heap.size (fun k_ => ((P0_1_ k_ ∨ P1_1_ k_) ∨ w.heap.size ≤ k_)) (.slice A0_1 l0_1.length c0_1) l0_1 from Kd.V_mono hs0_1 (fun k_ hk => .inl (.inl hk)))
 have HO1_1 := m0 (show Kd.V (Kd.int .i64) 3 w w.heap.size (fun k_ => ((P0_1_ k_ ∨ P1_1_ k_) ∨ w.heap.size ≤ k_)) (.slice A1_1 l1_1.length c1_1) l1_1 from Kd.V_mono hs1_1 (fun k_ hk => .inl (.inr hk)))
 have HB := m0 (Below.refl w.heap.size w)
 have H : (if a0_0 = 0 then (some (a1_0, l1_1)) else (if a1_0 = 0 then (some (a0_0, l0_1)) else (if a0_0 = a1_0 then ((Bs_addDigits.f k l0_1 l1_1).bind fun t512 => ((Bs_wideOf.f k a0_0 t512).bind fun bt515 => (some (bt515.1, bt515.2)))) else ((Bs_cmpDigits.f k l0_1 l1_1).bind fun t519 => (if t519 = 0 then (some (0, ([] : List Int))) else (if t519 > 0 then ((Bs_subDigits.f k l0_1 l1_1).bind fun t520 => ((Bs_wideOf.f k a0_0 t520).bind fun bt523 => (some (bt523.1, bt523.2)))) else ((Bs_subDigits.f k l1_1 l0_1).bind fun t527 => ((Bs_wideOf.f k a1_0 t527).bind fun bt530 => (some (bt530.1, bt530.2)))))))))) = some (r1, r2) := h
 clear h
 by_cases c3 : a0_0 = 0
 ·rw [if_pos c3] at H
  have c3b0 := beq_iff_eq.mpr c3
  have c3b1 := bne_eq_false_iff_eq.mpr c3
  clear c3
  simp only [Option.some.injEq, Prod.mk.injEq] at H
  obtain ⟨rfl, rfl⟩ := H
  go_enter Tryd.func140, Tryd.ntmps140
  go_wp2_with (first | ((with_reducible refine gate_dst (N := 2) rfl ?_); refine be 2 135 #[.int .i64 a0_0, .slice A0_1 l0_1.length c0_1] ?_; intro gb509 hg w4 hbox hb; replace HO0_1 := ve HO0_1 hg hb; replace HO1_1 := ve HO1_1 hg hb; have BK509 := m0 hbox; have GE509 := gw w hg; replace HB := sb HB hb; clear hb hbox hg) | ((with_reducible refine gate_dst (N := 3) rfl ?_); refine be 3 135 #[.int .i64 a1_0, .slice A1_1 l1_1.length c1_1] ?_; intro gb510 hg w5 hbox hb; replace HO0_1 := ve HO0_1 hg hb; replace HO1_1 := ve HO1_1 hg hb; have BK510 := m0 hbox; have GE510 := gw w hg; replace HB := sb HB hb; have NB509_510 := nl BK509 hg; have NB510_509 := ng (nl BK509 hg); replace BK509 := bb BK509 hb; clear hb hbox hg) | ((with_reducible refine gate_dst (N := 4) rfl ?_); refine be 4 135 #[.int .i64 0, .slice none 0 0] ?_; intro gb511 hg w6 hbox hb; replace HO0_1 := ve HO0_1 hg hb; replace HO1_1 := ve HO1_1 hg hb; have BK511 := m0 hbox; have GE511 := gw w hg; replace HB := sb HB hb; have NB509_511 := nl BK509 hg; have NB511_509 := ng (nl BK509 hg); replace BK509 := bb BK509 hb; have NB510_511 := nl BK510 hg; have NB511_510 := ng (nl BK510 hg); replace BK510 := bb BK510 hb; clear hb hbox hg; have hnb7 := NB509_510.out; have hnc7 := NB510_509.out; have hnb8 := NB509_511.out; have hnc8 := NB511_509.out; obtain ⟨_, _, _, _⟩ := b2 BK509; have hnb10 := NB510_511.out; have hnc10 := NB511_510.out; obtain ⟨_, _, _, _⟩ := b2 BK510; obtain ⟨_, _, _, _⟩ := b2 BK511))
  refine bodyPost_ret (results_cell_row rfl _ _ gb511 135 #[.int .i64 a1_0, .slice A1_1 l1_1.length c1_1] (0, 0) _ rfl (bq BK511.out) Tryd.underlying135 rfl (by kernel_rfl)) rfl ?_
  exact ⟨_, by first | rfl | (simp [errW_none, errW_some] <;> rfl) | (simp [*, errW_none, errW_some] <;> rfl), by (with_reducible repeat (first | apply Kd.V_alloc | apply Kd.V_drewN | apply Kd.V_drew)); exact Kd.V_mono (Kd.V_far (p := ⟨gb511, 1, none⟩) (Kd.V_far (p := ⟨gb511, 0, none⟩) (Kd.V_mono HO1_1.out (fun k_ hk => (⟨hk, hk.2⟩ : _ ∧ k_ ≠ gb511))) (fun _ hk => hk.2) (.int .i64 a1_0)) (fun _ hk => hk.2) (.slice A1_1 l1_1.length c1_1)) (fun _ hk => hk.1.1.1.1), by repeat (first | (with_reducible first | exact HB.out | apply below_alloc | apply pw_below_drewN | apply below_drew1 | refine below_set ?_ GE509.out | refine below_set ?_ GE510.out | refine below_set ?_ GE511.out) | exact HB.out)⟩
 ·rw [if_neg c3] at H
  have c3b0 := beq_eq_false_iff_ne.mpr c3
  have c3b1 := bne_iff_ne.mpr c3
  by_cases c13 : a1_0 = 0
  ·rw [if_pos c13] at H
   have c13b0 := beq_iff_eq.mpr c13
   have c13b1 := bne_eq_false_iff_eq.mpr c13
   clear c13
   simp only [Option.some.injEq, Prod.mk.injEq] at H
   obtain ⟨rfl, rfl⟩ := H
   go_enter Tryd.func140, Tryd.ntmps140
   go_wp2_with (first | ((with_reducible refine gate_dst (N := 2) rfl ?_); refine be 2 135 #[.int .i64 a0_0, .slice A0_1 l0_1.length c0_1] ?_; intro gb509 hg w14 hbox hb; replace HO0_1 := ve HO0_1 hg hb; replace HO1_1 := ve HO1_1 hg hb; have BK509 := m0 hbox; have GE509 := gw w hg; replace HB := sb HB hb; clear hb hbox hg) | ((with_reducible refine gate_dst (N := 3) rfl ?_); refine be 3 135 #[.int .i64 a1_0, .slice A1_1 l1_1.length c1_1] ?_; intro gb510 hg w15 hbox hb; replace HO0_1 := ve HO0_1 hg hb; replace HO1_1 := ve HO1_1 hg hb; have BK510 := m0 hbox; have GE510 := gw w hg; replace HB := sb HB hb; have NB509_510 := nl BK509 hg; have NB510_509 := ng (nl BK509 hg); replace BK509 := bb BK509 hb; clear hb hbox hg) | ((with_reducible refine gate_dst (N := 4) rfl ?_); refine be 4 135 #[.int .i64 0, .slice none 0 0] ?_; intro gb511 hg w16 hbox hb; replace HO0_1 := ve HO0_1 hg hb; replace HO1_1 := ve HO1_1 hg hb; have BK511 := m0 hbox; have GE511 := gw w hg; replace HB := sb HB hb; have NB509_511 := nl BK509 hg; have NB511_509 := ng (nl BK509 hg); replace BK509 := bb BK509 hb; have NB510_511 := nl BK510 hg; have NB511_510 := ng (nl BK510 hg); replace BK510 := bb BK510 hb; clear hb hbox hg; have hnb17 := NB509_510.out; have hnc17 := NB510_509.out; have hnb18 := NB509_511.out; have hnc18 := NB511_509.out; obtain ⟨_, _, _, _⟩ := b2 BK509; have hnb20 := NB510_511.out; have hnc20 := NB511_510.out; obtain ⟨_, _, _, _⟩ := b2 BK510; obtain ⟨_, _, _, _⟩ := b2 BK511))
   refine bodyPost_ret (results_cell_row rfl _ _ gb511 135 #[.int .i64 a0_0, .slice A0_1 l0_1.length c0_1] (0, 0) _ rfl (bq BK511.out) Tryd.underlying135 rfl (by kernel_rfl)) rfl ?_
   exact ⟨_, by first | rfl | (simp [errW_none, errW_some] <;> rfl) | (simp [*, errW_none, errW_some] <;> rfl), by (with_reducible repeat (first | apply Kd.V_alloc | apply Kd.V_drewN | apply Kd.V_drew)); exact Kd.V_mono (Kd.V_far (p := ⟨gb511, 1, none⟩) (Kd.V_far (p := ⟨gb511, 0, none⟩) (Kd.V_mono HO0_1.out (fun k_ hk => (⟨hk, hk.2⟩ : _ ∧ k_ ≠ gb511))) (fun _ hk => hk.2) (.int .i64 a0_0)) (fun _ hk => hk.2) (.slice A0_1 l0_1.length c0_1)) (fun _ hk => hk.1.1.1.1), by repeat (first | (with_reducible first | exact HB.out | apply below_alloc | apply pw_below_drewN | apply below_drew1 | refine below_set ?_ GE509.out | refine below_set ?_ GE510.out | refine below_set ?_ GE511.out) | exact HB.out)⟩
  ·rw [if_neg c13] at H
   have c13b0 := beq_eq_false_iff_ne.mpr c13
   have c13b1 := bne_iff_ne.mpr c13
   by_cases c23 : a0_0 = a1_0
   ·rw [if_pos c23] at H
    have c23b0 := beq_iff_eq.mpr c23
    have c23b1 := bne_eq_false_iff_eq.mpr c23
    clear c23
    replace H := ob H
    obtain ⟨t512, A24, H⟩ := H
    (try dsimp only at H)
    replace A24 := m0 A24
    replace H := ob H
    obtain ⟨⟨t515, t516⟩, A25, H⟩ := H
    (try dsimp only at H)
    replace A25 := m0 A25
    simp only [Option.some.injEq, Prod.mk.injEq] at H
    obtain ⟨rfl, rfl⟩ := H
    go_enter Tryd.func140, Tryd.ntmps140
    try go_wp2_with (first | ((with_reducible refine gate_dst (N := 2) rfl ?_); refine be 2 135 #[.int .i64 a0_0, .slice A0_1 l0_1.length c0_1] ?_; intro gb509 hg w26 hbox hb; replace HO0_1 := ve HO0_1 hg hb; replace HO1_1 := ve HO1_1 hg hb; have BK509 := m0 hbox; have GE509 := gw w hg; replace HB := sb HB hb; clear hb hbox hg) | ((with_reducible refine gate_dst (N := 3) rfl ?_); refine be 3 135 #[.int .i64 a1_0, .slice A1_1 l1_1.length c1_1] ?_; intro gb510 hg w27 hbox hb; replace HO0_1 := ve HO0_1 hg hb; replace HO1_1 := ve HO1_1 hg hb; have BK510 := m0 hbox; have GE510 := gw w hg; replace HB := sb HB hb; have NB509_510 := nl BK509 hg; have NB510_509 := ng (nl BK509 hg); replace BK509 := bb BK509 hb; clear hb hbox hg) | ((with_reducible refine gate_dst (N := 4) rfl ?_); refine be 4 135 #[.int .i64 0, .slice none 0 0] ?_; intro gb511 hg w28 hbox hb; replace HO0_1 := ve HO0_1 hg hb; replace HO1_1 := ve HO1_1 hg hb; have BK511 := m0 hbox; have GE511 := gw w hg; replace HB := sb HB hb; have NB509_511 := nl BK509 hg; have NB511_509 := ng (nl BK509 hg); replace BK509 := bb BK509 hb; have NB510_511 := nl BK510 hg; have NB511_510 := ng (nl BK510 hg); replace BK510 := bb BK510 hb; clear hb hbox hg; have hnb29 := NB509_510.out; have hnc29 := NB510_509.out; have hnb30 := NB509_511.out; have hnc30 := NB511_509.out; obtain ⟨_, _, _, _⟩ := b2 BK509; have hnb32 := NB510_511.out; have hnc32 := NB511_510.out; obtain ⟨_, _, _, _⟩ := b2 BK510))
    replace HO0_1 := m0 (Kd.V_drew HO0_1.out); replace HO1_1 := m0 (Kd.V_drew HO1_1.out); replace BK509 := bd BK509; replace BK510 := bd BK510; replace BK511 := bd BK511; replace HB := sd HB
    refine start_ (n := 9) (S := fun w' => w'.cell? ⟨gb509, 0, none⟩ = some (.int .i64 a0_0) ∧ w'.cell? ⟨gb509, 1, none⟩ = some (.slice A0_1 l0_1.length c0_1) ∧ w'.cell? ⟨gb510, 0, none⟩ = some (.int .i64 a1_0) ∧ w'.cell? ⟨gb510, 1, none⟩ = some (.slice A1_1 l1_1.length c1_1)) (ds := []) #[false, false, false, false, false, false, false, false, false] (by kernel_rfl) rfl rfl cz (fun hH => ?_); refine with_tabW Bs_WideAdd.tab6 Bs_WideAdd.bits6 (fun HT_ HW_ => ?_)
    generalize w28.drew = w34 at HO0_1 HO1_1 BK509 BK510 BK511 HB hH ⊢
    refine pZ 0 (some 19) #[true, false, false, false, false, false, false, false, false] HT_ ?_
    refine pZ 2 (some 21) #[true, false, true, false, false, false, false, false, false] HT_ ?_
    refine pZ 4 (some 23) #[true, false, true, false, true, false, false, false, false] HT_ ?_
    refine takeZ 1 (some 20) #[true, true, true, false, true, false, false, false, false] (take_ofW HT_.out HW_.out (by kernel_rfl)) hH ?_
    refine takeZ 3 (some 22) #[true, true, true, true, true, false, false, false, false] (take_ofW HT_.out HW_.out (by kernel_rfl)) hH ?_
    refine takeZ 5 (some 24) #[true, true, true, true, true, true, false, false, false] (take_ofW HT_.out HW_.out (by kernel_rfl)) hH ?_
    refine oneZ 6 (some 25) #[true, true, true, true, true, true, true, false, false] (one_of HT_.out (by kernel_rfl)) fun K hK => ?_
    refine gz Tryd.func151 #[.slice A0_1 l0_1.length c0_1, .slice A1_1 l1_1.length c1_1] ?_
    with_reducible refine (Bs_addDigits.calls k _ _ l0_1 _ _ l1_1 t512 _ ?side1 ?side2 ?side3 ?side4 A24.out).mono ?_
    (case side1 => exact bc (Kd.V_reads' HO0_1.out).2.2)
    (case side2 => exact (Kd.V_reads' HO0_1.out).2.1)
    (case side3 => exact bc (Kd.V_reads' HO1_1.out).2.2)
    (case side4 => exact (Kd.V_reads' HO1_1.out).2.1)
    rintro e w35 ⟨v513, rfl, ho0, hb⟩
    refine ⟨_, rfl, ?_⟩
    replace HO0_1 := m0 (Kd.V_elder' (by (with_reducible repeat (first | apply Kd.V_alloc | apply Kd.V_drewN | apply Kd.V_drew)); exact HO0_1.out) (Kd.R_base ho0) hb); replace HO1_1 := m0 (Kd.V_elder' (by (with_reducible repeat (first | apply Kd.V_alloc | apply Kd.V_drewN | apply Kd.V_drew)); exact HO1_1.out) (Kd.R_base ho0) hb); have HO514 := m0 (Kd.R_lower (Kd.R_newM (M := fun k_ => (w.heap.size ≤ k_)) ho0 (below_size bz) (fun k_ h_ => h_)) (below_size bz)); replace BK509 := bb BK509 hb; replace BK510 := bb BK510 hb; replace BK511 := bb BK511 hb; replace HB := sb HB hb
    (try clear hb)
    (try clear ho0)
    obtain ⟨Ao36, co36, eo36⟩ := Kd.R_slice HO514.out
    subst eo36
    refine hK.out _ _ cz (fun hH => ?_)
    clear hK K
    refine norm_ (a' := ?_) ?_ ?_
    rotate_left
    ·show Act.put _ (some 25) _ = _
     exact pz
    refine oneZ 7 (some 26) #[true, true, true, true, true, true, true, true, false] (one_of HT_.out (by kernel_rfl)) fun K hK => ?_
    refine gz Tryd.func150 #[.int .i64 a0_0, .slice Ao36 t512.length co36] ?_
    with_reducible refine (Bs_wideOf.calls k a0_0 (fun k_ => some k_ = (.slice Ao36 t512.length co36 : Value).ownBlock) _ _ t512 t515 t516 _ ?side1 A25.out).mono ?_
    (case side1 => exact Kd.R_V (Kd.R_tight rfl (Kd.R_types (Kd.R_types (Kd.R_types (HO514.out) BK509.out (by decide)) BK510.out (by decide)) BK511.out (by decide))))
    rintro e w37 ⟨v517, rfl, ho0, hb⟩
    refine ⟨_, rfl, ?_⟩
    replace HO0_1 := vb HO0_1 hb; replace HO1_1 := vb HO1_1 hb; have HO518 := m0 (Kd.V_lower (Kd.V_mono (ok' := fun k_ => ((P0_1_ k_ ∨ P1_1_ k_) ∨ w.heap.size ≤ k_) ∧ k_ ≠ gb509 ∧ k_ ≠ gb510 ∧ k_ ≠ gb511) ho0 (fun k_ hk_ => ⟨Or.elim hk_ (fun hs_ => (.inr (((Kd.R_types (Kd.R_types (Kd.R_types (HO514.out) BK509.out (by decide)) BK510.out (by decide)) BK511.out (by decide)).1 k_ hs_.symm).1.1.1.1))) (fun hn_ => (.inr (Nat.le_trans (below_size bz) hn_))), Or.elim hk_ (fun hs_ => ((Kd.R_types (Kd.R_types (Kd.R_types (HO514.out) BK509.out (by decide)) BK510.out (by decide)) BK511.out (by decide)).1 k_ hs_.symm).1.1.2) (fun hn_ => (Kd.freshB (g := gb509) (o := .cells #[.int .i64 a0_0, .slice A0_1 l0_1.length c0_1] 135 (0, 0)) (bk BK509.out) k_ hn_)), Or.elim hk_ (fun hs_ => ((Kd.R_types (Kd.R_types (Kd.R_types (HO514.out) BK509.out (by decide)) BK510.out (by decide)) BK511.out (by decide)).1 k_ hs_.symm).1.2) (fun hn_ => (Kd.freshB (g := gb510) (o := .cells #[.int .i64 a1_0, .slice A1_1 l1_1.length c1_1] 135 (0, 0)) (bk BK510.out) k_ hn_)), Or.elim hk_ (fun hs_ => ((Kd.R_types (Kd.R_types (Kd.R_types (HO514.out) BK509.out (by decide)) BK510.out (by decide)) BK511.out (by decide)).1 k_ hs_.symm).2) (fun hn_ => (Kd.freshB (g := gb511) (o := .cells #[.int .i64 0, .slice none 0 0] 135 (0, 0)) (bk BK511.out) k_ hn_))⟩)) (below_size bz)); replace HO514 := rb HO514 hb; replace BK509 := bb BK509 hb; replace BK510 := bb BK510 hb; replace BK511 := bb BK511 hb; replace HB := sb HB hb
    (try clear hb)
    (try clear ho0)
    obtain ⟨Ao39, co39, eo39⟩ := Kd.V_slice HO518.out
    subst eo39
    refine hK.out _ _ cz (fun hH => ?_)
    clear hK K
    refine norm_ (a' := ?_) ?_ ?_
    rotate_left
    ·show Act.put _ (some 26) _ = _
     exact pz
    refine oneZ 8 (none) #[true, true, true, true, true, true, true, true, true] (one_of HT_.out (by kernel_rfl)) fun K hK => ?_
    have hs38 : w37.cell? ⟨gb511, 0, none⟩ = some (.int .i64 0) := (blk_cell BK511.out 0).trans rfl
    have hfs38 := blk_frozen BK511.out 0
    have hs40 : w37.cell? ⟨gb511, 1, none⟩ = some (.slice none 0 0) := (blk_cell BK511.out 1).trans rfl
    have hfs40 := blk_frozen BK511.out 1
    refine skip_ (w1 := ?_) (by rfl) rfl ?_ ?_
    rotate_left
    ·go_simp
     rfl
    refine hK.out _ _ (cf hH) (fun hH => ?_)
    clear hK K
    refine done_ (done_of HT_.out (by kernel_rfl)) ?_
    try go_wp2
    refine bodyPost_ret (results_cell_row rfl _ _ gb511 135 #[.int .i64 t515, .slice Ao39 t516.length co39] (0, 0) _ rfl (bq BK511.out) Tryd.underlying135 rfl (by kernel_rfl)) rfl ?_
    exact ⟨_, by first | rfl | (simp [errW_none, errW_some] <;> rfl) | (simp [*, errW_none, errW_some] <;> rfl), by (with_reducible repeat (first | apply Kd.V_alloc | apply Kd.V_drewN | apply Kd.V_drew)); exact Kd.V_mono (Kd.V_far (p := ⟨gb511, 1, none⟩) (Kd.V_far (p := ⟨gb511, 0, none⟩) (Kd.V_mono HO518.out (fun k_ hk => (⟨hk, hk.2.2.2⟩ : _ ∧ k_ ≠ gb511))) (fun _ hk => hk.2) (.int .i64 t515)) (fun _ hk => hk.2) (.slice Ao39 t516.length co39)) (fun _ hk => hk.1.1), by repeat (first | (with_reducible first | exact HB.out | apply below_alloc | apply pw_below_drewN | apply below_drew1 | refine below_set ?_ GE509.out | refine below_set ?_ GE510.out | refine below_set ?_ GE511.out) | exact HB.out)⟩
   ·rw [if_neg c23] at H
    have c23b0 := beq_eq_false_iff_ne.mpr c23
    have c23b1 := bne_iff_ne.mpr c23
    replace H := ob H
    obtain ⟨t519, A41, H⟩ := H
    (try dsimp only at H)
    replace A41 := m0 A41
    by_cases c42 : t519 = 0
    ·rw [if_pos c42] at H
     have c42b0 := beq_iff_eq.mpr c42
     have c42b1 := bne_eq_false_iff_eq.mpr c42
     clear c42
     simp only [Option.some.injEq, Prod.mk.injEq] at H
     obtain ⟨rfl, rfl⟩ := H
     go_enter Tryd.func140, Tryd.ntmps140
     go_wp2_with (first | ((with_reducible refine gate_dst (N := 2) rfl ?_); refine be 2 135 #[.int .i64 a0_0, .slice A0_1 l0_1.length c0_1] ?_; intro gb509 hg w43 hbox hb; replace HO0_1 := ve HO0_1 hg hb; replace HO1_1 := ve HO1_1 hg hb; have BK509 := m0 hbox; have GE509 := gw w hg; replace HB := sb HB hb; clear hb hbox hg) | ((with_reducible refine gate_dst (N := 3) rfl ?_); refine be 3 135 #[.int .i64 a1_0, .slice A1_1 l1_1.length c1_1] ?_; intro gb510 hg w44 hbox hb; replace HO0_1 := ve HO0_1 hg hb; replace HO1_1 := ve HO1_1 hg hb; have BK510 := m0 hbox; have GE510 := gw w hg; replace HB := sb HB hb; have NB509_510 := nl BK509 hg; have NB510_509 := ng (nl BK509 hg); replace BK509 := bb BK509 hb; clear hb hbox hg) | ((with_reducible refine gate_dst (N := 4) rfl ?_); refine be 4 135 #[.int .i64 0, .slice none 0 0] ?_; intro gb511 hg w45 hbox hb; replace HO0_1 := ve HO0_1 hg hb; replace HO1_1 := ve HO1_1 hg hb; have BK511 := m0 hbox; have GE511 := gw w hg; replace HB := sb HB hb; have NB509_511 := nl BK509 hg; have NB511_509 := ng (nl BK509 hg); replace BK509 := bb BK509 hb; have NB510_511 := nl BK510 hg; have NB511_510 := ng (nl BK510 hg); replace BK510 := bb BK510 hb; clear hb hbox hg; have hnb46 := NB509_510.out; have hnc46 := NB510_509.out; have hnb47 := NB509_511.out; have hnc47 := NB511_509.out; obtain ⟨_, _, _, _⟩ := b2 BK509; have hnb49 := NB510_511.out; have hnc49 := NB511_510.out; obtain ⟨_, _, _, _⟩ := b2 BK510) | ((with_reducible refine gate_callee (f := 152) rfl ?_); refine gl (some 31) Tryd.func152 #[.slice A0_1 l0_1.length c0_1, .slice A1_1 l1_1.length c1_1] ?_; (with_reducible refine (Bs_cmpDigits.calls k _ _ l0_1 _ _ l1_1 t519 _ ?side1 ?side2 ?side3 ?side4 A41.out).mono ?_); (case side1 => exact bc (Kd.V_reads' HO0_1.out).2.2); (case side2 => exact (Kd.V_reads' HO0_1.out).2.1); (case side3 => exact bc (Kd.V_reads' HO1_1.out).2.2); (case side4 => exact (Kd.V_reads' HO1_1.out).2.1); rintro e w' ⟨rfl, ⟨nd, rfl⟩⟩; refine ⟨_, rfl, ?_⟩; (try (rw [drewN_self w45]; generalize hq_ : World.drewN w45 _ = w45; have n0_ : Aside0 (Kd.V (Kd.int .i64) 3 w45 w.heap.size (fun k_ => ((P0_1_ k_ ∨ P1_1_ k_) ∨ w.heap.size ≤ k_) ∧ k_ ≠ gb509 ∧ k_ ≠ gb510 ∧ k_ ≠ gb511) (.slice A0_1 l0_1.length c0_1) l0_1) := ⟨by rw [← hq_]; exact (by (with_reducible repeat (first | apply Kd.V_alloc | apply Kd.V_drewN | apply Kd.V_drew)); exact Kd.V_mono HO0_1.out (fun _ hk => ⟨hk.1.1.1, ⟨hk.1.1.2, ⟨hk.1.2, hk.2⟩⟩⟩))⟩; have n1_ : Aside0 (Kd.V (Kd.int .i64) 3 w45 w.heap.size (fun k_ => ((P0_1_ k_ ∨ P1_1_ k_) ∨ w.heap.size ≤ k_) ∧ k_ ≠ gb509 ∧ k_ ≠ gb510 ∧ k_ ≠ gb511) (.slice A1_1 l1_1.length c1_1) l1_1) := ⟨by rw [← hq_]; exact (by (with_reducible repeat (first | apply Kd.V_alloc | apply Kd.V_drewN | apply Kd.V_drew)); exact Kd.V_mono HO1_1.out (fun _ hk => ⟨hk.1.1.1, ⟨hk.1.1.2, ⟨hk.1.2, hk.2⟩⟩⟩))⟩; have n2_ := gd BK509 hq_; have n3_ := gd BK510 hq_; have n4_ := gd BK511 hq_; have n5_ := gs HB hq_; clear HO0_1 HO1_1 BK509 BK510 BK511 HB hq_; have HO0_1 := n0_; have HO1_1 := n1_; have BK509 := n2_; have BK510 := n3_; have BK511 := n4_; have HB := n5_; clear n0_ n1_ n2_ n3_ n4_ n5_)); obtain ⟨_, _, _, _⟩ := b2 BK511))
     refine bodyPost_ret (results_cell_row rfl _ _ gb511 135 #[.int .i64 0, .slice none 0 0] (0, 0) _ rfl (bq BK511.out) Tryd.underlying135 rfl (by kernel_rfl)) rfl ?_
     exact ⟨_, by first | rfl | (simp [errW_none, errW_some] <;> rfl) | (simp [*, errW_none, errW_some] <;> rfl), Kd.V_nil _ _ _ _ _, by repeat (first | (with_reducible first | exact HB.out | apply below_alloc | apply pw_below_drewN | apply below_drew1 | refine below_set ?_ GE509.out | refine below_set ?_ GE510.out | refine below_set ?_ GE511.out) | exact HB.out)⟩
    ·rw [if_neg c42] at H
     have c42b0 := beq_eq_false_iff_ne.mpr c42
     have c42b1 := bne_iff_ne.mpr c42
     by_cases c52 : t519 > 0
     ·rw [if_pos c52] at H
      have c52b0 := decide_eq_true c52
      clear c52
      replace H := ob H
      obtain ⟨t520, A53, H⟩ := H
      (try dsimp only at H)
      replace A53 := m0 A53
      replace H := ob H
      obtain ⟨⟨t523, t524⟩, A54, H⟩ := H
      (try dsimp only at H)
      replace A54 := m0 A54
      simp only [Option.some.injEq, Prod.mk.injEq] at H
      obtain ⟨rfl, rfl⟩ := H
      go_enter Tryd.func140, Tryd.ntmps140
      try go_wp2_with (first | ((with_reducible refine gate_dst (N := 2) rfl ?_); refine be 2 135 #[.int .i64 a0_0, .slice A0_1 l0_1.length c0_1] ?_; intro gb509 hg w55 hbox hb; replace HO0_1 := ve HO0_1 hg hb; replace HO1_1 := ve HO1_1 hg hb; have BK509 := m0 hbox; have GE509 := gw w hg; replace HB := sb HB hb; clear hb hbox hg) | ((with_reducible refine gate_dst (N := 3) rfl ?_); refine be 3 135 #[.int .i64 a1_0, .slice A1_1 l1_1.length c1_1] ?_; intro gb510 hg w56 hbox hb; replace HO0_1 := ve HO0_1 hg hb; replace HO1_1 := ve HO1_1 hg hb; have BK510 := m0 hbox; have GE510 := gw w hg; replace HB := sb HB hb; have NB509_510 := nl BK509 hg; have NB510_509 := ng (nl BK509 hg); replace BK509 := bb BK509 hb; clear hb hbox hg) | ((with_reducible refine gate_dst (N := 4) rfl ?_); refine be 4 135 #[.int .i64 0, .slice none 0 0] ?_; intro gb511 hg w57 hbox hb; replace HO0_1 := ve HO0_1 hg hb; replace HO1_1 := ve HO1_1 hg hb; have BK511 := m0 hbox; have GE511 := gw w hg; replace HB := sb HB hb; have NB509_511 := nl BK509 hg; have NB511_509 := ng (nl BK509 hg); replace BK509 := bb BK509 hb; have NB510_511 := nl BK510 hg; have NB511_510 := ng (nl BK510 hg); replace BK510 := bb BK510 hb; clear hb hbox hg; have hnb58 := NB509_510.out; have hnc58 := NB510_509.out; have hnb59 := NB509_511.out; have hnc59 := NB511_509.out; obtain ⟨_, _, _, _⟩ := b2 BK509; have hnb61 := NB510_511.out; have hnc61 := NB511_510.out; obtain ⟨_, _, _, _⟩ := b2 BK510) | ((with_reducible refine gate_callee (f := 152) rfl ?_); refine gl (some 31) Tryd.func152 #[.slice A0_1 l0_1.length c0_1, .slice A1_1 l1_1.length c1_1] ?_; (with_reducible refine (Bs_cmpDigits.calls k _ _ l0_1 _ _ l1_1 t519 _ ?side1 ?side2 ?side3 ?side4 A41.out).mono ?_); (case side1 => exact bc (Kd.V_reads' HO0_1.out).2.2); (case side2 => exact (Kd.V_reads' HO0_1.out).2.1); (case side3 => exact bc (Kd.V_reads' HO1_1.out).2.2); (case side4 => exact (Kd.V_reads' HO1_1.out).2.1); rintro e w' ⟨rfl, ⟨nd, rfl⟩⟩; refine ⟨_, rfl, ?_⟩; (try (rw [drewN_self w57]; generalize hq_ : World.drewN w57 _ = w57; have n0_ : Aside0 (Kd.V (Kd.int .i64) 3 w57 w.heap.size (fun k_ => ((P0_1_ k_ ∨ P1_1_ k_) ∨ w.heap.size ≤ k_) ∧ k_ ≠ gb509 ∧ k_ ≠ gb510 ∧ k_ ≠ gb511) (.slice A0_1 l0_1.length c0_1) l0_1) := ⟨by rw [← hq_]; exact (by (with_reducible repeat (first | apply Kd.V_alloc | apply Kd.V_drewN | apply Kd.V_drew)); exact Kd.V_mono HO0_1.out (fun _ hk => ⟨hk.1.1.1, ⟨hk.1.1.2, ⟨hk.1.2, hk.2⟩⟩⟩))⟩; have n1_ : Aside0 (Kd.V (Kd.int .i64) 3 w57 w.heap.size (fun k_ => ((P0_1_ k_ ∨ P1_1_ k_) ∨ w.heap.size ≤ k_) ∧ k_ ≠ gb509 ∧ k_ ≠ gb510 ∧ k_ ≠ gb511) (.slice A1_1 l1_1.length c1_1) l1_1) := ⟨by rw [← hq_]; exact (by (with_reducible repeat (first | apply Kd.V_alloc | apply Kd.V_drewN | apply Kd.V_drew)); exact Kd.V_mono HO1_1.out (fun _ hk => ⟨hk.1.1.1, ⟨hk.1.1.2, ⟨hk.1.2, hk.2⟩⟩⟩))⟩; have n2_ := gd BK509 hq_; have n3_ := gd BK510 hq_; have n4_ := gd BK511 hq_; have n5_ := gs HB hq_; clear HO0_1 HO1_1 BK509 BK510 BK511 HB hq_; have HO0_1 := n0_; have HO1_1 := n1_; have BK509 := n2_; have BK510 := n3_; have BK511 := n4_; have HB := n5_; clear n0_ n1_ n2_ n3_ n4_ n5_))))
      replace HO0_1 := m0 (Kd.V_drew HO0_1.out); replace HO1_1 := m0 (Kd.V_drew HO1_1.out); replace BK509 := bd BK509; replace BK510 := bd BK510; replace BK511 := bd BK511; replace HB := sd HB
      refine start_ (n := 9) (S := fun w' => w'.cell? ⟨gb509, 0, none⟩ = some (.int .i64 a0_0) ∧ w'.cell? ⟨gb509, 1, none⟩ = some (.slice A0_1 l0_1.length c0_1) ∧ w'.cell? ⟨gb510, 0, none⟩ = some (.int .i64 a1_0) ∧ w'.cell? ⟨gb510, 1, none⟩ = some (.slice A1_1 l1_1.length c1_1)) (ds := []) #[false, false, false, false, false, false, false, false, false] (by kernel_rfl) rfl rfl cz (fun hH => ?_); refine with_tabW Bs_WideAdd.tab11 Bs_WideAdd.bits11 (fun HT_ HW_ => ?_)
      generalize w57.drew = w63 at HO0_1 HO1_1 BK509 BK510 BK511 HB hH ⊢
      refine pZ 0 (some 37) #[true, false, false, false, false, false, false, false, false] HT_ ?_
      refine pZ 2 (some 39) #[true, false, true, false, false, false, false, false, false] HT_ ?_
      refine pZ 4 (some 41) #[true, false, true, false, true, false, false, false, false] HT_ ?_
      refine takeZ 1 (some 38) #[true, true, true, false, true, false, false, false, false] (take_ofW HT_.out HW_.out (by kernel_rfl)) hH ?_
      refine takeZ 3 (some 40) #[true, true, true, true, true, false, false, false, false] (take_ofW HT_.out HW_.out (by kernel_rfl)) hH ?_
      refine takeZ 5 (some 42) #[true, true, true, true, true, true, false, false, false] (take_ofW HT_.out HW_.out (by kernel_rfl)) hH ?_
      refine oneZ 6 (some 43) #[true, true, true, true, true, true, true, false, false] (one_of HT_.out (by kernel_rfl)) fun K hK => ?_
      refine gz Tryd.func153 #[.slice A0_1 l0_1.length c0_1, .slice A1_1 l1_1.length c1_1] ?_
      with_reducible refine (Bs_subDigits.calls k _ _ l0_1 _ _ l1_1 t520 _ ?side1 ?side2 ?side3 ?side4 A53.out).mono ?_
      (case side1 => exact bc (Kd.V_reads' HO0_1.out).2.2)
      (case side2 => exact (Kd.V_reads' HO0_1.out).2.1)
      (case side3 => exact bc (Kd.V_reads' HO1_1.out).2.2)
      (case side4 => exact (Kd.V_reads' HO1_1.out).2.1)
      rintro e w64 ⟨v521, rfl, ho0, hb⟩
      refine ⟨_, rfl, ?_⟩
      replace HO0_1 := vb HO0_1 hb; replace HO1_1 := vb HO1_1 hb; have HO522 := m0 (Kd.V_lower (Kd.V_mono (ok' := fun k_ => ((P0_1_ k_ ∨ P1_1_ k_) ∨ w.heap.size ≤ k_) ∧ k_ ≠ gb509 ∧ k_ ≠ gb510 ∧ k_ ≠ gb511) ho0 (fun k_ hk_ => ⟨(.inr (Nat.le_trans (below_size bz) hk_)), (Kd.freshB (g := gb509) (o := .cells #[.int .i64 a0_0, .slice A0_1 l0_1.length c0_1] 135 (0, 0)) (bk BK509.out) k_ hk_), (Kd.freshB (g := gb510) (o := .cells #[.int .i64 a1_0, .slice A1_1 l1_1.length c1_1] 135 (0, 0)) (bk BK510.out) k_ hk_), (Kd.freshB (g := gb511) (o := .cells #[.int .i64 0, .slice none 0 0] 135 (0, 0)) (bk BK511.out) k_ hk_)⟩)) (below_size bz)); replace BK509 := bb BK509 hb; replace BK510 := bb BK510 hb; replace BK511 := bb BK511 hb; replace HB := sb HB hb
      (try clear hb)
      (try clear ho0)
      obtain ⟨Ao65, co65, eo65⟩ := Kd.V_slice HO522.out
      subst eo65
      refine hK.out _ _ cz (fun hH => ?_)
      clear hK K
      refine norm_ (a' := ?_) ?_ ?_
      rotate_left
      ·show Act.put _ (some 43) _ = _
       exact pz
      refine oneZ 7 (some 44) #[true, true, true, true, true, true, true, true, false] (one_of HT_.out (by kernel_rfl)) fun K hK => ?_
      refine gz Tryd.func150 #[.int .i64 a0_0, .slice Ao65 t520.length co65] ?_
      with_reducible refine (Bs_wideOf.calls k a0_0 (fun k_ => (((P0_1_ k_ ∨ P1_1_ k_) ∨ w.heap.size ≤ k_) ∧ (k_ ≠ gb509 ∧ (k_ ≠ gb510 ∧ k_ ≠ gb511)))) _ _ t520 t523 t524 _ ?side1 A54.out).mono ?_
      (case side1 => exact HO522.out)
      rintro e w66 ⟨v525, rfl, ho0, hb⟩
      refine ⟨_, rfl, ?_⟩
      replace HO0_1 := vb HO0_1 hb; replace HO1_1 := vb HO1_1 hb; replace HO522 := vb HO522 hb; have HO526 := m0 (Kd.V_lower (Kd.V_mono (ok' := fun k_ => ((P0_1_ k_ ∨ P1_1_ k_) ∨ w.heap.size ≤ k_) ∧ k_ ≠ gb509 ∧ k_ ≠ gb510 ∧ k_ ≠ gb511) ho0 (fun k_ hk_ => ⟨Or.elim hk_ (fun hs_ => hs_.1) (fun hn_ => (.inr (Nat.le_trans (below_size bz) hn_))), Or.elim hk_ (fun hs_ => hs_.2.1) (fun hn_ => (Kd.freshB (g := gb509) (o := .cells #[.int .i64 a0_0, .slice A0_1 l0_1.length c0_1] 135 (0, 0)) (bk BK509.out) k_ hn_)), Or.elim hk_ (fun hs_ => hs_.2.2.1) (fun hn_ => (Kd.freshB (g := gb510) (o := .cells #[.int .i64 a1_0, .slice A1_1 l1_1.length c1_1] 135 (0, 0)) (bk BK510.out) k_ hn_)), Or.elim hk_ (fun hs_ => hs_.2.2.2) (fun hn_ => (Kd.freshB (g := gb511) (o := .cells #[.int .i64 0, .slice none 0 0] 135 (0, 0)) (bk BK511.out) k_ hn_))⟩)) (below_size bz)); replace BK509 := bb BK509 hb; replace BK510 := bb BK510 hb; replace BK511 := bb BK511 hb; replace HB := sb HB hb
      (try clear hb)
      (try clear ho0)
      obtain ⟨Ao68, co68, eo68⟩ := Kd.V_slice HO526.out
      subst eo68
      refine hK.out _ _ cz (fun hH => ?_)
      clear hK K
      refine norm_ (a' := ?_) ?_ ?_
      rotate_left
      ·show Act.put _ (some 44) _ = _
       exact pz
      refine oneZ 8 (none) #[true, true, true, true, true, true, true, true, true] (one_of HT_.out (by kernel_rfl)) fun K hK => ?_
      have hs67 : w66.cell? ⟨gb511, 0, none⟩ = some (.int .i64 0) := (blk_cell BK511.out 0).trans rfl
      have hfs67 := blk_frozen BK511.out 0
      have hs69 : w66.cell? ⟨gb511, 1, none⟩ = some (.slice none 0 0) := (blk_cell BK511.out 1).trans rfl
      have hfs69 := blk_frozen BK511.out 1
      refine skip_ (w1 := ?_) (by rfl) rfl ?_ ?_
      rotate_left
      ·go_simp
       rfl
      refine hK.out _ _ (cf hH) (fun hH => ?_)
      clear hK K
      refine done_ (done_of HT_.out (by kernel_rfl)) ?_
      try go_wp2
      refine bodyPost_ret (results_cell_row rfl _ _ gb511 135 #[.int .i64 t523, .slice Ao68 t524.length co68] (0, 0) _ rfl (bq BK511.out) Tryd.underlying135 rfl (by kernel_rfl)) rfl ?_
      exact ⟨_, by first | rfl | (simp [errW_none, errW_some] <;> rfl) | (simp [*, errW_none, errW_some] <;> rfl), by (with_reducible repeat (first | apply Kd.V_alloc | apply Kd.V_drewN | apply Kd.V_drew)); exact Kd.V_mono (Kd.V_far (p := ⟨gb511, 1, none⟩) (Kd.V_far (p := ⟨gb511, 0, none⟩) (Kd.V_mono HO526.out (fun k_ hk => (⟨hk, hk.2.2.2⟩ : _ ∧ k_ ≠ gb511))) (fun _ hk => hk.2) (.int .i64 t523)) (fun _ hk => hk.2) (.slice Ao68 t524.length co68)) (fun _ hk => hk.1.1), by repeat (first | (with_reducible first | exact HB.out | apply below_alloc | apply pw_below_drewN | apply below_drew1 | refine below_set ?_ GE509.out | refine below_set ?_ GE510.out | refine below_set ?_ GE511.out) | exact HB.out)⟩
     ·rw [if_neg c52] at H
      have c52b0 := decide_eq_false c52
      clear c52
      replace H := ob H
      obtain ⟨t527, A70, H⟩ := H
      (try dsimp only at H)
      replace A70 := m0 A70
      replace H := ob H
      obtain ⟨⟨t530, t531⟩, A71, H⟩ := H
      (try dsimp only at H)
      replace A71 := m0 A71
      simp only [Option.some.injEq, Prod.mk.injEq] at H
      obtain ⟨rfl, rfl⟩ := H
      go_enter Tryd.func140, Tryd.ntmps140
      try go_wp2_with (first | ((with_reducible refine gate_dst (N := 2) rfl ?_); refine be 2 135 #[.int .i64 a0_0, .slice A0_1 l0_1.length c0_1] ?_; intro gb509 hg w72 hbox hb; replace HO0_1 := ve HO0_1 hg hb; replace HO1_1 := ve HO1_1 hg hb; have BK509 := m0 hbox; have GE509 := gw w hg; replace HB := sb HB hb; clear hb hbox hg) | ((with_reducible refine gate_dst (N := 3) rfl ?_); refine be 3 135 #[.int .i64 a1_0, .slice A1_1 l1_1.length c1_1] ?_; intro gb510 hg w73 hbox hb; replace HO0_1 := ve HO0_1 hg hb; replace HO1_1 := ve HO1_1 hg hb; have BK510 := m0 hbox; have GE510 := gw w hg; replace HB := sb HB hb; have NB509_510 := nl BK509 hg; have NB510_509 := ng (nl BK509 hg); replace BK509 := bb BK509 hb; clear hb hbox hg) | ((with_reducible refine gate_dst (N := 4) rfl ?_); refine be 4 135 #[.int .i64 0, .slice none 0 0] ?_; intro gb511 hg w74 hbox hb; replace HO0_1 := ve HO0_1 hg hb; replace HO1_1 := ve HO1_1 hg hb; have BK511 := m0 hbox; have GE511 := gw w hg; replace HB := sb HB hb; have NB509_511 := nl BK509 hg; have NB511_509 := ng (nl BK509 hg); replace BK509 := bb BK509 hb; have NB510_511 := nl BK510 hg; have NB511_510 := ng (nl BK510 hg); replace BK510 := bb BK510 hb; clear hb hbox hg; have hnb75 := NB509_510.out; have hnc75 := NB510_509.out; have hnb76 := NB509_511.out; have hnc76 := NB511_509.out; obtain ⟨_, _, _, _⟩ := b2 BK509; have hnb78 := NB510_511.out; have hnc78 := NB511_510.out; obtain ⟨_, _, _, _⟩ := b2 BK510) | ((with_reducible refine gate_callee (f := 152) rfl ?_); refine gl (some 31) Tryd.func152 #[.slice A0_1 l0_1.length c0_1, .slice A1_1 l1_1.length c1_1] ?_; (with_reducible refine (Bs_cmpDigits.calls k _ _ l0_1 _ _ l1_1 t519 _ ?side1 ?side2 ?side3 ?side4 A41.out).mono ?_); (case side1 => exact bc (Kd.V_reads' HO0_1.out).2.2); (case side2 => exact (Kd.V_reads' HO0_1.out).2.1); (case side3 => exact bc (Kd.V_reads' HO1_1.out).2.2); (case side4 => exact (Kd.V_reads' HO1_1.out).2.1); rintro e w' ⟨rfl, ⟨nd, rfl⟩⟩; refine ⟨_, rfl, ?_⟩; (try (rw [drewN_self w74]; generalize hq_ : World.drewN w74 _ = w74; have n0_ : Aside0 (Kd.V (Kd.int .i64) 3 w74 w.heap.size (fun k_ => ((P0_1_ k_ ∨ P1_1_ k_) ∨ w.heap.size ≤ k_) ∧ k_ ≠ gb509 ∧ k_ ≠ gb510 ∧ k_ ≠ gb511) (.slice A0_1 l0_1.length c0_1) l0_1) := ⟨by rw [← hq_]; exact (by (with_reducible repeat (first | apply Kd.V_alloc | apply Kd.V_drewN | apply Kd.V_drew)); exact Kd.V_mono HO0_1.out (fun _ hk => ⟨hk.1.1.1, ⟨hk.1.1.2, ⟨hk.1.2, hk.2⟩⟩⟩))⟩; have n1_ : Aside0 (Kd.V (Kd.int .i64) 3 w74 w.heap.size (fun k_ => ((P0_1_ k_ ∨ P1_1_ k_) ∨ w.heap.size ≤ k_) ∧ k_ ≠ gb509 ∧ k_ ≠ gb510 ∧ k_ ≠ gb511) (.slice A1_1 l1_1.length c1_1) l1_1) := ⟨by rw [← hq_]; exact (by (with_reducible repeat (first | apply Kd.V_alloc | apply Kd.V_drewN | apply Kd.V_drew)); exact Kd.V_mono HO1_1.out (fun _ hk => ⟨hk.1.1.1, ⟨hk.1.1.2, ⟨hk.1.2, hk.2⟩⟩⟩))⟩; have n2_ := gd BK509 hq_; have n3_ := gd BK510 hq_; have n4_ := gd BK511 hq_; have n5_ := gs HB hq_; clear HO0_1 HO1_1 BK509 BK510 BK511 HB hq_; have HO0_1 := n0_; have HO1_1 := n1_; have BK509 := n2_; have BK510 := n3_; have BK511 := n4_; have HB := n5_; clear n0_ n1_ n2_ n3_ n4_ n5_))))
      replace HO0_1 := m0 (Kd.V_drew HO0_1.out); replace HO1_1 := m0 (Kd.V_drew HO1_1.out); replace BK509 := bd BK509; replace BK510 := bd BK510; replace BK511 := bd BK511; replace HB := sd HB
      refine start_ (n := 9) (S := fun w' => w'.cell? ⟨gb510, 0, none⟩ = some (.int .i64 a1_0) ∧ w'.cell? ⟨gb510, 1, none⟩ = some (.slice A1_1 l1_1.length c1_1) ∧ w'.cell? ⟨gb509, 0, none⟩ = some (.int .i64 a0_0) ∧ w'.cell? ⟨gb509, 1, none⟩ = some (.slice A0_1 l0_1.length c0_1)) (ds := []) #[false, false, false, false, false, false, false, false, false] (by kernel_rfl) rfl rfl cz (fun hH => ?_); refine with_tabW Bs_WideAdd.tab12 Bs_WideAdd.bits12 (fun HT_ HW_ => ?_)
      generalize w74.drew = w80 at HO0_1 HO1_1 BK509 BK510 BK511 HB hH ⊢
      refine pZ 0 (some 45) #[true, false, false, false, false, false, false, false, false] HT_ ?_
      refine pZ 2 (some 47) #[true, false, true, false, false, false, false, false, false] HT_ ?_
      refine pZ 4 (some 49) #[true, false, true, false, true, false, false, false, false] HT_ ?_
      refine takeZ 1 (some 46) #[true, true, true, false, true, false, false, false, false] (take_ofW HT_.out HW_.out (by kernel_rfl)) hH ?_
      refine takeZ 3 (some 48) #[true, true, true, true, true, false, false, false, false] (take_ofW HT_.out HW_.out (by kernel_rfl)) hH ?_
      refine takeZ 5 (some 50) #[true, true, true, true, true, true, false, false, false] (take_ofW HT_.out HW_.out (by kernel_rfl)) hH ?_
      refine oneZ 6 (some 51) #[true, true, true, true, true, true, true, false, false] (one_of HT_.out (by kernel_rfl)) fun K hK => ?_
      refine gz Tryd.func153 #[.slice A1_1 l1_1.length c1_1, .slice A0_1 l0_1.length c0_1] ?_
      with_reducible refine (Bs_subDigits.calls k _ _ l1_1 _ _ l0_1 t527 _ ?side1 ?side2 ?side3 ?side4 A70.out).mono ?_
      (case side1 => exact bc (Kd.V_reads' HO1_1.out).2.2)
      (case side2 => exact (Kd.V_reads' HO1_1.out).2.1)
      (case side3 => exact bc (Kd.V_reads' HO0_1.out).2.2)
      (case side4 => exact (Kd.V_reads' HO0_1.out).2.1)
      rintro e w81 ⟨v528, rfl, ho0, hb⟩
      refine ⟨_, rfl, ?_⟩
      replace HO0_1 := vb HO0_1 hb; replace HO1_1 := vb HO1_1 hb; have HO529 := m0 (Kd.V_lower (Kd.V_mono (ok' := fun k_ => ((P0_1_ k_ ∨ P1_1_ k_) ∨ w.heap.size ≤ k_) ∧ k_ ≠ gb509 ∧ k_ ≠ gb510 ∧ k_ ≠ gb511) ho0 (fun k_ hk_ => ⟨(.inr (Nat.le_trans (below_size bz) hk_)), (Kd.freshB (g := gb509) (o := .cells #[.int .i64 a0_0, .slice A0_1 l0_1.length c0_1] 135 (0, 0)) (bk BK509.out) k_ hk_), (Kd.freshB (g := gb510) (o := .cells #[.int .i64 a1_0, .slice A1_1 l1_1.length c1_1] 135 (0, 0)) (bk BK510.out) k_ hk_), (Kd.freshB (g := gb511) (o := .cells #[.int .i64 0, .slice none 0 0] 135 (0, 0)) (bk BK511.out) k_ hk_)⟩)) (below_size bz)); replace BK509 := bb BK509 hb; replace BK510 := bb BK510 hb; replace BK511 := bb BK511 hb; replace HB := sb HB hb
      (try clear hb)
      (try clear ho0)
      obtain ⟨Ao82, co82, eo82⟩ := Kd.V_slice HO529.out
      subst eo82
      refine hK.out _ _ cz (fun hH => ?_)
      clear hK K
      refine norm_ (a' := ?_) ?_ ?_
      rotate_left
      ·show Act.put _ (some 51) _ = _
       exact pz
      refine oneZ 7 (some 52) #[true, true, true, true, true, true, true, true, false] (one_of HT_.out (by kernel_rfl)) fun K hK => ?_
      refine gz Tryd.func150 #[.int .i64 a1_0, .slice Ao82 t527.length co82] ?_
      with_reducible refine (Bs_wideOf.calls k a1_0 (fun k_ => (((P0_1_ k_ ∨ P1_1_ k_) ∨ w.heap.size ≤ k_) ∧ (k_ ≠ gb509 ∧ (k_ ≠ gb510 ∧ k_ ≠ gb511)))) _ _ t527 t530 t531 _ ?side1 A71.out).mono ?_
      (case side1 => exact HO529.out)
      rintro e w83 ⟨v532, rfl, ho0, hb⟩
      refine ⟨_, rfl, ?_⟩
      replace HO0_1 := vb HO0_1 hb; replace HO1_1 := vb HO1_1 hb; replace HO529 := vb HO529 hb; have HO533 := m0 (Kd.V_lower (Kd.V_mono (ok' := fun k_ => ((P0_1_ k_ ∨ P1_1_ k_) ∨ w.heap.size ≤ k_) ∧ k_ ≠ gb509 ∧ k_ ≠ gb510 ∧ k_ ≠ gb511) ho0 (fun k_ hk_ => ⟨Or.elim hk_ (fun hs_ => hs_.1) (fun hn_ => (.inr (Nat.le_trans (below_size bz) hn_))), Or.elim hk_ (fun hs_ => hs_.2.1) (fun hn_ => (Kd.freshB (g := gb509) (o := .cells #[.int .i64 a0_0, .slice A0_1 l0_1.length c0_1] 135 (0, 0)) (bk BK509.out) k_ hn_)), Or.elim hk_ (fun hs_ => hs_.2.2.1) (fun hn_ => (Kd.freshB (g := gb510) (o := .cells #[.int .i64 a1_0, .slice A1_1 l1_1.length c1_1] 135 (0, 0)) (bk BK510.out) k_ hn_)), Or.elim hk_ (fun hs_ => hs_.2.2.2) (fun hn_ => (Kd.freshB (g := gb511) (o := .cells #[.int .i64 0, .slice none 0 0] 135 (0, 0)) (bk BK511.out) k_ hn_))⟩)) (below_size bz)); replace BK509 := bb BK509 hb; replace BK510 := bb BK510 hb; replace BK511 := bb BK511 hb; replace HB := sb HB hb
      (try clear hb)
      (try clear ho0)
      obtain ⟨Ao85, co85, eo85⟩ := Kd.V_slice HO533.out
      subst eo85
      refine hK.out _ _ cz (fun hH => ?_)
      clear hK K
      refine norm_ (a' := ?_) ?_ ?_
      rotate_left
      ·show Act.put _ (some 52) _ = _
       exact pz
      refine oneZ 8 (none) #[true, true, true, true, true, true, true, true, true] (one_of HT_.out (by kernel_rfl)) fun K hK => ?_
      have hs84 : w83.cell? ⟨gb511, 0, none⟩ = some (.int .i64 0) := (blk_cell BK511.out 0).trans rfl
      have hfs84 := blk_frozen BK511.out 0
      have hs86 : w83.cell? ⟨gb511, 1, none⟩ = some (.slice none 0 0) := (blk_cell BK511.out 1).trans rfl
      have hfs86 := blk_frozen BK511.out 1
      refine skip_ (w1 := ?_) (by rfl) rfl ?_ ?_
      rotate_left
      ·go_simp
       rfl
      refine hK.out _ _ (cf hH) (fun hH => ?_)
      clear hK K
      refine done_ (done_of HT_.out (by kernel_rfl)) ?_
      try go_wp2
      refine bodyPost_ret (results_cell_row rfl _ _ gb511 135 #[.int .i64 t530, .slice Ao85 t531.length co85] (0, 0) _ rfl (bq BK511.out) Tryd.underlying135 rfl (by kernel_rfl)) rfl ?_
      exact ⟨_, by first | rfl | (simp [errW_none, errW_some] <;> rfl) | (simp [*, errW_none, errW_some] <;> rfl), by (with_reducible repeat (first | apply Kd.V_alloc | apply Kd.V_drewN | apply Kd.V_drew)); exact Kd.V_mono (Kd.V_far (p := ⟨gb511, 1, none⟩) (Kd.V_far (p := ⟨gb511, 0, none⟩) (Kd.V_mono HO533.out (fun k_ hk => (⟨hk, hk.2.2.2⟩ : _ ∧ k_ ≠ gb511))) (fun _ hk => hk.2) (.int .i64 t530)) (fun _ hk => hk.2) (.slice Ao85 t531.length co85)) (fun _ hk => hk.1.1), by repeat (first | (with_reducible first | exact HB.out | apply below_alloc | apply pw_below_drewN | apply below_drew1 | refine below_set ?_ GE509.out | refine below_set ?_ GE510.out | refine below_set ?_ GE511.out) | exact HB.out)⟩
end
section
def Bs_WideSub.f (k : Nat) (a0_0 : Int) (l0_1 : List Int) (a1_0 : Int) (l1_1 : List Int) : Option (Int × List Int) := (Bs_WideNeg.f a1_0 l1_1).bind fun bt537 => ((Bs_WideAdd.f k a0_0 l0_1 bt537.1 bt537.2).bind fun bt541 => (some (bt541.1, bt541.2)))
theorem Bs_WideSub.mono : ∀ a0 a1 a2 a3 k, LeO (Bs_WideSub.f k a0 a1 a2 a3) (Bs_WideSub.f (k + 1) a0 a1 a2 a3) := by
 intro a0 a1 a2 a3 k
 unfold Bs_WideSub.f
 repeat' with_reducible first
  | exact Bs_WideAdd.mono ..
  | exact LeO.refl ..
  | exact LeO.none ..
  | refine LeO.ite ?_ ?_
  | refine LeO.bind ?_ (fun _ => ?_)
theorem Bs_WideSub.calls (k : Nat) (a0_0 : Int) (P0_1_ : Nat → Prop) (A0_1 : Option Addr) (c0_1 : Nat) (l0_1 : List Int) (a1_0 : Int) (P1_1_ : Nat → Prop) (A1_1 : Option Addr) (c1_1 : Nat) (l1_1 : List Int) (r1 : Int) (r2 : List Int) (w : World) (hs0_1 : Kd.V (Kd.int .i64) 3 w w.heap.size (fun k_ => P0_1_ k_) (.slice A0_1 l0_1.length c0_1) l0_1) (hs1_1 : Kd.V (Kd.int .i64) 3 w w.heap.size (fun k_ => P1_1_ k_) (.slice A1_1 l1_1.length c1_1) l1_1) (h : Bs_WideSub.f k a0_0 l0_1 a1_0 l1_1 = some (r1, r2)) :
  Calls Tryd.prog 166 #[.agg #[.int .i64 a0_0, .slice A0_1 l0_1.length c0_1], .agg #[.int .i64 a1_0, .slice A1_1 l1_1.length c1_1]] w fun e w' => ∃ v1_ : Value, e = .returned (.agg #[.int .i64 r1, v1_]) ∧ Kd.V (Kd.int .i64) 3 w' w.heap.size (fun k_ => ((P0_1_ k_ ∨ P1_1_ k_) ∨ w.heap.size ≤ k_)) v1_ r2 ∧ Below w.heap.size w w' := by
 have hu135 := Tryd.underlying135
 have HO0_1 := m0 (show Kd.V (Kd.int .i64) 3 w w.heap.size (fun k_ => ((P0_1_ k_ ∨ P1_1_ k_) ∨ w.heap.size ≤ k_)) (.slice A0_1 l0_1.length c0_1) l0_1 from Kd.V_mono hs0_1 (fun k_ hk => .inl (.inl hk)))
 have HO1_1 := m0 (show Kd.V (Kd.int .i64) 3 w w.heap.size (fun k_ => ((P0_1_ k_ ∨ P1_1_ k_) ∨ w.heap.size ≤ k_)) (.slice A1_1 l1_1.length c1_1) l1_1 from Kd.V_mono hs1_1 (fun k_ hk => .inl (.inr hk)))
 have HB := m0 (Below.refl w.heap.size w)
 have H : ((Bs_WideNeg.f a1_0 l1_1).bind fun bt537 => ((Bs_WideAdd.f k a0_0 l0_1 bt537.1 bt537.2).bind fun bt541 => (some (bt541.1, bt541.2)))) = some (r1, r2) := h
 clear h
 replace H := ob H
 obtain ⟨⟨t537, t538⟩, A3, H⟩ := H
 (try dsimp only at H)
 replace A3 := m0 A3
 replace H := ob H
 obtain ⟨⟨t541, t542⟩, A4, H⟩ := H
 (try dsimp only at H)
 replace A4 := m0 A4
 simp only [Option.some.injEq, Prod.mk.injEq] at H
 obtain ⟨rfl, rfl⟩ := H
 go_enter Tryd.func166, Tryd.ntmps166
 try go_wp2_with (first | ((with_reducible refine gate_dst (N := 2) rfl ?_); refine be 2 135 #[.int .i64 a0_0, .slice A0_1 l0_1.length c0_1] ?_; intro gb534 hg w5 hbox hb; replace HO0_1 := ve HO0_1 hg hb; replace HO1_1 := ve HO1_1 hg hb; have BK534 := m0 hbox; have GE534 := gw w hg; replace HB := sb HB hb; clear hb hbox hg) | ((with_reducible refine gate_dst (N := 3) rfl ?_); refine be 3 135 #[.int .i64 a1_0, .slice A1_1 l1_1.length c1_1] ?_; intro gb535 hg w6 hbox hb; replace HO0_1 := ve HO0_1 hg hb; replace HO1_1 := ve HO1_1 hg hb; have BK535 := m0 hbox; have GE535 := gw w hg; replace HB := sb HB hb; have NB534_535 := nl BK534 hg; have NB535_534 := ng (nl BK534 hg); replace BK534 := bb BK534 hb; clear hb hbox hg) | ((with_reducible refine gate_dst (N := 4) rfl ?_); refine be 4 135 #[.int .i64 0, .slice none 0 0] ?_; intro gb536 hg w7 hbox hb; replace HO0_1 := ve HO0_1 hg hb; replace HO1_1 := ve HO1_1 hg hb; have BK536 := m0 hbox; have GE536 := gw w hg; replace HB := sb HB hb; have NB534_536 := nl BK534 hg; have NB536_534 := ng (nl BK534 hg); replace BK534 := bb BK534 hb; have NB535_536 := nl BK535 hg; have NB536_535 := ng (nl BK535 hg); replace BK535 := bb BK535 hb; clear hb hbox hg))
 replace HO0_1 := m0 (Kd.V_drew HO0_1.out); replace HO1_1 := m0 (Kd.V_drew HO1_1.out); replace BK534 := bd BK534; replace BK535 := bd BK535; replace BK536 := bd BK536; replace HB := sd HB
 refine start_ (n := 5) (S := fun w' => w'.cell? ⟨gb534, 0, none⟩ = some (.int .i64 a0_0) ∧ w'.cell? ⟨gb534, 1, none⟩ = some (.slice A0_1 l0_1.length c0_1) ∧ w'.cell? ⟨gb535, 0, none⟩ = some (.int .i64 a1_0) ∧ w'.cell? ⟨gb535, 1, none⟩ = some (.slice A1_1 l1_1.length c1_1)) (ds := []) #[false, false, false, false, false] (by kernel_rfl) rfl rfl cz (fun hH => ?_)
 generalize w7.drew = w8 at HO0_1 HO1_1 BK534 BK535 BK536 HB hH ⊢
 refine takeZ 0 (some 5) #[true, false, false, false, false] (by kernel_rfl) hH ?_
 refine takeZ 1 (some 6) #[true, true, false, false, false] (by kernel_rfl) hH ?_
 refine oneZ 2 (some 7) #[true, true, true, false, false] (by kernel_rfl) fun K hK => ?_
 refine gz Tryd.func146 #[.agg #[.int .i64 a1_0, .slice A1_1 l1_1.length c1_1]] ?_
 with_reducible refine (Bs_WideNeg.calls a1_0 (fun k_ => (((((P0_1_ k_ ∨ P1_1_ k_) ∨ w.heap.size ≤ k_) ∧ k_ ≠ gb534) ∧ k_ ≠ gb535) ∧ k_ ≠ gb536)) _ _ l1_1 t537 t538 _ ?side1 A3.out).mono ?_
 (case side1 => exact HO1_1.out)
 rintro e w9 ⟨v539, rfl, ho0, hb⟩
 refine ⟨_, rfl, ?_⟩
 replace HO0_1 := vb HO0_1 hb; replace HO1_1 := vb HO1_1 hb; have HO540 := m0 (Kd.V_lower (Kd.V_mono (ok' := fun k_ => ((P0_1_ k_ ∨ P1_1_ k_) ∨ w.heap.size ≤ k_) ∧ k_ ≠ gb534 ∧ k_ ≠ gb535 ∧ k_ ≠ gb536) ho0 (fun k_ hk_ => ⟨Or.elim hk_ (fun hs_ => hs_.1.1.1) (fun hn_ => (.inr (Nat.le_trans (below_size bz) hn_))), Or.elim hk_ (fun hs_ => hs_.1.1.2) (fun hn_ => (Kd.freshB (g := gb534) (o := .cells #[.int .i64 a0_0, .slice A0_1 l0_1.length c0_1] 135 (0, 0)) (bk BK534.out) k_ hn_)), Or.elim hk_ (fun hs_ => hs_.1.2) (fun hn_ => (Kd.freshB (g := gb535) (o := .cells #[.int .i64 a1_0, .slice A1_1 l1_1.length c1_1] 135 (0, 0)) (bk BK535.out) k_ hn_)), Or.elim hk_ (fun hs_ => hs_.2) (fun hn_ => (Kd.freshB (g := gb536) (o := .cells #[.int .i64 0, .slice none 0 0] 135 (0, 0)) (bk BK536.out) k_ hn_))⟩)) (below_size bz)); replace BK534 := bb BK534 hb; replace BK535 := bb BK535 hb; replace BK536 := bb BK536 hb; replace HB := sb HB hb
 (try clear hb)
 (try clear ho0)
 obtain ⟨Ao10, co10, eo10⟩ := Kd.V_slice HO540.out
 subst eo10
 refine hK.out _ _ cz (fun hH => ?_)
 clear hK K
 refine norm_ (a' := ?_) ?_ ?_
 rotate_left
 ·show Act.put _ (some 7) _ = _
  exact pz
 refine oneZ 3 (some 8) #[true, true, true, true, false] (by kernel_rfl) fun K hK => ?_
 refine gz Tryd.func140 #[.agg #[.int .i64 a0_0, .slice A0_1 l0_1.length c0_1], .agg #[.int .i64 t537, .slice Ao10 t538.length co10]] ?_
 with_reducible refine (Bs_WideAdd.calls k a0_0 (fun k_ => (((((P0_1_ k_ ∨ P1_1_ k_) ∨ w.heap.size ≤ k_) ∧ k_ ≠ gb534) ∧ k_ ≠ gb535) ∧ k_ ≠ gb536)) _ _ l0_1 t537 (fun k_ => (((P0_1_ k_ ∨ P1_1_ k_) ∨ w.heap.size ≤ k_) ∧ (k_ ≠ gb534 ∧ (k_ ≠ gb535 ∧ k_ ≠ gb536)))) _ _ t538 t541 t542 _ ?side1 ?side2 A4.out).mono ?_
 (case side1 => exact HO0_1.out)
 (case side2 => exact HO540.out)
 rintro e w11 ⟨v543, rfl, ho0, hb⟩
 refine ⟨_, rfl, ?_⟩
 replace HO0_1 := vb HO0_1 hb; replace HO1_1 := vb HO1_1 hb; replace HO540 := vb HO540 hb; have HO544 := m0 (Kd.V_lower (Kd.V_mono (ok' := fun k_ => ((P0_1_ k_ ∨ P1_1_ k_) ∨ w.heap.size ≤ k_) ∧ k_ ≠ gb534 ∧ k_ ≠ gb535 ∧ k_ ≠ gb536) ho0 (fun k_ hk_ => ⟨Or.elim hk_ (fun hs_ => Or.elim hs_ (fun hs_ => hs_.1.1.1) (fun hs_ => hs_.1)) (fun hn_ => (.inr (Nat.le_trans (below_size bz) hn_))), Or.elim hk_ (fun hs_ => Or.elim hs_ (fun hs_ => hs_.1.1.2) (fun hs_ => hs_.2.1)) (fun hn_ => (Kd.freshB (g := gb534) (o := .cells #[.int .i64 a0_0, .slice A0_1 l0_1.length c0_1] 135 (0, 0)) (bk BK534.out) k_ hn_)), Or.elim hk_ (fun hs_ => Or.elim hs_ (fun hs_ => hs_.1.2) (fun hs_ => hs_.2.2.1)) (fun hn_ => (Kd.freshB (g := gb535) (o := .cells #[.int .i64 a1_0, .slice A1_1 l1_1.length c1_1] 135 (0, 0)) (bk BK535.out) k_ hn_)), Or.elim hk_ (fun hs_ => Or.elim hs_ (fun hs_ => hs_.2) (fun hs_ => hs_.2.2.2)) (fun hn_ => (Kd.freshB (g := gb536) (o := .cells #[.int .i64 0, .slice none 0 0] 135 (0, 0)) (bk BK536.out) k_ hn_))⟩)) (below_size bz)); replace BK534 := bb BK534 hb; replace BK535 := bb BK535 hb; replace BK536 := bb BK536 hb; replace HB := sb HB hb
 (try clear hb)
 (try clear ho0)
 obtain ⟨Ao13, co13, eo13⟩ := Kd.V_slice HO544.out
 subst eo13
 refine hK.out _ _ cz (fun hH => ?_)
 clear hK K
 refine norm_ (a' := ?_) ?_ ?_
 rotate_left
 ·show Act.put _ (some 8) _ = _
  exact pz
 refine oneZ 4 (none) #[true, true, true, true, true] (by kernel_rfl) fun K hK => ?_
 have hs12 : w11.cell? ⟨gb536, 0, none⟩ = some (.int .i64 0) := (blk_cell BK536.out 0).trans rfl
 have hfs12 := blk_frozen BK536.out 0
 have hs14 : w11.cell? ⟨gb536, 1, none⟩ = some (.slice none 0 0) := (blk_cell BK536.out 1).trans rfl
 have hfs14 := blk_frozen BK536.out 1
 refine skip_ (w1 := ?_) (by rfl) rfl ?_ ?_
 rotate_left
 ·go_simp
  rfl
 refine hK.out _ _ (cf hH) (fun hH => ?_)
 clear hK K
 refine done_ (by kernel_rfl) ?_
 try go_wp2
 refine bodyPost_ret (results_cell_row rfl _ _ gb536 135 #[.int .i64 t541, .slice Ao13 t542.length co13] (0, 0) _ rfl (bq BK536.out) Tryd.underlying135 rfl (by kernel_rfl)) rfl ?_
 exact ⟨_, by first | rfl | (simp [errW_none, errW_some] <;> rfl) | (simp [*, errW_none, errW_some] <;> rfl), by (with_reducible repeat (first | apply Kd.V_alloc | apply Kd.V_drewN | apply Kd.V_drew)); exact Kd.V_mono (Kd.V_far (p := ⟨gb536, 1, none⟩) (Kd.V_far (p := ⟨gb536, 0, none⟩) (Kd.V_mono HO544.out (fun k_ hk => (⟨hk, hk.2.2.2⟩ : _ ∧ k_ ≠ gb536))) (fun _ hk => hk.2) (.int .i64 t541)) (fun _ hk => hk.2) (.slice Ao13 t542.length co13)) (fun _ hk => hk.1.1), by repeat (first | (with_reducible first | exact HB.out | apply below_alloc | apply pw_below_drewN | apply below_drew1 | refine below_set ?_ GE534.out | refine below_set ?_ GE535.out | refine below_set ?_ GE536.out) | exact HB.out)⟩
end
section
def Bs_wideSize.f (a0_0 : Int) (l0_1 : List Int) : Option (Int × List Int) := if a0_0 < 0 then ((Bs_WideNeg.f a0_0 l0_1).bind fun bt600 => (some (bt600.1, bt600.2))) else (some (a0_0, l0_1))
theorem Bs_wideSize.calls (a0_0 : Int) (P0_1_ : Nat → Prop) (A0_1 : Option Addr) (c0_1 : Nat) (l0_1 : List Int) (r1 : Int) (r2 : List Int) (w : World) (hs0_1 : Kd.V (Kd.int .i64) 3 w w.heap.size (fun k_ => P0_1_ k_) (.slice A0_1 l0_1.length c0_1) l0_1) (h : Bs_wideSize.f a0_0 l0_1 = some (r1, r2)) :
  Calls Tryd.prog 165 #[.agg #[.int .i64 a0_0, .slice A0_1 l0_1.length c0_1]] w fun e w' => ∃ v1_ : Value, e = .returned (.agg #[.int .i64 r1, v1_]) ∧ Kd.V (Kd.int .i64) 3 w' w.heap.size (fun k_ => (P0_1_ k_ ∨ w.heap.size ≤ k_)) v1_ r2 ∧ Below w.heap.size w w' := by
 have hu135 := Tryd.underlying135
 have HO0_1 := m0 (show Kd.V (Kd.int .i64) 3 w w.heap.size (fun k_ => (P0_1_ k_ ∨ w.heap.size ≤ k_)) (.slice A0_1 l0_1.length c0_1) l0_1 from Kd.V_mono hs0_1 (fun k_ hk => .inl hk))
 have HB := m0 (Below.refl w.heap.size w)
 have H : (if a0_0 < 0 then ((Bs_WideNeg.f a0_0 l0_1).bind fun bt600 => (some (bt600.1, bt600.2))) else (some (a0_0, l0_1))) = some (r1, r2) := h
 clear h
 by_cases c2 : a0_0 < 0
 ·rw [if_pos c2] at H
  have c2b0 := decide_eq_true c2
  clear c2
  replace H := ob H
  obtain ⟨⟨t600, t601⟩, A3, H⟩ := H
  (try dsimp only at H)
  replace A3 := m0 A3
  simp only [Option.some.injEq, Prod.mk.injEq] at H
  obtain ⟨rfl, rfl⟩ := H
  go_enter Tryd.func165, Tryd.ntmps165
  go_wp2_with (first | ((with_reducible refine gate_dst (N := 1) rfl ?_); refine be 1 135 #[.int .i64 a0_0, .slice A0_1 l0_1.length c0_1] ?_; intro gb598 hg w4 hbox hb; replace HO0_1 := ve HO0_1 hg hb; have BK598 := m0 hbox; have GE598 := gw w hg; replace HB := sb HB hb; clear hb hbox hg) | ((with_reducible refine gate_dst (N := 2) rfl ?_); refine be 2 135 #[.int .i64 0, .slice none 0 0] ?_; intro gb599 hg w5 hbox hb; replace HO0_1 := ve HO0_1 hg hb; have BK599 := m0 hbox; have GE599 := gw w hg; replace HB := sb HB hb; have NB598_599 := nl BK598 hg; have NB599_598 := ng (nl BK598 hg); replace BK598 := bb BK598 hb; clear hb hbox hg; have hnb6 := NB598_599.out; have hnc6 := NB599_598.out; obtain ⟨_, _, _, _⟩ := b2 BK598) | ((with_reducible refine gate_callee (f := 146) rfl ?_); refine gl (some 7) Tryd.func146 #[.agg #[.int .i64 a0_0, .slice A0_1 l0_1.length c0_1]] ?_; (with_reducible refine (Bs_WideNeg.calls a0_0 (fun k_ => (((P0_1_ k_ ∨ w.heap.size ≤ k_) ∧ k_ ≠ gb598) ∧ k_ ≠ gb599)) _ _ l0_1 t600 t601 _ ?side1 A3.out).mono ?_); (case side1 => exact HO0_1.out); rintro e w8 ⟨v602, rfl, ho0, hb⟩; refine ⟨_, rfl, ?_⟩; replace HO0_1 := vb HO0_1 hb; have HO603 := m0 (Kd.V_lower (Kd.V_mono (ok' := fun k_ => (P0_1_ k_ ∨ w.heap.size ≤ k_) ∧ k_ ≠ gb598 ∧ k_ ≠ gb599) ho0 (fun k_ hk_ => ⟨Or.elim hk_ (fun hs_ => hs_.1.1) (fun hn_ => (.inr (Nat.le_trans (below_size bz) hn_))), Or.elim hk_ (fun hs_ => hs_.1.2) (fun hn_ => (Kd.freshB (g := gb598) (o := .cells #[.int .i64 a0_0, .slice A0_1 l0_1.length c0_1] 135 (0, 0)) (bk BK598.out) k_ hn_)), Or.elim hk_ (fun hs_ => hs_.2) (fun hn_ => (Kd.freshB (g := gb599) (o := .cells #[.int .i64 0, .slice none 0 0] 135 (0, 0)) (bk BK599.out) k_ hn_))⟩)) (below_size bz)); replace BK598 := bb BK598 hb; replace BK599 := bb BK599 hb; replace HB := sb HB hb; (try clear hb); (try clear ho0); obtain ⟨_, _, _, _⟩ := b2 BK599; obtain ⟨Ao10, co10, eo10⟩ := Kd.V_slice HO603.out; subst eo10))
  refine bodyPost_ret (results_cell_row rfl _ _ gb599 135 #[.int .i64 t600, .slice Ao10 t601.length co10] (0, 0) _ rfl (bq BK599.out) Tryd.underlying135 rfl (by kernel_rfl)) rfl ?_
  exact ⟨_, by first | rfl | (simp [errW_none, errW_some] <;> rfl) | (simp [*, errW_none, errW_some] <;> rfl), by (with_reducible repeat (first | apply Kd.V_alloc | apply Kd.V_drewN | apply Kd.V_drew)); exact Kd.V_mono (Kd.V_far (p := ⟨gb599, 1, none⟩) (Kd.V_far (p := ⟨gb599, 0, none⟩) (Kd.V_mono HO603.out (fun k_ hk => (⟨hk, hk.2.2⟩ : _ ∧ k_ ≠ gb599))) (fun _ hk => hk.2) (.int .i64 t600)) (fun _ hk => hk.2) (.slice Ao10 t601.length co10)) (fun _ hk => hk.1.1), by repeat (first | (with_reducible first | exact HB.out | apply below_alloc | apply pw_below_drewN | apply below_drew1 | refine below_set ?_ GE598.out | refine below_set ?_ GE599.out) | exact HB.out)⟩
 ·rw [if_neg c2] at H
  have c2b0 := decide_eq_false c2
  clear c2
  simp only [Option.some.injEq, Prod.mk.injEq] at H
  obtain ⟨rfl, rfl⟩ := H
  go_enter Tryd.func165, Tryd.ntmps165
  go_wp2_with (first | ((with_reducible refine gate_dst (N := 1) rfl ?_); refine be 1 135 #[.int .i64 a0_0, .slice A0_1 l0_1.length c0_1] ?_; intro gb598 hg w11 hbox hb; replace HO0_1 := ve HO0_1 hg hb; have BK598 := m0 hbox; have GE598 := gw w hg; replace HB := sb HB hb; clear hb hbox hg) | ((with_reducible refine gate_dst (N := 2) rfl ?_); refine be 2 135 #[.int .i64 0, .slice none 0 0] ?_; intro gb599 hg w12 hbox hb; replace HO0_1 := ve HO0_1 hg hb; have BK599 := m0 hbox; have GE599 := gw w hg; replace HB := sb HB hb; have NB598_599 := nl BK598 hg; have NB599_598 := ng (nl BK598 hg); replace BK598 := bb BK598 hb; clear hb hbox hg; have hnb13 := NB598_599.out; have hnc13 := NB599_598.out; obtain ⟨_, _, _, _⟩ := b2 BK598; obtain ⟨_, _, _, _⟩ := b2 BK599))
  refine bodyPost_ret (results_cell_row rfl _ _ gb599 135 #[.int .i64 a0_0, .slice A0_1 l0_1.length c0_1] (0, 0) _ rfl (bq BK599.out) Tryd.underlying135 rfl (by kernel_rfl)) rfl ?_
  exact ⟨_, by first | rfl | (simp [errW_none, errW_some] <;> rfl) | (simp [*, errW_none, errW_some] <;> rfl), by (with_reducible repeat (first | apply Kd.V_alloc | apply Kd.V_drewN | apply Kd.V_drew)); exact Kd.V_mono (Kd.V_far (p := ⟨gb599, 1, none⟩) (Kd.V_far (p := ⟨gb599, 0, none⟩) (Kd.V_mono HO0_1.out (fun k_ hk => (⟨hk, hk.2⟩ : _ ∧ k_ ≠ gb599))) (fun _ hk => hk.2) (.int .i64 a0_0)) (fun _ hk => hk.2) (.slice A0_1 l0_1.length c0_1)) (fun _ hk => hk.1.1.1), by repeat (first | (with_reducible first | exact HB.out | apply below_alloc | apply pw_below_drewN | apply below_drew1 | refine below_set ?_ GE598.out | refine below_set ?_ GE599.out) | exact HB.out)⟩
end
end Go.Proofs.YtjnkphmcndaijaaDoor.A
