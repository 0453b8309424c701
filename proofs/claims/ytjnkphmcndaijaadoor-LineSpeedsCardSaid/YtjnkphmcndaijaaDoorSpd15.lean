/- Walks of the program's functions (printed, made shorter), each with what it computes. -/
import Derived.Test.YtjnkphmcndaijaaDoorSpd04
import Derived.Test.YtjnkphmcndaijaaDoorSpd13
import Derived.Test.YtjnkphmcndaijaaDoorSpd14
import Derived.Test.YtjnkphmcndaijaaDoorSpd03
namespace Go.Proofs.YtjnkphmcndaijaaDoor.A
set_option maxHeartbeats 8000000
set_option maxRecDepth 100000
open Go.RowKit Go.Proofs.YtjnkphmcndaijaaDoorW.PrintWords Go.Proofs.YtjnkphmcndaijaaDoorW.PrintLast Go.Proofs.YtjnkphmcndaijaaDoorW.PrintMore
attribute [local go_sem] max2_int min2_int max_two min_two max_three min_three max_four min_four
set_option linter.unusedVariables false
set_option linter.unusedSimpArgs false
section
mutual
def Bs_WideFloor.l0 : Nat → List Int → List Int → Int → Int → List Int → Int → List Int → Option (Int × List Int)
  | 0, _, _, _, _, _, _, _ => none
  | k + 1, x5, x6, x7, x546000, x546001, x547000, x547001 => if x7 ≥ 0 then (if 0 ≤ x7 then (if x7 < (x546001.length : Int) then ((some (([rd x546001 x7] : List Int) : List Int)).bind fun y555 => (if y555.length + x6.length < 17592186044416 then ((Bs_trimmed.f k (y555 ++ x6)).bind fun t561 => (Bs_WideFloor.l1 k x5 t561 x7 0 999999999 x546000 x546001 x547000 x547001)) else (none))) else (none)) else (none)) else ((Bs_wideOf.f k x546000 x5).bind fun bt593 => (if x546000 < 0 then (Bs_WideFloor.j2 k (decide ((x6.length : Int) > 0)) bt593.1 bt593.2) else (Bs_WideFloor.j2 k false bt593.1 bt593.2)))
def Bs_WideFloor.l1 : Nat → List Int → List Int → Int → Int → Int → Int → List Int → Int → List Int → Option (Int × List Int)
  | 0, _, _, _, _, _, _, _, _, _ => none
  | k + 1, x5, x6, x7, x8, x9, x546000, x546001, x547000, x547001 => if x8 < x9 then ((Bs_wideOf.f k 1 x547001).bind fun bt564 => ((Bs_WideOf.f k (wrap64 (Int.tdiv (wrap64 ((wrap64 (x8 + x9)) + 1)) 2))).bind fun bt568 => ((Bs_WideMul.f k bt564.1 bt564.2 bt568.1 bt568.2).bind fun bt572 => ((Bs_cmpDigits.f k bt572.2 x6).bind fun t576 => (if t576 ≤ 0 then (Bs_WideFloor.l1 k x5 x6 x7 (wrap64 (Int.tdiv (wrap64 ((wrap64 (x8 + x9)) + 1)) 2)) x9 x546000 x546001 x547000 x547001) else (Bs_WideFloor.l1 k x5 x6 x7 x8 (wrap64 ((wrap64 (Int.tdiv (wrap64 ((wrap64 (x8 + x9)) + 1)) 2)) - 1)) x546000 x546001 x547000 x547001)))))) else (if 0 ≤ x7 then (if x7 < (x5.length : Int) then ((Bs_wideOf.f k 1 x547001).bind fun bt578 => ((Bs_WideOf.f k x8).bind fun bt582 => ((Bs_WideMul.f k bt578.1 bt578.2 bt582.1 bt582.2).bind fun bt586 => ((Bs_subDigits.f k x6 bt586.2).bind fun t590 => (Bs_WideFloor.l0 k (x5.set (x7 : Int).toNat x8) t590 (wrap64 (x7 - 1)) x546000 x546001 x547000 x547001))))) else (none)) else (none))
def Bs_WideFloor.j2 : Nat → Bool → Int → List Int → Option (Int × List Int)
  | 0, _, _, _ => none
  | k + 1, x83, x598000, x598001 => if x83 = true then (none) else (some (x598000, x598001))
end
def Bs_WideFloor.f (k : Nat) (a0_0 : Int) (l0_1 : List Int) (a1_0 : Int) (l1_1 : List Int) : Option (Int × List Int) := if a0_0 = 0 then (some (0, ([] : List Int))) else (if 0 ≤ (l0_1.length : Int) then (if ((l0_1.length : Int) : Int).toNat ≤ 35184372088832 then (Bs_WideFloor.l0 k (List.replicate ((l0_1.length : Int) : Int).toNat 0) (([] : List Int)) (wrap64 ((l0_1.length : Int) - 1)) a0_0 l0_1 a1_0 l1_1) else (none)) else (none))
theorem Bs_WideFloor.mono_l : ∀ k, (∀ y0 y1 y2 y3 y4 y5 y6, LeO (Bs_WideFloor.l0 k y0 y1 y2 y3 y4 y5 y6) (Bs_WideFloor.l0 (k + 1) y0 y1 y2 y3 y4 y5 y6)) ∧ (∀ y0 y1 y2 y3 y4 y5 y6 y7 y8, LeO (Bs_WideFloor.l1 k y0 y1 y2 y3 y4 y5 y6 y7 y8) (Bs_WideFloor.l1 (k + 1) y0 y1 y2 y3 y4 y5 y6 y7 y8)) ∧ (∀ y0 y1 y2, LeO (Bs_WideFloor.j2 k y0 y1 y2) (Bs_WideFloor.j2 (k + 1) y0 y1 y2))
  | 0 => ⟨fun _ _ _ _ _ _ _ r h => by simp [Bs_WideFloor.l0] at h, fun _ _ _ _ _ _ _ _ _ r h => by simp [Bs_WideFloor.l1] at h, fun _ _ _ r h => by simp [Bs_WideFloor.j2] at h⟩
  | k + 1 => by
    obtain ⟨ih0, ih1, ih2⟩ := Bs_WideFloor.mono_l k
    refine ⟨?_, ?_, ?_⟩
    · intro y0 y1 y2 y3 y4 y5 y6
      unfold Bs_WideFloor.l0
      repeat' with_reducible first
        | exact ih0 ..
        | exact ih1 ..
        | exact ih2 ..
        | exact Bs_WideMul.mono ..
        | exact Bs_WideOf.mono ..
        | exact Bs_cmpDigits.mono ..
        | exact Bs_subDigits.mono ..
        | exact Bs_trimmed.mono ..
        | exact Bs_wideOf.mono ..
        | exact LeO.refl ..
        | exact LeO.none ..
        | refine LeO.ite ?_ ?_
        | refine LeO.bind ?_ (fun _ => ?_)
    · intro y0 y1 y2 y3 y4 y5 y6 y7 y8
      unfold Bs_WideFloor.l1
      repeat' with_reducible first
        | exact ih0 ..
        | exact ih1 ..
        | exact ih2 ..
        | exact Bs_WideMul.mono ..
        | exact Bs_WideOf.mono ..
        | exact Bs_cmpDigits.mono ..
        | exact Bs_subDigits.mono ..
        | exact Bs_trimmed.mono ..
        | exact Bs_wideOf.mono ..
        | exact LeO.refl ..
        | exact LeO.none ..
        | refine LeO.ite ?_ ?_
        | refine LeO.bind ?_ (fun _ => ?_)
    · intro y0 y1 y2
      unfold Bs_WideFloor.j2
      repeat' with_reducible first
        | exact ih0 ..
        | exact ih1 ..
        | exact ih2 ..
        | exact Bs_WideMul.mono ..
        | exact Bs_WideOf.mono ..
        | exact Bs_cmpDigits.mono ..
        | exact Bs_subDigits.mono ..
        | exact Bs_trimmed.mono ..
        | exact Bs_wideOf.mono ..
        | exact LeO.refl ..
        | exact LeO.none ..
        | refine LeO.ite ?_ ?_
        | refine LeO.bind ?_ (fun _ => ?_)
theorem Bs_WideFloor.mono : ∀ a0 a1 a2 a3 k, LeO (Bs_WideFloor.f k a0 a1 a2 a3) (Bs_WideFloor.f (k + 1) a0 a1 a2 a3) := by
  intro a0 a1 a2 a3 k
  obtain ⟨ih0, ih1, ih2⟩ := Bs_WideFloor.mono_l k
  unfold Bs_WideFloor.f
  repeat' with_reducible first
    | exact ih0 ..
    | exact ih1 ..
    | exact ih2 ..
    | exact Bs_WideMul.mono ..
    | exact Bs_WideOf.mono ..
    | exact Bs_cmpDigits.mono ..
    | exact Bs_subDigits.mono ..
    | exact Bs_trimmed.mono ..
    | exact Bs_wideOf.mono ..
    | exact LeO.refl ..
    | exact LeO.none ..
    | refine LeO.ite ?_ ?_
    | refine LeO.bind ?_ (fun _ => ?_)
theorem Bs_WideFloor.calls (k : Nat) (a0_0 : Int) (A0_1 : Option Addr) (c0_1 : Nat) (l0_1 : List Int) (a1_0 : Int) (P1_1_ : Nat → Prop) (A1_1 : Option Addr) (c1_1 : Nat) (l1_1 : List Int) (r1 : Int) (r2 : List Int) (w : World) (hr0_1 : Kd.C (Kd.int .i64) w A0_1 l0_1.length l0_1) (hc0_1 : l0_1.length ≤ c0_1) (hs1_1 : Kd.V (Kd.int .i64) 3 w w.heap.size (fun k_ => P1_1_ k_) (.slice A1_1 l1_1.length c1_1) l1_1) (h : Bs_WideFloor.f k a0_0 l0_1 a1_0 l1_1 = some (r1, r2)) :
    Calls Tryd.prog 149 #[.agg #[.int .i64 a0_0, .slice A0_1 l0_1.length c0_1], .agg #[.int .i64 a1_0, .slice A1_1 l1_1.length c1_1]] w fun e w' => ∃ v1_ : Value, e = .returned (.agg #[.int .i64 r1, v1_]) ∧ Kd.V (Kd.int .i64) 3 w' w.heap.size (fun k_ => (P1_1_ k_ ∨ w.heap.size ≤ k_)) v1_ r2 ∧ Below w.heap.size w w' := by
  have hu135 := Tryd.underlying135
  have hfd135_1 : ∀ (x0_ x1_ : Value) (W_ : World), (Instr.field 135 (.agg #[x0_, x1_]) 1).run Tryd.prog W_ = .ok (x1_) W_ := fun _ _ _ => by kernel_rfl
  have HR0_1 := m0 hr0_1
  have HC0_1 := m0 hc0_1
  clear hr0_1 hc0_1
  have HO1_1 := m0 (show Kd.V (Kd.int .i64) 3 w w.heap.size (fun k_ => (P1_1_ k_ ∨ w.heap.size ≤ k_)) (.slice A1_1 l1_1.length c1_1) l1_1 from Kd.V_mono hs1_1 (fun k_ hk => .inl hk))
  have HB := m0 (Below.refl w.heap.size w)
  have H : (if a0_0 = 0 then (some (0, ([] : List Int))) else (if 0 ≤ (l0_1.length : Int) then (if ((l0_1.length : Int) : Int).toNat ≤ 35184372088832 then (Bs_WideFloor.l0 k (List.replicate ((l0_1.length : Int) : Int).toNat 0) (([] : List Int)) (wrap64 ((l0_1.length : Int) - 1)) a0_0 l0_1 a1_0 l1_1) else (none)) else (none))) = some (r1, r2) := h
  clear h
  by_cases c3 : a0_0 = 0
  · rw [if_pos c3] at H
    have c3b0 := beq_iff_eq.mpr c3
    have c3b1 := bne_eq_false_iff_eq.mpr c3
    clear c3
    simp only [Option.some.injEq, Prod.mk.injEq] at H
    obtain ⟨rfl, rfl⟩ := H
    go_enter Tryd.func149, Tryd.ntmps149
    go_wp2_with (first | ((with_reducible refine gate_dst (N := 2) rfl ?_); (try (refine gate_guard (by rfl) ?_; dsimp only)); refine be 2 135 #[.int .i64 a0_0, .slice A0_1 l0_1.length c0_1] ?_; intro gb545 hg w4 hbox hb; replace HO1_1 := ve HO1_1 hg hb; have BK545 := m0 hbox; have GE545 := gw w hg; replace HB := sb HB hb; clear hb hbox hg) | ((with_reducible refine gate_dst (N := 3) rfl ?_); (try (refine gate_guard (by rfl) ?_; dsimp only)); refine be 3 135 #[.int .i64 a1_0, .slice A1_1 l1_1.length c1_1] ?_; intro gb546 hg w5 hbox hb; replace HO1_1 := ve HO1_1 hg hb; have BK546 := m0 hbox; have GE546 := gw w hg; replace HB := sb HB hb; have NB545_546 := nl BK545 hg; have NB546_545 := ng (nl BK545 hg); replace BK545 := bb BK545 hb; clear hb hbox hg) | ((with_reducible refine gate_dst (N := 4) rfl ?_); (try (refine gate_guard (by rfl) ?_; dsimp only)); refine be 4 135 #[.int .i64 0, .slice none 0 0] ?_; intro gb547 hg w6 hbox hb; replace HO1_1 := ve HO1_1 hg hb; have BK547 := m0 hbox; have GE547 := gw w hg; replace HB := sb HB hb; have NB545_547 := nl BK545 hg; have NB547_545 := ng (nl BK545 hg); replace BK545 := bb BK545 hb; have NB546_547 := nl BK546 hg; have NB547_546 := ng (nl BK546 hg); replace BK546 := bb BK546 hb; clear hb hbox hg; have hnb7 := NB545_546.out; have hnc7 := NB546_545.out; have hnb8 := NB545_547.out; have hnc8 := NB547_545.out; obtain ⟨hcz9_0, hcz9_1, hfz9_0, hfz9_1⟩ := b2 BK545; have hnb10 := NB547_546.out; have hnc10 := NB546_547.out; obtain ⟨hcz11_0, hcz11_1, hfz11_0, hfz11_1⟩ := b2 BK547))
    refine bodyPost_ret (results_cell_row rfl _ _ gb547 135 #[.int .i64 0, .slice none 0 0] (0, 0) _ rfl (bq BK547.out) Tryd.underlying135 rfl (by kernel_rfl)) rfl ?_
    exact ⟨_, by first | rfl | (simp [errW_none, errW_some] <;> rfl) | (simp [*, errW_none, errW_some] <;> rfl), Kd.V_nil _ _ _ _ _, by repeat (first | (with_reducible first | exact HB.out | apply below_alloc | apply pw_below_drewN | apply below_drew1 | refine below_set ?_ GE545.out | refine below_set ?_ GE546.out | refine below_set ?_ GE547.out) | exact HB.out)⟩
  · rw [if_neg c3] at H
    have c3b0 := beq_eq_false_iff_ne.mpr c3
    have c3b1 := bne_iff_ne.mpr c3
    by_cases c12 : 0 ≤ (l0_1.length : Int)
    · rw [if_pos c12] at H
      have c12b0 := eq_true c12
      have c12b1 := decide_eq_true c12
      clear c12
      by_cases c13 : ((l0_1.length : Int) : Int).toNat ≤ 35184372088832
      · rw [if_pos c13] at H
        have c13b0 := eq_true c13
        have c13b1 := decide_eq_true c13
        clear c13
        obtain ⟨y548, hy548⟩ : ∃ y_ : List Int, y_ = (List.replicate ((l0_1.length : Int) : Int).toNat 0) := ⟨_, rfl⟩
        replace H : (Bs_WideFloor.l0 k y548 (([] : List Int)) (wrap64 ((l0_1.length : Int) - 1)) a0_0 l0_1 a1_0 l1_1) = some (r1, r2) := by first | (rw [hy548]; with_reducible exact H) | (have H2_ := (Option.bind_some _ _).symm.trans H; rw [hy548]; with_reducible exact H2_) | (have H2_ := (Option.bind_some _ _).symm.trans H; with_reducible exact H2_) | with_reducible exact H | (rw [hy548]; exact H) | exact H
        have Ny548 := m0 hy548
        clear hy548
        obtain ⟨y551, hy551⟩ : ∃ y_ : List Int, y_ = (([] : List Int)) := ⟨_, rfl⟩
        replace H : (Bs_WideFloor.l0 k y548 y551 (wrap64 ((l0_1.length : Int) - 1)) a0_0 l0_1 a1_0 l1_1) = some (r1, r2) := by first | (rw [hy551]; with_reducible exact H) | (have H2_ := (Option.bind_some _ _).symm.trans H; rw [hy551]; with_reducible exact H2_) | (have H2_ := (Option.bind_some _ _).symm.trans H; with_reducible exact H2_) | with_reducible exact H | (rw [hy551]; exact H) | exact H
        have Ny551 := m0 hy551
        clear hy551
        have H' := m0 H
        clear H
        go_enter Tryd.func149, Tryd.ntmps149
        go_wp2_with (first | ((with_reducible refine gate_dst (N := 2) rfl ?_); (try (refine gate_guard (by rfl) ?_; dsimp only)); refine be 2 135 #[.int .i64 a0_0, .slice A0_1 l0_1.length c0_1] ?_; intro gb545 hg w14 hbox hb; replace HO1_1 := ve HO1_1 hg hb; have BK545 := m0 hbox; have GE545 := gw w hg; replace HB := sb HB hb; clear hb hbox hg) | ((with_reducible refine gate_dst (N := 3) rfl ?_); (try (refine gate_guard (by rfl) ?_; dsimp only)); refine be 3 135 #[.int .i64 a1_0, .slice A1_1 l1_1.length c1_1] ?_; intro gb546 hg w15 hbox hb; replace HO1_1 := ve HO1_1 hg hb; have BK546 := m0 hbox; have GE546 := gw w hg; replace HB := sb HB hb; have NB545_546 := nl BK545 hg; have NB546_545 := ng (nl BK545 hg); replace BK545 := bb BK545 hb; clear hb hbox hg) | ((with_reducible refine gate_dst (N := 4) rfl ?_); (try (refine gate_guard (by rfl) ?_; dsimp only)); refine be 4 135 #[.int .i64 0, .slice none 0 0] ?_; intro gb547 hg w16 hbox hb; replace HO1_1 := ve HO1_1 hg hb; have BK547 := m0 hbox; have GE547 := gw w hg; replace HB := sb HB hb; have NB545_547 := nl BK545 hg; have NB547_545 := ng (nl BK545 hg); replace BK545 := bb BK545 hb; have NB546_547 := nl BK546 hg; have NB547_546 := ng (nl BK546 hg); replace BK546 := bb BK546 hb; clear hb hbox hg; have hnb17 := NB545_546.out; have hnc17 := NB546_545.out; have hnb18 := NB545_547.out; have hnc18 := NB547_545.out; obtain ⟨hcz19_0, hcz19_1, hfz19_0, hfz19_1⟩ := b2 BK545) | ((with_reducible refine gate_dst (N := 19) rfl ?_); (try (refine gate_guard (by rfl) ?_; dsimp only)); refine Kd.R_make (Kd.int .i64) _ 3 rfl (N := 19) rfl 22 _ _ rfl (l0_1.length : Int) rfl rfl Tryd.underlying22 (.int .i64 0) 8 info3 rfl (by decide) (by omega) 0 (ok := fun _ => True) (okp := fun _ => True) rfl (fun _ hk => hk) trivial (od) (Nat.le_trans (Nat.mul_le_mul_right _ (od : (l0_1.length : Int).toNat ≤ 35184372088832)) (by omega)) (Below.refl _ _) (Nat.le_refl _) ?_; intro v549 w20 ho21 hb hg_ hnew_; clear hg_ hnew_; (first | rw [← Ny548.out] at ho21 | (simp only [Int.reduceToNat] at ho21; rw [← Ny548.out] at ho21)); replace HO1_1 := m0 (Kd.V_elder' (by (with_reducible repeat (first | apply Kd.V_alloc | apply Kd.V_drewN | apply Kd.V_drew)); exact HO1_1.out) (Kd.R_base ho21) hb); have HO550 := m0 (Kd.R_lower (Kd.R_newM (M := fun k_ => (w.heap.size ≤ k_)) ho21 (below_size bz) (fun k_ h_ => h_)) (below_size bz)); replace BK545 := bb BK545 hb; replace BK546 := bb BK546 hb; replace BK547 := bb BK547 hb; replace HB := sb HB hb; clear hb ho21) | ((with_reducible refine gate_dst (N := 20) rfl ?_); (try (refine gate_guard (by rfl) ?_; dsimp only)); refine Kd.R_lit (Kd.int .i64) _ 3 ?hg (N := 20) ?hd (xs := ([] : List Int)) (inner := []) (ok := fun _ => True) (okp := fun _ => True) ?hr ?hp (fun _ hk => hk) trivial (Below.refl _ _) (Nat.le_refl _) (by simp) ?_; (case hd => rfl); (case hg => rfl); (case hr => first | (go_simp; done) | (go_simp; rfl)); (case hp => exact (Reps.none _ _)); intro v552 w22 ho23 hb hg_ hnew_; clear hg_ hnew_; (first | rw [← Ny551.out] at ho23 | (simp only [Int.reduceToNat] at ho23; rw [← Ny551.out] at ho23)); replace HO1_1 := m0 (Kd.V_elder' (by (with_reducible repeat (first | apply Kd.V_alloc | apply Kd.V_drewN | apply Kd.V_drew)); exact HO1_1.out) (Kd.R_base ho23) hb); have HO553 := m0 (Kd.R_lower (Kd.R_new' (Kd.R_newM (M := fun k_ => (w.heap.size ≤ k_)) ho23 (below_size bz) (fun k_ h_ => h_)) (Kd.R_lt (br HO550.out))) (below_size bz)); replace HO550 := m0 (Kd.R_elder' (br HO550.out) (Kd.R_base ho23) hb); replace BK545 := bb BK545 hb; replace BK546 := bb BK546 hb; replace BK547 := bb BK547 hb; replace HB := sb HB hb; clear hb ho23; obtain ⟨hcz24_0, hcz24_1, hfz24_0, hfz24_1⟩ := b2 BK545))
        go_loopg [6, 7] k (fun kq v6 v7 w' => ∃ (x5_1 : List Int) (x6_1 : List Int) (x7_1 : Int), v7 = .int .i64 x7_1 ∧ Aside0 (Bs_WideFloor.l0 kq x5_1 x6_1 x7_1 a0_0 l0_1 a1_0 l1_1 = some (r1, r2)) ∧ Aside0 (kq ≤ k) ∧ Aside0 (Kd.R (Kd.int .i64) 3 w' w.heap.size (fun k_ => (w.heap.size ≤ k_)) v549 x5_1) ∧ Aside0 (Kd.V (Kd.int .i64) 3 w' w.heap.size (fun k_ => (P1_1_ k_ ∨ w.heap.size ≤ k_) ∧ some k_ ≠ (v549 : Value).ownBlock ∧ k_ ≠ gb545 ∧ k_ ≠ gb546 ∧ k_ ≠ gb547) v6 x6_1) ∧ Aside0 (Kd.V (Kd.int .i64) 3 w' w.heap.size (fun k_ => (P1_1_ k_ ∨ w.heap.size ≤ k_) ∧ some k_ ≠ (v549 : Value).ownBlock ∧ k_ ≠ gb545 ∧ k_ ≠ gb546 ∧ k_ ≠ gb547) (.slice A1_1 l1_1.length c1_1) l1_1) ∧ Aside0 (w'.heap[gb545]? = some (.cells #[.int .i64 a0_0, (.slice A0_1 l0_1.length c0_1)] 135 (0, 0))) ∧ Aside0 (w'.heap[gb546]? = some (.cells #[.int .i64 a1_0, (.slice A1_1 l1_1.length c1_1)] 135 (0, 0))) ∧ Aside0 (w'.heap[gb547]? = some (.cells #[.int .i64 0, (.slice none 0 0)] 135 (0, 0))) ∧ Aside0 (Below w.heap.size w w'))
        case atStart => exact ⟨(y548), (y551), (wrap64 ((l0_1.length : Int) - 1)), (by first | rfl | (simp; done) | (simp [*]; done)), H', ⟨Nat.le_refl _⟩, ⟨by (with_reducible repeat (first | apply Kd.R_alloc | apply Kd.R_drewN | apply Kd.R_drew)); exact Kd.R_mono HO550.out (fun _ hk => hk.1.1)⟩, ⟨Kd.V_mono (Kd.R_V (Kd.R_types (Kd.R_types (Kd.R_types HO553.out BK545.out (by decide)) BK546.out (by decide)) BK547.out (by decide))) (fun _ hk => ⟨.inr hk.1.1.1.1.1, ⟨hk.1.1.1.2, ⟨hk.1.1.2, ⟨hk.1.2, hk.2⟩⟩⟩⟩)⟩, ⟨by (with_reducible repeat (first | apply Kd.V_alloc | apply Kd.V_drewN | apply Kd.V_drew)); exact Kd.V_mono HO1_1.out (fun _ hk => ⟨hk.1.1.1.1.1, ⟨hk.1.2, ⟨hk.1.1.1.1.2, ⟨hk.1.1.1.2, hk.1.1.2⟩⟩⟩⟩)⟩, ⟨bk BK545.out⟩, ⟨bk BK546.out⟩, ⟨bk BK547.out⟩, ⟨bz⟩⟩
        case round =>
          clear H'
          try clear hcz11_0
          try clear hcz11_1
          try clear hcz19_0
          try clear hcz19_1
          try clear hcz24_0
          try clear hcz24_1
          try clear hcz9_0
          try clear hcz9_1
          try clear hfz11_0
          try clear hfz11_1
          try clear hfz19_0
          try clear hfz19_1
          try clear hfz24_0
          try clear hfz24_1
          try clear hfz9_0
          try clear hfz9_1
          obtain ⟨x5_1, x6_1, x7_1, rfl, HA, HK1, HO_5, HO_6, HO_547001, BK545, BK546, BK547, HB⟩ := hrel
          cases gk with
          | zero => exact absurd HA.out (by simp [Bs_WideFloor.l0])
          | succ k1 =>
            have H := HA.out
            clear HA
            simp only [Bs_WideFloor.l0] at H
            by_cases c25 : x7_1 ≥ 0
            · rw [if_pos c25] at H
              have c25b0 := decide_eq_true c25
              clear c25
              by_cases c26 : 0 ≤ x7_1
              · rw [if_pos c26] at H
                have c26b0 := decide_eq_true c26
                clear c26
                by_cases c27 : x7_1 < (l0_1.length : Int)
                · rw [if_pos c27] at H
                  have c27b0 := decide_eq_true c27
                  clear c27
                  obtain ⟨y555, hy555⟩ : ∃ y_ : List Int, y_ = (([rd l0_1 x7_1] : List Int)) := ⟨_, rfl⟩
                  replace H : (if y555.length + x6_1.length < 17592186044416 then ((Bs_trimmed.f k1 (y555 ++ x6_1)).bind fun t561 => (Bs_WideFloor.l1 k1 x5_1 t561 x7_1 0 999999999 a0_0 l0_1 a1_0 l1_1)) else (none)) = some (r1, r2) := by first | (rw [hy555]; with_reducible exact H) | (have H2_ := (Option.bind_some _ _).symm.trans H; rw [hy555]; with_reducible exact H2_) | (have H2_ := (Option.bind_some _ _).symm.trans H; with_reducible exact H2_) | with_reducible exact H | (rw [hy555]; exact H) | exact H
                  have Ny555 := m0 hy555
                  clear hy555
                  by_cases c28 : y555.length + x6_1.length < 17592186044416
                  · rw [if_pos c28] at H
                    have LMc28 := m0 c28
                    clear c28
                    obtain ⟨y558, hy558⟩ : ∃ y_ : List Int, y_ = (y555 ++ x6_1) := ⟨_, rfl⟩
                    replace H : ((Bs_trimmed.f k1 y558).bind fun t561 => (Bs_WideFloor.l1 k1 x5_1 t561 x7_1 0 999999999 a0_0 l0_1 a1_0 l1_1)) = some (r1, r2) := by first | (rw [hy558]; with_reducible exact H) | (have H2_ := (Option.bind_some _ _).symm.trans H; rw [hy558]; with_reducible exact H2_) | (have H2_ := (Option.bind_some _ _).symm.trans H; with_reducible exact H2_) | with_reducible exact H | (rw [hy558]; exact H) | exact H
                    have Ny558 := m0 hy558
                    clear hy558
                    replace H := ob H
                    obtain ⟨t561, A29, H⟩ := H
                    (try dsimp only at H)
                    replace A29 := m0 A29
                    have H' := m0 H
                    clear H
                    have hnb30 := NB545_546.out
                    have hnc30 := NB546_545.out
                    have hnb31 := NB545_547.out
                    have hnc31 := NB547_545.out
                    obtain ⟨hcz32_0, hcz32_1, hfz32_0, hfz32_1⟩ := b2 BK545
                    have p554 : 0 ≤ (x7_1 : Int) := od
                    have q554 : x7_1 < (l0_1.length : Int) := od
                    obtain ⟨ad554, e554, hx554_0⟩ := Kd.at_int HR0_1.out x7_1 p554 q554
                    cases e554
                    replace hx554_0 := (HB.out.cell (World.block_lt_of_cell? w _ hx554_0)).trans hx554_0
                    replace p554 := eq_true p554
                    replace q554 := eq_true q554
                    go_wp2_with (first | ((with_reducible refine gate_dst (N := 34) rfl ?_); (try (refine gate_guard (by rfl) ?_; dsimp only)); refine Kd.R_lit (Kd.int .i64) _ 3 ?hg (N := 34) ?hd (xs := ([rd l0_1 x7_1] : List Int)) (inner := [.int .i64 (rd l0_1 x7_1)]) (ok := fun _ => True) (okp := fun _ => True) ?hr ?hp (fun _ hk => hk) trivial (Below.refl _ _) (Nat.le_refl _) (by simp) ?_; (case hd => rfl); (case hg => rfl); (case hr => first | (go_simp; done) | (go_simp; rfl)); (case hp => exact (Reps.one (show Kd.M (Kd.int .i64) _ _ _ (rd l0_1 x7_1) [.int .i64 (rd l0_1 x7_1)] from rfl) (Reps.none _ _))); intro v556 w33 ho34 hb hg_ hnew_; clear hg_ hnew_; (first | rw [← Ny555.out] at ho34 | (simp only [Int.reduceToNat] at ho34; rw [← Ny555.out] at ho34)); replace HO_6 := m0 (Kd.V_elder' (by (with_reducible repeat (first | apply Kd.V_alloc | apply Kd.V_drewN | apply Kd.V_drew)); exact HO_6.out) (Kd.R_base ho34) hb); replace HO_547001 := m0 (Kd.V_elder' (by (with_reducible repeat (first | apply Kd.V_alloc | apply Kd.V_drewN | apply Kd.V_drew)); exact HO_547001.out) (Kd.R_base ho34) hb); have HO557 := m0 (Kd.R_lower (Kd.R_new' (Kd.R_newM (M := fun k_ => (w.heap.size ≤ k_)) ho34 (below_size bz) (fun k_ h_ => h_)) (Kd.R_lt (br HO_5.out))) (below_size bz)); replace HO_5 := m0 (Kd.R_elder' (br HO_5.out) (Kd.R_base ho34) hb); replace BK545 := bb BK545 hb; replace BK546 := bb BK546 hb; replace BK547 := bb BK547 hb; replace HB := sb HB hb; clear hb ho34; obtain ⟨Ao36, co36, eo36⟩ := Kd.V_slice HO_6.out; subst eo36) | ((with_reducible refine gate_builtin (b := .append) (xs := #[.tmp 34, .tmp 35]) rfl ?_); (try (refine gate_guard (by rfl) ?_; dsimp only)); at_builtin; refine Kd.R_append_rows (Kd.int .i64) (w0 := w) w.heap.size rfl (.tmp 34) (.tmp 35) 22 3 (.int .i64 0) 8 rfl Tryd.underlying22 info3 rfl (by decide) (by omega) v556 y555 x6_1 _ _ _ (fun k_ => (w.heap.size ≤ k_) ∧ some k_ ≠ (v549 : Value).ownBlock) (fun _ => False) rfl rfl ?aO ?aR (fun _ _ h => h) (fun _ h => h.elim) ?aF ?aB ?aS ?aL ?_; (case aR => exact bc (Kd.V_reads' HO_6.out).2.2); (case aB => exact bz); (case aF => exact (fun k_ hk => ⟨(Nat.le_trans (below_size bz) hk), Kd.fresh' (Kd.R_lt (br HO_5.out)) k_ hk⟩)); (case aO => exact (by (with_reducible repeat (first | apply Kd.R_alloc | apply Kd.R_drewN | apply Kd.R_drew)); exact Kd.R_mono HO557.out (fun _ hk => ⟨hk.1.1, hk.2⟩))); (case aS => exact (below_size bz)); (case aL => have := LMc28.out; omega); intro v559 w35 ho hb hg hat; rw [← Ny558.out] at ho; have n0_ := m0 (Kd.R_after (ok := (fun k_ => (w.heap.size ≤ k_))) (br HO_5.out) hg hat); have n1_ := m0 (Kd.V_afterv (ok := (fun k_ => (P1_1_ k_ ∨ w.heap.size ≤ k_) ∧ some k_ ≠ (v549 : Value).ownBlock ∧ k_ ≠ gb545 ∧ k_ ≠ gb546 ∧ k_ ≠ gb547)) (by (with_reducible repeat (first | apply Kd.V_alloc | apply Kd.V_drewN | apply Kd.V_drew)); exact HO_6.out) hg hat); have n2_ := m0 (Kd.V_afterv (ok := (fun k_ => (P1_1_ k_ ∨ w.heap.size ≤ k_) ∧ some k_ ≠ (v549 : Value).ownBlock ∧ k_ ≠ gb545 ∧ k_ ≠ gb546 ∧ k_ ≠ gb547)) (by (with_reducible repeat (first | apply Kd.V_alloc | apply Kd.V_drewN | apply Kd.V_drew)); exact HO_547001.out) hg hat); have n3_ := m0 (blk_grown (g := gb545) (o := .cells #[.int .i64 a0_0, .slice (some ad554) l0_1.length c0_1] 135 (0, 0)) (bk BK545.out) hg (Kd.R_ne HO557.out BK545.out (by decide))); have n4_ := m0 (blk_grown (g := gb546) (o := .cells #[.int .i64 a1_0, .slice A1_1 l1_1.length c1_1] 135 (0, 0)) (bk BK546.out) hg (Kd.R_ne HO557.out BK546.out (by decide))); have n5_ := m0 (blk_grown (g := gb547) (o := .cells #[.int .i64 0, .slice none 0 0] 135 (0, 0)) (bk BK547.out) hg (Kd.R_ne HO557.out BK547.out (by decide))); have n6_ := m0 (hb); have n7_ := m0 (ho); clear HO_5; clear HO_6; clear HO_547001; clear BK545; clear BK546; clear BK547; clear HB; clear HO557; have HO_5 := n0_; have HO_6 := n1_; have HO_547001 := n2_; have BK545 := n3_; have BK546 := n4_; have BK547 := n5_; have HB := n6_; have HO560 := n7_; clear n0_ n1_ n2_ n3_ n4_ n5_ n6_ n7_; clear ho hb hg hat; obtain ⟨Ao37, co37, eo37⟩ := Kd.R_slice HO560.out; subst eo37) | ((with_reducible refine gate_callee (f := 167) rfl ?_); refine gl (some 37) Tryd.func167 #[.slice Ao37 y558.length co37] ?_; (with_reducible refine (Bs_trimmed.calls k1 (fun k_ => some k_ = (.slice Ao37 y558.length co37 : Value).ownBlock) _ _ y558 t561 _ ?side1 A29.out).mono ?_); (case side1 => exact Kd.R_V (Kd.R_tight rfl (Kd.R_types (Kd.R_types (Kd.R_types (HO560.out) BK545.out (by decide)) BK546.out (by decide)) BK547.out (by decide)))); rintro e w38 ⟨v562, rfl, ho0, hb⟩; refine ⟨_, rfl, ?_⟩; replace HO_6 := vb HO_6 hb; replace HO_547001 := vb HO_547001 hb; have HO563 := m0 (Kd.V_lower (Kd.V_mono (ok' := fun k_ => (P1_1_ k_ ∨ w.heap.size ≤ k_) ∧ some k_ ≠ (v549 : Value).ownBlock ∧ k_ ≠ gb545 ∧ k_ ≠ gb546 ∧ k_ ≠ gb547) ho0 (fun k_ hk_ => ⟨Or.elim hk_ (fun hs_ => (.inr (((Kd.R_types (Kd.R_types (Kd.R_types (HO560.out) BK545.out (by decide)) BK546.out (by decide)) BK547.out (by decide)).1 k_ hs_.symm).1.1.1.1))) (fun hn_ => (.inr (Nat.le_trans (below_size bz) hn_))), Or.elim hk_ (fun hs_ => ((Kd.R_types (Kd.R_types (Kd.R_types (HO560.out) BK545.out (by decide)) BK546.out (by decide)) BK547.out (by decide)).1 k_ hs_.symm).1.1.1.2) (fun hn_ => (Kd.fresh' (Kd.R_lt (br HO_5.out)) k_ hn_)), Or.elim hk_ (fun hs_ => ((Kd.R_types (Kd.R_types (Kd.R_types (HO560.out) BK545.out (by decide)) BK546.out (by decide)) BK547.out (by decide)).1 k_ hs_.symm).1.1.2) (fun hn_ => (Kd.freshB (g := gb545) (o := .cells #[.int .i64 a0_0, .slice (some ad554) l0_1.length c0_1] 135 (0, 0)) (bk BK545.out) k_ hn_)), Or.elim hk_ (fun hs_ => ((Kd.R_types (Kd.R_types (Kd.R_types (HO560.out) BK545.out (by decide)) BK546.out (by decide)) BK547.out (by decide)).1 k_ hs_.symm).1.2) (fun hn_ => (Kd.freshB (g := gb546) (o := .cells #[.int .i64 a1_0, .slice A1_1 l1_1.length c1_1] 135 (0, 0)) (bk BK546.out) k_ hn_)), Or.elim hk_ (fun hs_ => ((Kd.R_types (Kd.R_types (Kd.R_types (HO560.out) BK545.out (by decide)) BK546.out (by decide)) BK547.out (by decide)).1 k_ hs_.symm).2) (fun hn_ => (Kd.freshB (g := gb547) (o := .cells #[.int .i64 0, .slice none 0 0] 135 (0, 0)) (bk BK547.out) k_ hn_))⟩)) (below_size bz)); replace HO_5 := rb HO_5 hb; replace HO560 := rb HO560 hb; replace BK545 := bb BK545 hb; replace BK546 := bb BK546 hb; replace BK547 := bb BK547 hb; replace HB := sb HB hb; (try clear hb); (try clear ho0)))
                    go_loopg [8, 9] k1 (fun kq v8 v9 w' => ∃ (x8_2 : Int) (x9_2 : Int), v8 = .int .i64 x8_2 ∧ v9 = .int .i64 x9_2 ∧ Aside0 (Bs_WideFloor.l1 kq x5_1 t561 x7_1 x8_2 x9_2 a0_0 l0_1 a1_0 l1_1 = some (r1, r2)) ∧ Aside0 (kq ≤ k1) ∧ Aside0 (Kd.R (Kd.int .i64) 3 w' w.heap.size (fun k_ => (w.heap.size ≤ k_)) v549 x5_1) ∧ Aside0 (Kd.V (Kd.int .i64) 3 w' w.heap.size (fun k_ => (P1_1_ k_ ∨ w.heap.size ≤ k_) ∧ some k_ ≠ (v549 : Value).ownBlock ∧ k_ ≠ gb545 ∧ k_ ≠ gb546 ∧ k_ ≠ gb547) v562 t561) ∧ Aside0 (Kd.V (Kd.int .i64) 3 w' w.heap.size (fun k_ => (P1_1_ k_ ∨ w.heap.size ≤ k_) ∧ some k_ ≠ (v549 : Value).ownBlock ∧ k_ ≠ gb545 ∧ k_ ≠ gb546 ∧ k_ ≠ gb547) (.slice A1_1 l1_1.length c1_1) l1_1) ∧ Aside0 (w'.heap[gb545]? = some (.cells #[.int .i64 a0_0, (.slice (some ad554) l0_1.length c0_1)] 135 (0, 0))) ∧ Aside0 (w'.heap[gb546]? = some (.cells #[.int .i64 a1_0, (.slice A1_1 l1_1.length c1_1)] 135 (0, 0))) ∧ Aside0 (w'.heap[gb547]? = some (.cells #[.int .i64 0, (.slice none 0 0)] 135 (0, 0))) ∧ Aside0 (Below w.heap.size w w'))
                    case atStart => exact ⟨(0), (999999999), (by first | rfl | (simp; done) | (simp [*]; done)), (by first | rfl | (simp; done) | (simp [*]; done)), H', ⟨Nat.le_refl _⟩, ⟨by (with_reducible repeat (first | apply Kd.R_alloc | apply Kd.R_drewN | apply Kd.R_drew)); exact Kd.R_mono HO_5.out (fun _ hk => hk.1)⟩, ⟨by (with_reducible repeat (first | apply Kd.V_alloc | apply Kd.V_drewN | apply Kd.V_drew)); exact HO563.out⟩, ⟨by (with_reducible repeat (first | apply Kd.V_alloc | apply Kd.V_drewN | apply Kd.V_drew)); exact Kd.V_mono HO_547001.out (fun _ hk => ⟨hk.1.1, ⟨hk.1.2.1, ⟨hk.1.2.2.1, ⟨hk.1.2.2.2.1, hk.1.2.2.2.2⟩⟩⟩⟩)⟩, ⟨bk BK545.out⟩, ⟨bk BK546.out⟩, ⟨bk BK547.out⟩, ⟨bz⟩⟩
                    case round =>
                      clear H'
                      try clear hx5
                      try clear hcz11_0
                      try clear hcz11_1
                      try clear hcz19_0
                      try clear hcz19_1
                      try clear hcz24_0
                      try clear hcz24_1
                      try clear hcz32_0
                      try clear hcz32_1
                      try clear hcz9_0
                      try clear hcz9_1
                      try clear hfz11_0
                      try clear hfz11_1
                      try clear hfz19_0
                      try clear hfz19_1
                      try clear hfz24_0
                      try clear hfz24_1
                      try clear hfz32_0
                      try clear hfz32_1
                      try clear hfz9_0
                      try clear hfz9_1
                      try clear hx554_0
                      obtain ⟨x8_2, x9_2, rfl, rfl, HA, HK2, HO_5, HO_6, HO_547001, BK545, BK546, BK547, HB⟩ := hrel
                      cases gk with
                      | zero => exact absurd HA.out (by simp [Bs_WideFloor.l1])
                      | succ k2 =>
                        have H := HA.out
                        clear HA
                        simp only [Bs_WideFloor.l1] at H
                        by_cases c39 : x8_2 < x9_2
                        · rw [if_pos c39] at H
                          have c39b0 := decide_eq_true c39
                          clear c39
                          replace H := ob H
                          obtain ⟨⟨t564, t565⟩, A40, H⟩ := H
                          (try dsimp only at H)
                          replace A40 := m0 A40
                          replace H := ob H
                          obtain ⟨⟨t568, t569⟩, A41, H⟩ := H
                          (try dsimp only at H)
                          replace A41 := m0 A41
                          replace H := ob H
                          obtain ⟨⟨t572, t573⟩, A42, H⟩ := H
                          (try dsimp only at H)
                          replace A42 := m0 A42
                          replace H := ob H
                          obtain ⟨t576, A43, H⟩ := H
                          (try dsimp only at H)
                          replace A43 := m0 A43
                          by_cases c44 : t576 ≤ 0
                          · rw [if_pos c44] at H
                            have c44b0 := decide_eq_true c44
                            clear c44
                            have H' := m0 H
                            clear H
                            have hnb45 := NB546_545.out
                            have hnc45 := NB545_546.out
                            have hnb46 := NB546_547.out
                            have hnc46 := NB547_546.out
                            obtain ⟨hcz47_0, hcz47_1, hfz47_0, hfz47_1⟩ := b2 BK546
                            go_wp2_with (first | ((with_reducible refine gate_callee (f := 150) rfl ?_); refine gl (some 48) Tryd.func150 #[.int .i64 1, .slice A1_1 l1_1.length c1_1] ?_; (with_reducible refine (Bs_wideOf.calls k2 1 (fun k_ => ((P1_1_ k_ ∨ w.heap.size ≤ k_) ∧ (some k_ ≠ (v549 : Value).ownBlock ∧ (k_ ≠ gb545 ∧ (k_ ≠ gb546 ∧ k_ ≠ gb547))))) _ _ l1_1 t564 t565 _ ?side1 A40.out).mono ?_); (case side1 => exact HO_547001.out); rintro e w48 ⟨v566, rfl, ho0, hb⟩; refine ⟨_, rfl, ?_⟩; replace HO_6 := vb HO_6 hb; replace HO_547001 := vb HO_547001 hb; have HO567 := m0 (Kd.V_lower (Kd.V_mono (ok' := fun k_ => (P1_1_ k_ ∨ w.heap.size ≤ k_) ∧ some k_ ≠ (v549 : Value).ownBlock ∧ k_ ≠ gb545 ∧ k_ ≠ gb546 ∧ k_ ≠ gb547) ho0 (fun k_ hk_ => ⟨Or.elim hk_ (fun hs_ => hs_.1) (fun hn_ => (.inr (Nat.le_trans (below_size bz) hn_))), Or.elim hk_ (fun hs_ => hs_.2.1) (fun hn_ => (Kd.fresh' (Kd.R_lt (br HO_5.out)) k_ hn_)), Or.elim hk_ (fun hs_ => hs_.2.2.1) (fun hn_ => (Kd.freshB (g := gb545) (o := .cells #[.int .i64 a0_0, .slice (some ad554) l0_1.length c0_1] 135 (0, 0)) (bk BK545.out) k_ hn_)), Or.elim hk_ (fun hs_ => hs_.2.2.2.1) (fun hn_ => (Kd.freshB (g := gb546) (o := .cells #[.int .i64 a1_0, .slice A1_1 l1_1.length c1_1] 135 (0, 0)) (bk BK546.out) k_ hn_)), Or.elim hk_ (fun hs_ => hs_.2.2.2.2) (fun hn_ => (Kd.freshB (g := gb547) (o := .cells #[.int .i64 0, .slice none 0 0] 135 (0, 0)) (bk BK547.out) k_ hn_))⟩)) (below_size bz)); replace HO_5 := rb HO_5 hb; replace BK545 := bb BK545 hb; replace BK546 := bb BK546 hb; replace BK547 := bb BK547 hb; replace HB := sb HB hb; (try clear hb); (try clear ho0)) | ((with_reducible refine gate_callee (f := 139) rfl ?_); refine gl (some 50) Tryd.func139 #[.int .i64 (wrap64 (Int.tdiv (wrap64 ((wrap64 (x8_2 + x9_2)) + 1)) 2))] ?_; (with_reducible refine (Bs_WideOf.calls k2 (wrap64 (Int.tdiv (wrap64 ((wrap64 (x8_2 + x9_2)) + 1)) 2)) t568 t569 _ A41.out).mono ?_); rintro e w49 ⟨v570, rfl, ho0, hb⟩; refine ⟨_, rfl, ?_⟩; replace HO_6 := vb HO_6 hb; replace HO_547001 := vb HO_547001 hb; replace HO567 := vb HO567 hb; have HO571 := m0 (Kd.V_lower (Kd.V_mono (ok' := fun k_ => (P1_1_ k_ ∨ w.heap.size ≤ k_) ∧ some k_ ≠ (v549 : Value).ownBlock ∧ k_ ≠ gb545 ∧ k_ ≠ gb546 ∧ k_ ≠ gb547) ho0 (fun k_ hk_ => ⟨(.inr (Nat.le_trans (below_size bz) hk_)), (Kd.fresh' (Kd.R_lt (br HO_5.out)) k_ hk_), (Kd.freshB (g := gb545) (o := .cells #[.int .i64 a0_0, .slice (some ad554) l0_1.length c0_1] 135 (0, 0)) (bk BK545.out) k_ hk_), (Kd.freshB (g := gb546) (o := .cells #[.int .i64 a1_0, .slice A1_1 l1_1.length c1_1] 135 (0, 0)) (bk BK546.out) k_ hk_), (Kd.freshB (g := gb547) (o := .cells #[.int .i64 0, .slice none 0 0] 135 (0, 0)) (bk BK547.out) k_ hk_)⟩)) (below_size bz)); replace HO_5 := rb HO_5 hb; replace BK545 := bb BK545 hb; replace BK546 := bb BK546 hb; replace BK547 := bb BK547 hb; replace HB := sb HB hb; (try clear hb); (try clear ho0); obtain ⟨Ao50, co50, eo50⟩ := Kd.V_slice HO567.out; subst eo50; obtain ⟨Ao51, co51, eo51⟩ := Kd.V_slice HO571.out; subst eo51) | ((with_reducible refine gate_callee (f := 137) rfl ?_); refine gl (some 51) Tryd.func137 #[.agg #[.int .i64 t564, .slice Ao50 t565.length co50], .agg #[.int .i64 t568, .slice Ao51 t569.length co51]] ?_; (with_reducible refine (Bs_WideMul.calls k2 t564 _ _ t565 t568 _ _ t569 t572 t573 _ ?side1 ?side2 ?side3 ?side4 A42.out).mono ?_); (case side1 => exact bc (Kd.V_reads' HO567.out).2.2); (case side2 => exact (Kd.V_reads' HO567.out).2.1); (case side3 => exact bc (Kd.V_reads' HO571.out).2.2); (case side4 => exact (Kd.V_reads' HO571.out).2.1); rintro e w52 ⟨v574, rfl, ho0, hb⟩; refine ⟨_, rfl, ?_⟩; replace HO_6 := vb HO_6 hb; replace HO_547001 := vb HO_547001 hb; replace HO567 := vb HO567 hb; replace HO571 := vb HO571 hb; have HO575 := m0 (Kd.V_lower (Kd.V_mono (ok' := fun k_ => (P1_1_ k_ ∨ w.heap.size ≤ k_) ∧ some k_ ≠ (v549 : Value).ownBlock ∧ k_ ≠ gb545 ∧ k_ ≠ gb546 ∧ k_ ≠ gb547) ho0 (fun k_ hk_ => ⟨(.inr (Nat.le_trans (below_size bz) hk_)), (Kd.fresh' (Kd.R_lt (br HO_5.out)) k_ hk_), (Kd.freshB (g := gb545) (o := .cells #[.int .i64 a0_0, .slice (some ad554) l0_1.length c0_1] 135 (0, 0)) (bk BK545.out) k_ hk_), (Kd.freshB (g := gb546) (o := .cells #[.int .i64 a1_0, .slice A1_1 l1_1.length c1_1] 135 (0, 0)) (bk BK546.out) k_ hk_), (Kd.freshB (g := gb547) (o := .cells #[.int .i64 0, .slice none 0 0] 135 (0, 0)) (bk BK547.out) k_ hk_)⟩)) (below_size bz)); replace HO_5 := rb HO_5 hb; replace BK545 := bb BK545 hb; replace BK546 := bb BK546 hb; replace BK547 := bb BK547 hb; replace HB := sb HB hb; (try clear hb); (try clear ho0); obtain ⟨Ao53, co53, eo53⟩ := Kd.V_slice HO575.out; subst eo53; obtain ⟨Ao54, co54, eo54⟩ := Kd.V_slice HO_6.out; subst eo54) | ((with_reducible refine gate_callee (f := 152) rfl ?_); refine gl (some 54) Tryd.func152 #[.slice Ao53 t573.length co53, .slice Ao54 t561.length co54] ?_; (with_reducible refine (Bs_cmpDigits.calls k2 _ _ t573 _ _ t561 t576 _ ?side1 ?side2 ?side3 ?side4 A43.out).mono ?_); (case side1 => exact bc (Kd.V_reads' HO575.out).2.2); (case side2 => exact (Kd.V_reads' HO575.out).2.1); (case side3 => exact bc (Kd.V_reads' HO_6.out).2.2); (case side4 => exact (Kd.V_reads' HO_6.out).2.1); rintro e w' ⟨rfl, ⟨nd, rfl⟩⟩; refine ⟨_, rfl, ?_⟩))
                            go_roundg k2
                            case measure => have := HK1.out; have := HK2.out; omega
                            case rel => exact ⟨(wrap64 (Int.tdiv (wrap64 ((wrap64 (x8_2 + x9_2)) + 1)) 2)), (x9_2), (by first | rfl | (simp; done) | (simp [*]; done)), (by first | rfl | (simp; done) | (simp [*]; done)), H', ⟨by have := HK1.out; have := HK2.out; omega⟩, ⟨br HO_5.out⟩, ⟨by (with_reducible repeat (first | apply Kd.V_alloc | apply Kd.V_drewN | apply Kd.V_drew)); exact HO_6.out⟩, ⟨by (with_reducible repeat (first | apply Kd.V_alloc | apply Kd.V_drewN | apply Kd.V_drew)); exact HO_547001.out⟩, ⟨bk BK545.out⟩, ⟨bk BK546.out⟩, ⟨bk BK547.out⟩, ⟨bz⟩⟩
                          · rw [if_neg c44] at H
                            have c44b0 := decide_eq_false c44
                            clear c44
                            have H' := m0 H
                            clear H
                            have hnb55 := NB546_545.out
                            have hnc55 := NB545_546.out
                            have hnb56 := NB546_547.out
                            have hnc56 := NB547_546.out
                            obtain ⟨hcz57_0, hcz57_1, hfz57_0, hfz57_1⟩ := b2 BK546
                            go_wp2_with (first | ((with_reducible refine gate_callee (f := 150) rfl ?_); refine gl (some 48) Tryd.func150 #[.int .i64 1, .slice A1_1 l1_1.length c1_1] ?_; (with_reducible refine (Bs_wideOf.calls k2 1 (fun k_ => ((P1_1_ k_ ∨ w.heap.size ≤ k_) ∧ (some k_ ≠ (v549 : Value).ownBlock ∧ (k_ ≠ gb545 ∧ (k_ ≠ gb546 ∧ k_ ≠ gb547))))) _ _ l1_1 t564 t565 _ ?side1 A40.out).mono ?_); (case side1 => exact HO_547001.out); rintro e w58 ⟨v566, rfl, ho0, hb⟩; refine ⟨_, rfl, ?_⟩; replace HO_6 := vb HO_6 hb; replace HO_547001 := vb HO_547001 hb; have HO567 := m0 (Kd.V_lower (Kd.V_mono (ok' := fun k_ => (P1_1_ k_ ∨ w.heap.size ≤ k_) ∧ some k_ ≠ (v549 : Value).ownBlock ∧ k_ ≠ gb545 ∧ k_ ≠ gb546 ∧ k_ ≠ gb547) ho0 (fun k_ hk_ => ⟨Or.elim hk_ (fun hs_ => hs_.1) (fun hn_ => (.inr (Nat.le_trans (below_size bz) hn_))), Or.elim hk_ (fun hs_ => hs_.2.1) (fun hn_ => (Kd.fresh' (Kd.R_lt (br HO_5.out)) k_ hn_)), Or.elim hk_ (fun hs_ => hs_.2.2.1) (fun hn_ => (Kd.freshB (g := gb545) (o := .cells #[.int .i64 a0_0, .slice (some ad554) l0_1.length c0_1] 135 (0, 0)) (bk BK545.out) k_ hn_)), Or.elim hk_ (fun hs_ => hs_.2.2.2.1) (fun hn_ => (Kd.freshB (g := gb546) (o := .cells #[.int .i64 a1_0, .slice A1_1 l1_1.length c1_1] 135 (0, 0)) (bk BK546.out) k_ hn_)), Or.elim hk_ (fun hs_ => hs_.2.2.2.2) (fun hn_ => (Kd.freshB (g := gb547) (o := .cells #[.int .i64 0, .slice none 0 0] 135 (0, 0)) (bk BK547.out) k_ hn_))⟩)) (below_size bz)); replace HO_5 := rb HO_5 hb; replace BK545 := bb BK545 hb; replace BK546 := bb BK546 hb; replace BK547 := bb BK547 hb; replace HB := sb HB hb; (try clear hb); (try clear ho0)) | ((with_reducible refine gate_callee (f := 139) rfl ?_); refine gl (some 50) Tryd.func139 #[.int .i64 (wrap64 (Int.tdiv (wrap64 ((wrap64 (x8_2 + x9_2)) + 1)) 2))] ?_; (with_reducible refine (Bs_WideOf.calls k2 (wrap64 (Int.tdiv (wrap64 ((wrap64 (x8_2 + x9_2)) + 1)) 2)) t568 t569 _ A41.out).mono ?_); rintro e w59 ⟨v570, rfl, ho0, hb⟩; refine ⟨_, rfl, ?_⟩; replace HO_6 := vb HO_6 hb; replace HO_547001 := vb HO_547001 hb; replace HO567 := vb HO567 hb; have HO571 := m0 (Kd.V_lower (Kd.V_mono (ok' := fun k_ => (P1_1_ k_ ∨ w.heap.size ≤ k_) ∧ some k_ ≠ (v549 : Value).ownBlock ∧ k_ ≠ gb545 ∧ k_ ≠ gb546 ∧ k_ ≠ gb547) ho0 (fun k_ hk_ => ⟨(.inr (Nat.le_trans (below_size bz) hk_)), (Kd.fresh' (Kd.R_lt (br HO_5.out)) k_ hk_), (Kd.freshB (g := gb545) (o := .cells #[.int .i64 a0_0, .slice (some ad554) l0_1.length c0_1] 135 (0, 0)) (bk BK545.out) k_ hk_), (Kd.freshB (g := gb546) (o := .cells #[.int .i64 a1_0, .slice A1_1 l1_1.length c1_1] 135 (0, 0)) (bk BK546.out) k_ hk_), (Kd.freshB (g := gb547) (o := .cells #[.int .i64 0, .slice none 0 0] 135 (0, 0)) (bk BK547.out) k_ hk_)⟩)) (below_size bz)); replace HO_5 := rb HO_5 hb; replace BK545 := bb BK545 hb; replace BK546 := bb BK546 hb; replace BK547 := bb BK547 hb; replace HB := sb HB hb; (try clear hb); (try clear ho0); obtain ⟨Ao60, co60, eo60⟩ := Kd.V_slice HO567.out; subst eo60; obtain ⟨Ao61, co61, eo61⟩ := Kd.V_slice HO571.out; subst eo61) | ((with_reducible refine gate_callee (f := 137) rfl ?_); refine gl (some 51) Tryd.func137 #[.agg #[.int .i64 t564, .slice Ao60 t565.length co60], .agg #[.int .i64 t568, .slice Ao61 t569.length co61]] ?_; (with_reducible refine (Bs_WideMul.calls k2 t564 _ _ t565 t568 _ _ t569 t572 t573 _ ?side1 ?side2 ?side3 ?side4 A42.out).mono ?_); (case side1 => exact bc (Kd.V_reads' HO567.out).2.2); (case side2 => exact (Kd.V_reads' HO567.out).2.1); (case side3 => exact bc (Kd.V_reads' HO571.out).2.2); (case side4 => exact (Kd.V_reads' HO571.out).2.1); rintro e w62 ⟨v574, rfl, ho0, hb⟩; refine ⟨_, rfl, ?_⟩; replace HO_6 := vb HO_6 hb; replace HO_547001 := vb HO_547001 hb; replace HO567 := vb HO567 hb; replace HO571 := vb HO571 hb; have HO575 := m0 (Kd.V_lower (Kd.V_mono (ok' := fun k_ => (P1_1_ k_ ∨ w.heap.size ≤ k_) ∧ some k_ ≠ (v549 : Value).ownBlock ∧ k_ ≠ gb545 ∧ k_ ≠ gb546 ∧ k_ ≠ gb547) ho0 (fun k_ hk_ => ⟨(.inr (Nat.le_trans (below_size bz) hk_)), (Kd.fresh' (Kd.R_lt (br HO_5.out)) k_ hk_), (Kd.freshB (g := gb545) (o := .cells #[.int .i64 a0_0, .slice (some ad554) l0_1.length c0_1] 135 (0, 0)) (bk BK545.out) k_ hk_), (Kd.freshB (g := gb546) (o := .cells #[.int .i64 a1_0, .slice A1_1 l1_1.length c1_1] 135 (0, 0)) (bk BK546.out) k_ hk_), (Kd.freshB (g := gb547) (o := .cells #[.int .i64 0, .slice none 0 0] 135 (0, 0)) (bk BK547.out) k_ hk_)⟩)) (below_size bz)); replace HO_5 := rb HO_5 hb; replace BK545 := bb BK545 hb; replace BK546 := bb BK546 hb; replace BK547 := bb BK547 hb; replace HB := sb HB hb; (try clear hb); (try clear ho0); obtain ⟨Ao63, co63, eo63⟩ := Kd.V_slice HO575.out; subst eo63; obtain ⟨Ao64, co64, eo64⟩ := Kd.V_slice HO_6.out; subst eo64) | ((with_reducible refine gate_callee (f := 152) rfl ?_); refine gl (some 54) Tryd.func152 #[.slice Ao63 t573.length co63, .slice Ao64 t561.length co64] ?_; (with_reducible refine (Bs_cmpDigits.calls k2 _ _ t573 _ _ t561 t576 _ ?side1 ?side2 ?side3 ?side4 A43.out).mono ?_); (case side1 => exact bc (Kd.V_reads' HO575.out).2.2); (case side2 => exact (Kd.V_reads' HO575.out).2.1); (case side3 => exact bc (Kd.V_reads' HO_6.out).2.2); (case side4 => exact (Kd.V_reads' HO_6.out).2.1); rintro e w' ⟨rfl, ⟨nd, rfl⟩⟩; refine ⟨_, rfl, ?_⟩))
                            go_roundg k2
                            case measure => have := HK1.out; have := HK2.out; omega
                            case rel => exact ⟨(x8_2), (wrap64 ((wrap64 (Int.tdiv (wrap64 ((wrap64 (x8_2 + x9_2)) + 1)) 2)) - 1)), (by first | rfl | (simp; done) | (simp [*]; done)), (by first | rfl | (simp; done) | (simp [*]; done)), H', ⟨by have := HK1.out; have := HK2.out; omega⟩, ⟨br HO_5.out⟩, ⟨by (with_reducible repeat (first | apply Kd.V_alloc | apply Kd.V_drewN | apply Kd.V_drew)); exact HO_6.out⟩, ⟨by (with_reducible repeat (first | apply Kd.V_alloc | apply Kd.V_drewN | apply Kd.V_drew)); exact HO_547001.out⟩, ⟨bk BK545.out⟩, ⟨bk BK546.out⟩, ⟨bk BK547.out⟩, ⟨bz⟩⟩
                        · rw [if_neg c39] at H
                          have c39b0 := decide_eq_false c39
                          clear c39
                          by_cases c65 : 0 ≤ x7_1
                          · rw [if_pos c65] at H
                            have c65b0 := decide_eq_true c65
                            clear c65
                            by_cases c66 : x7_1 < (x5_1.length : Int)
                            · rw [if_pos c66] at H
                              have c66b0 := decide_eq_true c66
                              clear c66
                              obtain ⟨y577, hy577⟩ : ∃ y_ : List Int, y_ = (x5_1.set (x7_1 : Int).toNat x8_2) := ⟨_, rfl⟩
                              replace H : ((Bs_wideOf.f k2 1 l1_1).bind fun bt578 => ((Bs_WideOf.f k2 x8_2).bind fun bt582 => ((Bs_WideMul.f k2 bt578.1 bt578.2 bt582.1 bt582.2).bind fun bt586 => ((Bs_subDigits.f k2 t561 bt586.2).bind fun t590 => (Bs_WideFloor.l0 k2 y577 t590 (wrap64 (x7_1 - 1)) a0_0 l0_1 a1_0 l1_1))))) = some (r1, r2) := by first | (rw [hy577]; with_reducible exact H) | (have H2_ := (Option.bind_some _ _).symm.trans H; rw [hy577]; with_reducible exact H2_) | (have H2_ := (Option.bind_some _ _).symm.trans H; with_reducible exact H2_) | with_reducible exact H | (rw [hy577]; exact H) | exact H
                              have Ny577 := m0 hy577
                              clear hy577
                              replace H := ob H
                              obtain ⟨⟨t578, t579⟩, A68, H⟩ := H
                              (try dsimp only at H)
                              replace A68 := m0 A68
                              replace H := ob H
                              obtain ⟨⟨t582, t583⟩, A69, H⟩ := H
                              (try dsimp only at H)
                              replace A69 := m0 A69
                              replace H := ob H
                              obtain ⟨⟨t586, t587⟩, A70, H⟩ := H
                              (try dsimp only at H)
                              replace A70 := m0 A70
                              replace H := ob H
                              obtain ⟨t590, A71, H⟩ := H
                              (try dsimp only at H)
                              replace A71 := m0 A71
                              have H' := m0 H
                              clear H
                              have p67 : 0 ≤ (x7_1 : Int) := od
                              have q67 : (x7_1 : Int) < ((x5_1.length : Int) : Int) := od
                              obtain ⟨go67, co67, eo67, gb67, gl67, cl67, HG67⟩ := Kd.R_form HO_5.out (by omega)
                              (first | cases eo67 | (injection eo67 with ea_ en_ ec_; (first | subst ea_ | (injection ea_ with ea_; subst ea_)); subst ec_; clear en_))
                              have GB67 := m0 gb67
                              have GG67 := m0 HG67
                              clear gb67 gl67 HG67
                              obtain ⟨hx67_0, hf67_0⟩ := Kd.R_celln 0 HO_5.out (x7_1 : Int) p67 q67
                              replace p67 := eq_true p67
                              replace q67 := eq_true q67
                              have HP72 := Kd.R_putg HO_5.out (x7_1 : Int) x8_2
                              go_wp2_with (first | ((with_reducible refine gate_store (t := 3) (p := 62) rfl ?_); refine store_event (t := 3) (p := 62) (v := ?vo_w73) (w1 := (wr.setCell ⟨go67, (x7_1 : Int).toNat, none⟩ (.int .i64 x8_2))) ?hg ?ho ?hn ?hr ?_; (case ho => rfl); (case hg => rfl); (case hn => rfl); (case hr => first | (go_simp; done) | (go_simp; rfl)); intro w73 hw; have hg : wr.grownBy w73 (some go67) := (by rw [hw]; exact HP72.2); have hp_ : Kd.R (Kd.int .i64) 3 w73 w.heap.size (fun k_ => (w.heap.size ≤ k_)) (.slice (some ⟨go67, 0, none⟩) x5_1.length co67) y577 := (by rw [hw, Ny577.out]; exact HP72.1); clear HP72; replace HO_6 := m0 (Kd.V_afterv (v := (.slice (some ⟨go67, 0, none⟩) x5_1.length co67)) (v1 := (.slice (some ⟨go67, 0, none⟩) x5_1.length co67)) (ok := (fun k_ => (P1_1_ k_ ∨ w.heap.size ≤ k_) ∧ k_ ≠ gb545 ∧ k_ ≠ gb546 ∧ k_ ≠ gb547)) (by (with_reducible repeat (first | apply Kd.V_alloc | apply Kd.V_drewN | apply Kd.V_drew)); exact Kd.V_mono HO_6.out (fun _ hk => ⟨⟨hk.1, ⟨hk.2.2.1, ⟨hk.2.2.2.1, hk.2.2.2.2⟩⟩⟩, hk.2.1⟩)) hg (.inl rfl)); replace HO_547001 := m0 (Kd.V_afterv (v := (.slice (some ⟨go67, 0, none⟩) x5_1.length co67)) (v1 := (.slice (some ⟨go67, 0, none⟩) x5_1.length co67)) (ok := (fun k_ => (P1_1_ k_ ∨ w.heap.size ≤ k_) ∧ k_ ≠ gb545 ∧ k_ ≠ gb546 ∧ k_ ≠ gb547)) (by (with_reducible repeat (first | apply Kd.V_alloc | apply Kd.V_drewN | apply Kd.V_drew)); exact Kd.V_mono HO_547001.out (fun _ hk => ⟨⟨hk.1, ⟨hk.2.2.1, ⟨hk.2.2.2.1, hk.2.2.2.2⟩⟩⟩, hk.2.1⟩)) hg (.inl rfl)); replace BK545 := m0 (blk_grown (g := gb545) (o := .cells #[.int .i64 a0_0, .slice (some ad554) l0_1.length c0_1] 135 (0, 0)) (bk BK545.out) hg (Kd.R_ne HO_5.out BK545.out (by decide))); replace BK546 := m0 (blk_grown (g := gb546) (o := .cells #[.int .i64 a1_0, .slice A1_1 l1_1.length c1_1] 135 (0, 0)) (bk BK546.out) hg (Kd.R_ne HO_5.out BK546.out (by decide))); replace BK547 := m0 (blk_grown (g := gb547) (o := .cells #[.int .i64 0, .slice none 0 0] 135 (0, 0)) (bk BK547.out) hg (Kd.R_ne HO_5.out BK547.out (by decide))); replace HO_5 := m0 (hp_); replace HB := m0 ((by rw [hw]; exact below_set (HB.out) GB67.out : Below w.heap.size w w73)); clear hg hw hp_; have hnb74 := NB546_545.out; have hnc74 := NB545_546.out; have hnb75 := NB546_547.out; have hnc75 := NB547_546.out; obtain ⟨hcz76_0, hcz76_1, hfz76_0, hfz76_1⟩ := b2 BK546) | ((with_reducible refine gate_callee (f := 150) rfl ?_); refine gl (some 66) Tryd.func150 #[.int .i64 1, .slice A1_1 l1_1.length c1_1] ?_; (with_reducible refine (Bs_wideOf.calls k2 1 (fun k_ => (((P1_1_ k_ ∨ w.heap.size ≤ k_) ∧ (k_ ≠ gb545 ∧ (k_ ≠ gb546 ∧ k_ ≠ gb547))) ∧ some k_ ≠ (.slice (some ⟨go67, 0, none⟩) x5_1.length co67 : Value).ownBlock)) _ _ l1_1 t578 t579 _ ?side1 A68.out).mono ?_); (case side1 => exact HO_547001.out); rintro e w77 ⟨v580, rfl, ho0, hb⟩; refine ⟨_, rfl, ?_⟩; replace HO_6 := vb HO_6 hb; replace HO_547001 := vb HO_547001 hb; have HO581 := m0 (Kd.V_lower (Kd.V_mono (ok' := fun k_ => (P1_1_ k_ ∨ w.heap.size ≤ k_) ∧ some k_ ≠ (.slice (some ⟨go67, 0, none⟩) x5_1.length co67 : Value).ownBlock ∧ k_ ≠ gb545 ∧ k_ ≠ gb546 ∧ k_ ≠ gb547) ho0 (fun k_ hk_ => ⟨Or.elim hk_ (fun hs_ => hs_.1.1) (fun hn_ => (.inr (Nat.le_trans (below_size bz) hn_))), Or.elim hk_ (fun hs_ => hs_.2) (fun hn_ => (Kd.fresh' (Kd.R_lt (br HO_5.out)) k_ hn_)), Or.elim hk_ (fun hs_ => hs_.1.2.1) (fun hn_ => (Kd.freshB (g := gb545) (o := .cells #[.int .i64 a0_0, .slice (some ad554) l0_1.length c0_1] 135 (0, 0)) (bk BK545.out) k_ hn_)), Or.elim hk_ (fun hs_ => hs_.1.2.2.1) (fun hn_ => (Kd.freshB (g := gb546) (o := .cells #[.int .i64 a1_0, .slice A1_1 l1_1.length c1_1] 135 (0, 0)) (bk BK546.out) k_ hn_)), Or.elim hk_ (fun hs_ => hs_.1.2.2.2) (fun hn_ => (Kd.freshB (g := gb547) (o := .cells #[.int .i64 0, .slice none 0 0] 135 (0, 0)) (bk BK547.out) k_ hn_))⟩)) (below_size bz)); replace HO_5 := rb HO_5 hb; replace BK545 := bb BK545 hb; replace BK546 := bb BK546 hb; replace BK547 := bb BK547 hb; replace HB := sb HB hb; (try clear hb); (try clear ho0)) | ((with_reducible refine gate_callee (f := 139) rfl ?_); refine gl (some 68) Tryd.func139 #[.int .i64 x8_2] ?_; (with_reducible refine (Bs_WideOf.calls k2 x8_2 t582 t583 _ A69.out).mono ?_); rintro e w78 ⟨v584, rfl, ho0, hb⟩; refine ⟨_, rfl, ?_⟩; replace HO_6 := vb HO_6 hb; replace HO_547001 := vb HO_547001 hb; replace HO581 := vb HO581 hb; have HO585 := m0 (Kd.V_lower (Kd.V_mono (ok' := fun k_ => (P1_1_ k_ ∨ w.heap.size ≤ k_) ∧ some k_ ≠ (.slice (some ⟨go67, 0, none⟩) x5_1.length co67 : Value).ownBlock ∧ k_ ≠ gb545 ∧ k_ ≠ gb546 ∧ k_ ≠ gb547) ho0 (fun k_ hk_ => ⟨(.inr (Nat.le_trans (below_size bz) hk_)), (Kd.fresh' (Kd.R_lt (br HO_5.out)) k_ hk_), (Kd.freshB (g := gb545) (o := .cells #[.int .i64 a0_0, .slice (some ad554) l0_1.length c0_1] 135 (0, 0)) (bk BK545.out) k_ hk_), (Kd.freshB (g := gb546) (o := .cells #[.int .i64 a1_0, .slice A1_1 l1_1.length c1_1] 135 (0, 0)) (bk BK546.out) k_ hk_), (Kd.freshB (g := gb547) (o := .cells #[.int .i64 0, .slice none 0 0] 135 (0, 0)) (bk BK547.out) k_ hk_)⟩)) (below_size bz)); replace HO_5 := rb HO_5 hb; replace BK545 := bb BK545 hb; replace BK546 := bb BK546 hb; replace BK547 := bb BK547 hb; replace HB := sb HB hb; (try clear hb); (try clear ho0); obtain ⟨Ao79, co79, eo79⟩ := Kd.V_slice HO581.out; subst eo79; obtain ⟨Ao80, co80, eo80⟩ := Kd.V_slice HO585.out; subst eo80) | ((with_reducible refine gate_callee (f := 137) rfl ?_); refine gl (some 69) Tryd.func137 #[.agg #[.int .i64 t578, .slice Ao79 t579.length co79], .agg #[.int .i64 t582, .slice Ao80 t583.length co80]] ?_; (with_reducible refine (Bs_WideMul.calls k2 t578 _ _ t579 t582 _ _ t583 t586 t587 _ ?side1 ?side2 ?side3 ?side4 A70.out).mono ?_); (case side1 => exact bc (Kd.V_reads' HO581.out).2.2); (case side2 => exact (Kd.V_reads' HO581.out).2.1); (case side3 => exact bc (Kd.V_reads' HO585.out).2.2); (case side4 => exact (Kd.V_reads' HO585.out).2.1); rintro e w81 ⟨v588, rfl, ho0, hb⟩; refine ⟨_, rfl, ?_⟩; replace HO_6 := vb HO_6 hb; replace HO_547001 := vb HO_547001 hb; replace HO581 := vb HO581 hb; replace HO585 := vb HO585 hb; have HO589 := m0 (Kd.V_lower (Kd.V_mono (ok' := fun k_ => (P1_1_ k_ ∨ w.heap.size ≤ k_) ∧ some k_ ≠ (.slice (some ⟨go67, 0, none⟩) x5_1.length co67 : Value).ownBlock ∧ k_ ≠ gb545 ∧ k_ ≠ gb546 ∧ k_ ≠ gb547) ho0 (fun k_ hk_ => ⟨(.inr (Nat.le_trans (below_size bz) hk_)), (Kd.fresh' (Kd.R_lt (br HO_5.out)) k_ hk_), (Kd.freshB (g := gb545) (o := .cells #[.int .i64 a0_0, .slice (some ad554) l0_1.length c0_1] 135 (0, 0)) (bk BK545.out) k_ hk_), (Kd.freshB (g := gb546) (o := .cells #[.int .i64 a1_0, .slice A1_1 l1_1.length c1_1] 135 (0, 0)) (bk BK546.out) k_ hk_), (Kd.freshB (g := gb547) (o := .cells #[.int .i64 0, .slice none 0 0] 135 (0, 0)) (bk BK547.out) k_ hk_)⟩)) (below_size bz)); replace HO_5 := rb HO_5 hb; replace BK545 := bb BK545 hb; replace BK546 := bb BK546 hb; replace BK547 := bb BK547 hb; replace HB := sb HB hb; (try clear hb); (try clear ho0); obtain ⟨Ao82, co82, eo82⟩ := Kd.V_slice HO_6.out; subst eo82; obtain ⟨Ao83, co83, eo83⟩ := Kd.V_slice HO589.out; subst eo83) | ((with_reducible refine gate_callee (f := 153) rfl ?_); refine gl (some 71) Tryd.func153 #[.slice Ao82 t561.length co82, .slice Ao83 t587.length co83] ?_; (with_reducible refine (Bs_subDigits.calls k2 _ _ t561 _ _ t587 t590 _ ?side1 ?side2 ?side3 ?side4 A71.out).mono ?_); (case side1 => exact bc (Kd.V_reads' HO_6.out).2.2); (case side2 => exact (Kd.V_reads' HO_6.out).2.1); (case side3 => exact bc (Kd.V_reads' HO589.out).2.2); (case side4 => exact (Kd.V_reads' HO589.out).2.1); rintro e w84 ⟨v591, rfl, ho0, hb⟩; refine ⟨_, rfl, ?_⟩; replace HO_6 := vb HO_6 hb; replace HO_547001 := vb HO_547001 hb; replace HO581 := vb HO581 hb; replace HO585 := vb HO585 hb; replace HO589 := vb HO589 hb; have HO592 := m0 (Kd.V_lower (Kd.V_mono (ok' := fun k_ => (P1_1_ k_ ∨ w.heap.size ≤ k_) ∧ some k_ ≠ (.slice (some ⟨go67, 0, none⟩) x5_1.length co67 : Value).ownBlock ∧ k_ ≠ gb545 ∧ k_ ≠ gb546 ∧ k_ ≠ gb547) ho0 (fun k_ hk_ => ⟨(.inr (Nat.le_trans (below_size bz) hk_)), (Kd.fresh' (Kd.R_lt (br HO_5.out)) k_ hk_), (Kd.freshB (g := gb545) (o := .cells #[.int .i64 a0_0, .slice (some ad554) l0_1.length c0_1] 135 (0, 0)) (bk BK545.out) k_ hk_), (Kd.freshB (g := gb546) (o := .cells #[.int .i64 a1_0, .slice A1_1 l1_1.length c1_1] 135 (0, 0)) (bk BK546.out) k_ hk_), (Kd.freshB (g := gb547) (o := .cells #[.int .i64 0, .slice none 0 0] 135 (0, 0)) (bk BK547.out) k_ hk_)⟩)) (below_size bz)); replace HO_5 := rb HO_5 hb; replace BK545 := bb BK545 hb; replace BK546 := bb BK546 hb; replace BK547 := bb BK547 hb; replace HB := sb HB hb; (try clear hb); (try clear ho0)))
                              go_roundg k2
                              case measure => have := HK1.out; have := HK2.out; omega
                              case rel => exact ⟨(y577), (t590), (wrap64 (x7_1 - 1)), (by first | rfl | (simp; done) | (simp [*]; done)), H', ⟨by have := HK1.out; have := HK2.out; omega⟩, ⟨br HO_5.out⟩, ⟨by (with_reducible repeat (first | apply Kd.V_alloc | apply Kd.V_drewN | apply Kd.V_drew)); exact HO592.out⟩, ⟨by (with_reducible repeat (first | apply Kd.V_alloc | apply Kd.V_drewN | apply Kd.V_drew)); exact Kd.V_mono HO_547001.out (fun _ hk => ⟨hk.1.1, ⟨hk.2, ⟨hk.1.2.1, ⟨hk.1.2.2.1, hk.1.2.2.2⟩⟩⟩⟩)⟩, ⟨bk BK545.out⟩, ⟨bk BK546.out⟩, ⟨bk BK547.out⟩, ⟨bz⟩⟩
                            · rw [if_neg c66] at H
                              exact absurd H (by simp)
                          · rw [if_neg c65] at H
                            exact absurd H (by simp)
                  · rw [if_neg c28] at H
                    exact absurd H (by simp)
                · rw [if_neg c27] at H
                  exact absurd H (by simp)
              · rw [if_neg c26] at H
                exact absurd H (by simp)
            · rw [if_neg c25] at H
              have c25b0 := decide_eq_false c25
              clear c25
              replace H := ob H
              obtain ⟨⟨t593, t594⟩, A85, H⟩ := H
              (try dsimp only at H)
              replace A85 := m0 A85
              have HC86 := m0 H
              clear H
              have hnb87 := NB545_546.out
              have hnc87 := NB546_545.out
              have hnb88 := NB545_547.out
              have hnc88 := NB547_545.out
              obtain ⟨hcz89_0, hcz89_1, hfz89_0, hfz89_1⟩ := b2 BK545
              obtain ⟨Ao90, co90, eo90⟩ := Kd.R_slice HO_5.out
              subst eo90
              go_upto_region 17 with (first | ((with_reducible refine gate_callee (f := 150) rfl ?_); refine gl (some 75) Tryd.func150 #[.int .i64 a0_0, .slice Ao90 x5_1.length co90] ?_; (with_reducible refine (Bs_wideOf.calls k1 a0_0 (fun k_ => some k_ = (.slice Ao90 x5_1.length co90 : Value).ownBlock) _ _ x5_1 t593 t594 _ ?side1 A85.out).mono ?_); (case side1 => exact Kd.R_V (Kd.R_tight rfl (Kd.R_types (Kd.R_types (Kd.R_types (HO_5.out) BK545.out (by decide)) BK546.out (by decide)) BK547.out (by decide)))); rintro e w91 ⟨v595, rfl, ho0, hb⟩; refine ⟨_, rfl, ?_⟩; replace HO_6 := vb HO_6 hb; replace HO_547001 := vb HO_547001 hb; have HO596 := m0 (Kd.V_lower (Kd.V_mono (ok' := fun k_ => (P1_1_ k_ ∨ w.heap.size ≤ k_) ∧ k_ ≠ gb545 ∧ k_ ≠ gb546 ∧ k_ ≠ gb547) ho0 (fun k_ hk_ => ⟨Or.elim hk_ (fun hs_ => (.inr (((Kd.R_types (Kd.R_types (Kd.R_types (HO_5.out) BK545.out (by decide)) BK546.out (by decide)) BK547.out (by decide)).1 k_ hs_.symm).1.1.1))) (fun hn_ => (.inr (Nat.le_trans (below_size bz) hn_))), Or.elim hk_ (fun hs_ => ((Kd.R_types (Kd.R_types (Kd.R_types (HO_5.out) BK545.out (by decide)) BK546.out (by decide)) BK547.out (by decide)).1 k_ hs_.symm).1.1.2) (fun hn_ => (Kd.freshB (g := gb545) (o := .cells #[.int .i64 a0_0, .slice A0_1 l0_1.length c0_1] 135 (0, 0)) (bk BK545.out) k_ hn_)), Or.elim hk_ (fun hs_ => ((Kd.R_types (Kd.R_types (Kd.R_types (HO_5.out) BK545.out (by decide)) BK546.out (by decide)) BK547.out (by decide)).1 k_ hs_.symm).1.2) (fun hn_ => (Kd.freshB (g := gb546) (o := .cells #[.int .i64 a1_0, .slice A1_1 l1_1.length c1_1] 135 (0, 0)) (bk BK546.out) k_ hn_)), Or.elim hk_ (fun hs_ => ((Kd.R_types (Kd.R_types (Kd.R_types (HO_5.out) BK545.out (by decide)) BK546.out (by decide)) BK547.out (by decide)).1 k_ hs_.symm).2) (fun hn_ => (Kd.freshB (g := gb547) (o := .cells #[.int .i64 0, .slice none 0 0] 135 (0, 0)) (bk BK547.out) k_ hn_))⟩)) (below_size bz)); replace HO_5 := rb HO_5 hb; replace BK545 := bb BK545 hb; replace BK546 := bb BK546 hb; replace BK547 := bb BK547 hb; replace HB := sb HB hb; (try clear hb); (try clear ho0)) | ((with_reducible refine gate_dst (N := 11) rfl ?_); (try (refine gate_guard (by rfl) ?_; dsimp only)); refine be 11 135 #[.int .i64 0, .slice none 0 0] ?_; intro gb597 hg w92 hbox hb; replace HO_5 := rb HO_5 hb; replace HO_6 := ve HO_6 hg hb; replace HO_547001 := ve HO_547001 hg hb; replace HO596 := ve HO596 hg hb; have BK597 := m0 hbox; have GE597 := gw w hg; replace HB := sb HB hb; have NB545_597 := nl BK545 hg; have NB597_545 := ng (nl BK545 hg); replace BK545 := bb BK545 hb; have NB546_597 := nl BK546 hg; have NB597_546 := ng (nl BK546 hg); replace BK546 := bb BK546 hb; have NB547_597 := nl BK547 hg; have NB597_547 := ng (nl BK547 hg); replace BK547 := bb BK547 hb; clear hb hbox hg; have hnb93 := NB597_545.out; have hnc93 := NB545_597.out; have hnb94 := NB597_546.out; have hnc94 := NB546_597.out; have hnb95 := NB597_547.out; have hnc95 := NB547_597.out; obtain ⟨hcz96_0, hcz96_1, hfz96_0, hfz96_1⟩ := b2 BK597; obtain ⟨Ao97, co97, eo97⟩ := Kd.V_slice HO596.out; subst eo97))
              (try simp only [Act.put, List.setIfInBounds_toArray, List.set_cons_zero, List.set_cons_succ])
              go_cut [83] (fun v83 wc => ∃ (kq : Nat) (x83_85 : Bool), v83 = .bool x83_85 ∧ Aside0 (Bs_WideFloor.j2 kq x83_85 t593 t594 = some (r1, r2)) ∧ Aside0 (kq ≤ k1) ∧ Aside0 (Kd.V (Kd.int .i64) 3 wc w.heap.size (fun k_ => (P1_1_ k_ ∨ w.heap.size ≤ k_) ∧ k_ ≠ gb545 ∧ k_ ≠ gb546 ∧ k_ ≠ gb547 ∧ k_ ≠ gb597) (.slice A1_1 l1_1.length c1_1) l1_1) ∧ Aside0 (Kd.V (Kd.int .i64) 3 wc w.heap.size (fun k_ => (P1_1_ k_ ∨ w.heap.size ≤ k_) ∧ k_ ≠ gb545 ∧ k_ ≠ gb546 ∧ k_ ≠ gb547 ∧ k_ ≠ gb597) (.slice Ao97 t594.length co97) t594) ∧ Aside0 (wc.heap[gb545]? = some (.cells #[.int .i64 a0_0, (.slice A0_1 l0_1.length c0_1)] 135 (0, 0))) ∧ Aside0 (wc.heap[gb546]? = some (.cells #[.int .i64 a1_0, (.slice A1_1 l1_1.length c1_1)] 135 (0, 0))) ∧ Aside0 (wc.heap[gb547]? = some (.cells #[.int .i64 0, (.slice none 0 0)] 135 (0, 0))) ∧ Aside0 (wc.heap[gb597]? = some (.cells #[.int .i64 t593, (.slice Ao97 t594.length co97)] 135 (0, 0))) ∧ Aside0 (Below w.heap.size w wc))
              case first =>
                have H := HC86.out
                clear HC86
                by_cases c98 : a0_0 < 0
                · rw [if_pos c98] at H
                  have c98b0 := decide_eq_true c98
                  clear c98
                  (first | rw [c98b0] | (simp only [i64_w, i32_w]; rw [c98b0]) | skip)
                  have H' := m0 H
                  clear H
                  have hnb99 := NB545_546.out
                  have hnc99 := NB546_545.out
                  have hnb100 := NB545_547.out
                  have hnc100 := NB547_545.out
                  have hnb101 := NB545_597.out
                  have hnc101 := NB597_545.out
                  obtain ⟨hcz102_0, hcz102_1, hfz102_0, hfz102_1⟩ := b2 BK545
                  obtain ⟨Ao103, co103, eo103⟩ := Kd.V_slice HO_6.out
                  subst eo103
                  go_wp2
                  go_meet
                  case rel => exact ⟨_, (decide ((x6_1.length : Int) > 0)), (by first | rfl | (simp; done) | (simp [*]; done)), H', ⟨by have := HK1.out; first | omega | exact Nat.le_refl _⟩, ⟨by (with_reducible repeat (first | apply Kd.V_alloc | apply Kd.V_drewN | apply Kd.V_drew)); exact Kd.V_mono (Kd.V_far (p := ⟨gb597, 1, none⟩) (Kd.V_far (p := ⟨gb597, 0, none⟩) (Kd.V_mono HO_547001.out (fun k_ hk => (⟨hk, hk.2⟩ : _ ∧ k_ ≠ gb597))) (fun _ hk => hk.2) (.int .i64 t593)) (fun _ hk => hk.2) (.slice Ao97 t594.length co97)) (fun _ hk => ⟨hk.1.1.1, ⟨hk.1.1.2.2.1, ⟨hk.1.1.2.2.2.1, ⟨hk.1.1.2.2.2.2, hk.1.2⟩⟩⟩⟩)⟩, ⟨by (with_reducible repeat (first | apply Kd.V_alloc | apply Kd.V_drewN | apply Kd.V_drew)); exact Kd.V_mono (Kd.V_far (p := ⟨gb597, 1, none⟩) (Kd.V_far (p := ⟨gb597, 0, none⟩) (Kd.V_mono HO596.out (fun k_ hk => (⟨hk, hk.2⟩ : _ ∧ k_ ≠ gb597))) (fun _ hk => hk.2) (.int .i64 t593)) (fun _ hk => hk.2) (.slice Ao97 t594.length co97)) (fun _ hk => ⟨hk.1.1.1, ⟨hk.1.1.2.1, ⟨hk.1.1.2.2.1, ⟨hk.1.1.2.2.2, hk.1.2⟩⟩⟩⟩)⟩, ⟨bq BK545.out⟩, ⟨bq BK546.out⟩, ⟨bq BK547.out⟩, ⟨bq BK597.out⟩, ⟨bz⟩⟩
                · rw [if_neg c98] at H
                  have c98b0 := decide_eq_false c98
                  clear c98
                  (first | rw [c98b0] | (simp only [i64_w, i32_w]; rw [c98b0]) | skip)
                  have H' := m0 H
                  clear H
                  have hnb104 := NB545_546.out
                  have hnc104 := NB546_545.out
                  have hnb105 := NB545_547.out
                  have hnc105 := NB547_545.out
                  have hnb106 := NB545_597.out
                  have hnc106 := NB597_545.out
                  obtain ⟨hcz107_0, hcz107_1, hfz107_0, hfz107_1⟩ := b2 BK545
                  go_wp2
                  go_meet
                  case rel => exact ⟨_, (false), (by first | rfl | (simp; done) | (simp [*]; done)), H', ⟨by have := HK1.out; first | omega | exact Nat.le_refl _⟩, ⟨by (with_reducible repeat (first | apply Kd.V_alloc | apply Kd.V_drewN | apply Kd.V_drew)); exact Kd.V_mono (Kd.V_far (p := ⟨gb597, 1, none⟩) (Kd.V_far (p := ⟨gb597, 0, none⟩) (Kd.V_mono HO_547001.out (fun k_ hk => (⟨hk, hk.2⟩ : _ ∧ k_ ≠ gb597))) (fun _ hk => hk.2) (.int .i64 t593)) (fun _ hk => hk.2) (.slice Ao97 t594.length co97)) (fun _ hk => ⟨hk.1.1.1, ⟨hk.1.1.2.2.1, ⟨hk.1.1.2.2.2.1, ⟨hk.1.1.2.2.2.2, hk.1.2⟩⟩⟩⟩)⟩, ⟨by (with_reducible repeat (first | apply Kd.V_alloc | apply Kd.V_drewN | apply Kd.V_drew)); exact Kd.V_mono (Kd.V_far (p := ⟨gb597, 1, none⟩) (Kd.V_far (p := ⟨gb597, 0, none⟩) (Kd.V_mono HO596.out (fun k_ hk => (⟨hk, hk.2⟩ : _ ∧ k_ ≠ gb597))) (fun _ hk => hk.2) (.int .i64 t593)) (fun _ hk => hk.2) (.slice Ao97 t594.length co97)) (fun _ hk => ⟨hk.1.1.1, ⟨hk.1.1.2.1, ⟨hk.1.1.2.2.1, ⟨hk.1.1.2.2.2, hk.1.2⟩⟩⟩⟩)⟩, ⟨bq BK545.out⟩, ⟨bq BK546.out⟩, ⟨bq BK547.out⟩, ⟨bq BK597.out⟩, ⟨bz⟩⟩
              case rest =>
                clear HC86
                try clear hx5
                try clear hx6
                try clear hf6
                try clear hx55
                try clear hx67
                try clear hf67
                try clear hcz102_0
                try clear hcz102_1
                try clear hcz107_0
                try clear hcz107_1
                try clear hcz11_0
                try clear hcz11_1
                try clear hcz19_0
                try clear hcz19_1
                try clear hcz24_0
                try clear hcz24_1
                try clear hcz32_0
                try clear hcz32_1
                try clear hcz47_0
                try clear hcz47_1
                try clear hcz57_0
                try clear hcz57_1
                try clear hcz76_0
                try clear hcz76_1
                try clear hcz89_0
                try clear hcz89_1
                try clear hcz96_0
                try clear hcz96_1
                try clear hcz9_0
                try clear hcz9_1
                try clear hfz102_0
                try clear hfz102_1
                try clear hfz107_0
                try clear hfz107_1
                try clear hfz11_0
                try clear hfz11_1
                try clear hfz19_0
                try clear hfz19_1
                try clear hfz24_0
                try clear hfz24_1
                try clear hfz32_0
                try clear hfz32_1
                try clear hfz47_0
                try clear hfz47_1
                try clear hfz57_0
                try clear hfz57_1
                try clear hfz76_0
                try clear hfz76_1
                try clear hfz89_0
                try clear hfz89_1
                try clear hfz96_0
                try clear hfz96_1
                try clear hfz9_0
                try clear hfz9_1
                try clear hx554_0
                try clear hx67_0
                obtain ⟨kq, x83_85, rfl, HA, HJ85, HO_547001, HO_598001, BK545, BK546, BK547, BK597, HB⟩ := hcut
                cases kq with
                | zero => exact absurd HA.out (by simp [Bs_WideFloor.j2])
                | succ kj85 =>
                  have H := HA.out
                  clear HA
                  simp only [Bs_WideFloor.j2] at H
                  by_cases c108 : x83_85 = true
                  · subst c108
                    rw [if_pos rfl] at H
                    exact absurd H (by simp)
                  · replace c108 := Bool.eq_false_iff.mpr c108
                    subst c108
                    rw [if_neg (show ¬ (false = true) by decide)] at H
                    simp only [Option.some.injEq, Prod.mk.injEq] at H
                    obtain ⟨rfl, rfl⟩ := H
                    have hnb109 := NB597_545.out
                    have hnc109 := NB545_597.out
                    have hnb110 := NB597_546.out
                    have hnc110 := NB546_597.out
                    have hnb111 := NB597_547.out
                    have hnc111 := NB547_597.out
                    obtain ⟨_, _, _, _⟩ := b2 BK597
                    have hnb113 := NB547_545.out
                    have hnc113 := NB545_547.out
                    have hnb114 := NB547_546.out
                    have hnc114 := NB546_547.out
                    obtain ⟨_, _, _, _⟩ := b2 BK547
                    go_wp2
                    refine bodyPost_ret (results_cell_row rfl _ _ gb547 135 #[.int .i64 t593, .slice Ao97 t594.length co97] (0, 0) _ rfl (bq BK547.out) Tryd.underlying135 rfl (by kernel_rfl)) rfl ?_
                    exact ⟨_, by first | rfl | (simp [errW_none, errW_some] <;> rfl) | (simp [*, errW_none, errW_some] <;> rfl), by (with_reducible repeat (first | apply Kd.V_alloc | apply Kd.V_drewN | apply Kd.V_drew)); exact Kd.V_mono (Kd.V_far (p := ⟨gb547, 1, none⟩) (Kd.V_far (p := ⟨gb547, 0, none⟩) (Kd.V_mono HO_598001.out (fun k_ hk => (⟨hk, hk.2.2.2.1⟩ : _ ∧ k_ ≠ gb547))) (fun _ hk => hk.2) (.int .i64 t593)) (fun _ hk => hk.2) (.slice Ao97 t594.length co97)) (fun _ hk => hk.1.1), by repeat (first | (with_reducible first | exact HB.out | apply below_alloc | apply pw_below_drewN | apply below_drew1 | refine below_set ?_ GE545.out | refine below_set ?_ GE546.out | refine below_set ?_ GE547.out | refine below_set ?_ GE597.out) | exact HB.out)⟩
      · rw [if_neg c13] at H
        exact absurd H (by simp)
    · rw [if_neg c12] at H
      exact absurd H (by simp)
end
section
def Bs_WideNeg.f (a0_0 : Int) (l0_1 : List Int) : Option (Int × List Int) := some (wrap64 (-a0_0), l0_1)
theorem Bs_WideNeg.calls (a0_0 : Int) (P0_1_ : Nat → Prop) (A0_1 : Option Addr) (c0_1 : Nat) (l0_1 : List Int) (r1 : Int) (r2 : List Int) (w : World) (hs0_1 : Kd.V (Kd.int .i64) 3 w w.heap.size (fun k_ => P0_1_ k_) (.slice A0_1 l0_1.length c0_1) l0_1) (h : Bs_WideNeg.f a0_0 l0_1 = some (r1, r2)) :
  Calls Tryd.prog 146 #[.agg #[.int .i64 a0_0, .slice A0_1 l0_1.length c0_1]] w fun e w' => ∃ v1_ : Value, e = .returned (.agg #[.int .i64 r1, v1_]) ∧ Kd.V (Kd.int .i64) 3 w' w.heap.size (fun k_ => (P0_1_ k_ ∨ w.heap.size ≤ k_)) v1_ r2 ∧ Below w.heap.size w w' := by
 have hu135 := Tryd.underlying135
 have HO0_1 := m0 (show Kd.V (Kd.int .i64) 3 w w.heap.size (fun k_ => (P0_1_ k_ ∨ w.heap.size ≤ k_)) (.slice A0_1 l0_1.length c0_1) l0_1 from Kd.V_mono hs0_1 (fun k_ hk => .inl hk))
 have HB := m0 (Below.refl w.heap.size w)
 have H : (some (wrap64 (-a0_0), l0_1)) = some (r1, r2) := h
 clear h
 simp only [Option.some.injEq, Prod.mk.injEq] at H
 obtain ⟨rfl, rfl⟩ := H
 go_enter Tryd.func146, Tryd.ntmps146
 go_wp2_with (first | ((with_reducible refine gate_dst (N := 1) rfl ?_); refine be 1 135 #[.int .i64 a0_0, .slice A0_1 l0_1.length c0_1] ?_; intro gb470 hg w2 hbox hb; replace HO0_1 := ve HO0_1 hg hb; have BK470 := m0 hbox; have GE470 := gw w hg; replace HB := sb HB hb; clear hb hbox hg) | ((with_reducible refine gate_dst (N := 2) rfl ?_); refine be 2 135 #[.int .i64 0, .slice none 0 0] ?_; intro gb471 hg w3 hbox hb; replace HO0_1 := ve HO0_1 hg hb; have BK471 := m0 hbox; have GE471 := gw w hg; replace HB := sb HB hb; have NB470_471 := nl BK470 hg; have NB471_470 := ng (nl BK470 hg); replace BK470 := bb BK470 hb; clear hb hbox hg; have hnb4 := NB470_471.out; have hnc4 := NB471_470.out; obtain ⟨_, _, _, _⟩ := b2 BK470; obtain ⟨_, _, _, _⟩ := b2 BK471))
 refine bodyPost_ret (results_cell_row rfl _ _ gb471 135 #[.int .i64 (wrap64 (-a0_0)), .slice A0_1 l0_1.length c0_1] (0, 0) _ rfl (bq BK471.out) Tryd.underlying135 rfl (by kernel_rfl)) rfl ?_
 exact ⟨_, by first | rfl | (simp [errW_none, errW_some] <;> rfl) | (simp [*, errW_none, errW_some] <;> rfl), by (with_reducible repeat (first | apply Kd.V_alloc | apply Kd.V_drewN | apply Kd.V_drew)); exact Kd.V_mono (Kd.V_far (p := ⟨gb471, 1, none⟩) (Kd.V_far (p := ⟨gb471, 0, none⟩) (Kd.V_mono HO0_1.out (fun k_ hk => (⟨hk, hk.2⟩ : _ ∧ k_ ≠ gb471))) (fun _ hk => hk.2) (.int .i64 (wrap64 (-a0_0)))) (fun _ hk => hk.2) (.slice A0_1 l0_1.length c0_1)) (fun _ hk => hk.1.1.1), by repeat (first | (with_reducible first | exact HB.out | apply below_alloc | apply pw_below_drewN | apply below_drew1 | refine below_set ?_ GE470.out | refine below_set ?_ GE471.out) | exact HB.out)⟩
end
section
mutual
def Bs_addDigits.l0 : Nat → List Int → List Int → List Int → Int → Int → Option (List Int)
  | 0, _, _, _, _, _ => none
  | k + 1, x0, x1, x5, x6, x7 => if x7 < (x0.length : Int) then (Bs_addDigits.j1 k x0 x1 x5 x6 x7 true) else (if x7 < (x1.length : Int) then (Bs_addDigits.j1 k x0 x1 x5 x6 x7 true) else (Bs_addDigits.j1 k x0 x1 x5 x6 x7 (decide (x6 > 0))))
def Bs_addDigits.j1 : Nat → List Int → List Int → List Int → Int → Int → Bool → Option (List Int)
  | 0, _, _, _, _, _, _ => none
  | k + 1, x0, x1, x5, x6, x7, x22 => if x22 = true then ((Bs_digit.f x0 x7).bind fun t504 => ((Bs_digit.f x1 x7).bind fun t505 => (if x5.length < 17592186044416 then (Bs_addDigits.l0 k x0 x1 (x5 ++ [Int.tmod (wrap64 ((wrap64 (t504 + t505)) + x6)) 1000000000]) (wrap64 (Int.tdiv (wrap64 ((wrap64 (t504 + t505)) + x6)) 1000000000)) (wrap64 (x7 + 1))) else (none)))) else (some x5)
end
def Bs_addDigits.f (k : Nat) (l0 : List Int) (l1 : List Int) : Option (List Int) := Bs_addDigits.l0 k l0 l1 ([] : List Int) 0 0
theorem Bs_addDigits.mono_l : ∀ k, (∀ y0 y1 y2 y3 y4, LeO (Bs_addDigits.l0 k y0 y1 y2 y3 y4) (Bs_addDigits.l0 (k + 1) y0 y1 y2 y3 y4)) ∧ (∀ y0 y1 y2 y3 y4 y5, LeO (Bs_addDigits.j1 k y0 y1 y2 y3 y4 y5) (Bs_addDigits.j1 (k + 1) y0 y1 y2 y3 y4 y5))
  | 0 => ⟨fun _ _ _ _ _ r h => by simp [Bs_addDigits.l0] at h, fun _ _ _ _ _ _ r h => by simp [Bs_addDigits.j1] at h⟩
  | k + 1 => by
    obtain ⟨ih0, ih1⟩ := Bs_addDigits.mono_l k
    refine ⟨?_, ?_⟩
    · intro y0 y1 y2 y3 y4
      unfold Bs_addDigits.l0
      repeat' with_reducible first
        | exact ih0 ..
        | exact ih1 ..
        | exact LeO.refl ..
        | exact LeO.none ..
        | refine LeO.ite ?_ ?_
        | refine LeO.bind ?_ (fun _ => ?_)
    · intro y0 y1 y2 y3 y4 y5
      unfold Bs_addDigits.j1
      repeat' with_reducible first
        | exact ih0 ..
        | exact ih1 ..
        | exact LeO.refl ..
        | exact LeO.none ..
        | refine LeO.ite ?_ ?_
        | refine LeO.bind ?_ (fun _ => ?_)
theorem Bs_addDigits.mono : ∀ a0 a1 k, LeO (Bs_addDigits.f k a0 a1) (Bs_addDigits.f (k + 1) a0 a1) := by
  intro a0 a1 k
  obtain ⟨ih0, ih1⟩ := Bs_addDigits.mono_l k
  unfold Bs_addDigits.f
  repeat' with_reducible first
    | exact ih0 ..
    | exact ih1 ..
    | exact LeO.refl ..
    | exact LeO.none ..
    | refine LeO.ite ?_ ?_
    | refine LeO.bind ?_ (fun _ => ?_)
theorem Bs_addDigits.calls (k : Nat) (A0 : Option Addr) (c0 : Nat) (l0 : List Int) (A1 : Option Addr) (c1 : Nat) (l1 : List Int) (r : List Int) (w : World) (hr0 : Kd.C (Kd.int .i64) w A0 l0.length l0) (hc0 : l0.length ≤ c0) (hr1 : Kd.C (Kd.int .i64) w A1 l1.length l1) (hc1 : l1.length ≤ c1) (h : Bs_addDigits.f k l0 l1 = some r) :
    Calls Tryd.prog 151 #[.slice A0 l0.length c0, .slice A1 l1.length c1] w fun e w' => ∃ v0_ : Value, e = .returned (v0_) ∧ Kd.R (Kd.int .i64) 3 w' w.heap.size (fun _ => True) v0_ r ∧ Below w.heap.size w w' := by
  have HR0 := m0 hr0
  have HC0 := m0 hc0
  clear hr0 hc0
  have HR1 := m0 hr1
  have HC1 := m0 hc1
  clear hr1 hc1
  have HB := m0 (Below.refl w.heap.size w)
  have H : (Bs_addDigits.l0 k l0 l1 ([] : List Int) 0 0) = some r := h
  clear h
  have H' := m0 H
  clear H
  go_enter Tryd.func151, Tryd.ntmps151
  go_wp2
  go_loopg [5, 6, 7] k (fun kq v5 v6 v7 w' => ∃ (x5_1 : List Int) (x6_1 : Int) (x7_1 : Int), v6 = .int .i64 x6_1 ∧ v7 = .int .i64 x7_1 ∧ Aside0 (Bs_addDigits.l0 kq l0 l1 x5_1 x6_1 x7_1 = some r) ∧ Aside0 (kq ≤ k) ∧ Aside0 (Kd.R (Kd.int .i64) 3 w' w.heap.size (fun _ => True) v5 x5_1) ∧ Aside0 (Below w.heap.size w w'))
  case atStart => exact ⟨(([] : List Int)), (0), (0), (by first | rfl | (simp; done) | (simp [*]; done)), (by first | rfl | (simp; done) | (simp [*]; done)), H', ⟨Nat.le_refl _⟩, ⟨by first | exact Kd.R_nil _ _ _ _ _ | exact Kd.N_nil _ _ _ _ _ | exact Kd.V_nil _ _ _ _ _ | exact Kd.Q_nil _ _ _ _ _ | exact Kd.S_nil _ _ _ _ _⟩, ⟨bz⟩⟩
  case round =>
    clear H'
    obtain ⟨x5_1, x6_1, x7_1, rfl, rfl, HA, HK1, HO_5, HB⟩ := hrel
    cases gk with
    | zero => exact absurd HA.out (by simp [Bs_addDigits.l0])
    | succ k1 =>
      have H := HA.out
      clear HA
      simp only [Bs_addDigits.l0] at H
      have HC3 := m0 H
      clear H
      go_upto_region 4 with (fail)
      go_cut [22] (fun v22 wc => ∃ (kq : Nat) (x22_2 : Bool), v22 = .bool x22_2 ∧ Aside0 (Bs_addDigits.j1 kq l0 l1 x5_1 x6_1 x7_1 x22_2 = some r) ∧ Aside0 (kq ≤ k1) ∧ Aside0 (Kd.R (Kd.int .i64) 3 wc w.heap.size (fun _ => True) u5 x5_1) ∧ Aside0 (Below w.heap.size w wc))
      case first =>
        have H := HC3.out
        clear HC3
        by_cases c4 : x7_1 < (l0.length : Int)
        · rw [if_pos c4] at H
          have c4b0 := decide_eq_true c4
          clear c4
          (first | rw [c4b0] | (simp only [i64_w, i32_w]; rw [c4b0]) | skip)
          have H' := m0 H
          clear H
          go_wp2
          go_meet
          case rel => exact ⟨_, (true), (by first | rfl | (simp; done) | (simp [*]; done)), H', ⟨by have := HK1.out; first | omega | exact Nat.le_refl _⟩, ⟨br HO_5.out⟩, ⟨bz⟩⟩
        · rw [if_neg c4] at H
          have c4b0 := decide_eq_false c4
          clear c4
          (first | rw [c4b0] | (simp only [i64_w, i32_w]; rw [c4b0]) | skip)
          by_cases c5 : x7_1 < (l1.length : Int)
          · rw [if_pos c5] at H
            have c5b0 := decide_eq_true c5
            clear c5
            have H' := m0 H
            clear H
            go_wp2
            go_meet
            case rel => exact ⟨_, (true), (by first | rfl | (simp; done) | (simp [*]; done)), H', ⟨by have := HK1.out; first | omega | exact Nat.le_refl _⟩, ⟨br HO_5.out⟩, ⟨bz⟩⟩
          · rw [if_neg c5] at H
            have c5b0 := decide_eq_false c5
            clear c5
            have H' := m0 H
            clear H
            go_wp2
            go_meet
            case rel => exact ⟨_, (decide (x6_1 > 0)), (by first | rfl | (simp; done) | (simp [*]; done)), H', ⟨by have := HK1.out; first | omega | exact Nat.le_refl _⟩, ⟨br HO_5.out⟩, ⟨bz⟩⟩
      case rest =>
        clear HC3
        obtain ⟨kq, x22_2, rfl, HA, HJ2, HO_5, HB⟩ := hcut
        cases kq with
        | zero => exact absurd HA.out (by simp [Bs_addDigits.j1])
        | succ kj2 =>
          have H := HA.out
          clear HA
          simp only [Bs_addDigits.j1] at H
          by_cases c6 : x22_2 = true
          · subst c6
            rw [if_pos rfl] at H
            replace H := ob H
            obtain ⟨t504, A7, H⟩ := H
            (try dsimp only at H)
            replace A7 := m0 A7
            replace H := ob H
            obtain ⟨t505, A8, H⟩ := H
            (try dsimp only at H)
            replace A8 := m0 A8
            by_cases c9 : x5_1.length < 17592186044416
            · rw [if_pos c9] at H
              have LMc9 := m0 c9
              clear c9
              obtain ⟨y506, hy506⟩ : ∃ y_ : List Int, y_ = (x5_1 ++ [Int.tmod (wrap64 ((wrap64 (t504 + t505)) + x6_1)) 1000000000]) := ⟨_, rfl⟩
              replace H : (Bs_addDigits.l0 kj2 l0 l1 y506 (wrap64 (Int.tdiv (wrap64 ((wrap64 (t504 + t505)) + x6_1)) 1000000000)) (wrap64 (x7_1 + 1))) = some r := by first | (rw [hy506]; with_reducible exact H) | (have H2_ := (Option.bind_some _ _).symm.trans H; rw [hy506]; with_reducible exact H2_) | (have H2_ := (Option.bind_some _ _).symm.trans H; with_reducible exact H2_) | with_reducible exact H | (rw [hy506]; exact H) | exact H
              have Ny506 := m0 hy506
              clear hy506
              have H' := m0 H
              clear H
              go_wp2_with (first | ((with_reducible refine gate_callee (f := 168) rfl ?_); refine gl (some 27) Tryd.func168 #[.slice A0 l0.length c0, .int .i64 x7_1] ?_; (with_reducible refine (Bs_digit.calls _ _ l0 x7_1 t504 _ ?side1 ?side2 A7.out).mono ?_); (case side1 => exact cb HR0 HB); (case side2 => exact HC0.out); rintro e w' ⟨rfl, ⟨nd, rfl⟩⟩; refine ⟨_, rfl, ?_⟩) | ((with_reducible refine gate_callee (f := 168) rfl ?_); refine gl (some 30) Tryd.func168 #[.slice A1 l1.length c1, .int .i64 x7_1] ?_; (with_reducible refine (Bs_digit.calls _ _ l1 x7_1 t505 _ ?side1 ?side2 A8.out).mono ?_); (case side1 => repeat (first | exact (Kd.C_below HR1.out bz) | (with_reducible refine Kd.C_alloc ?_ _) | (with_reducible refine Kd.C_drewN ?_ _) | (with_reducible refine Kd.C_drew ?_))); (case side2 => exact HC1.out); rintro e w' ⟨rfl, ⟨nd, rfl⟩⟩; refine ⟨_, rfl, ?_⟩) | ((with_reducible refine gate_builtin (b := .append) (xs := #[.tmp 34, .tmp 37]) rfl ?_); (try (refine gate_guard (by rfl) ?_; dsimp only)); at_builtin; refine Kd.R_append (Kd.int .i64) (w0 := w) w.heap.size rfl (.tmp 34) (.tmp 37) 22 3 (.int .i64 0) 8 rfl Tryd.underlying22 info3 rfl (by decide) (by omega) u5 x5_1 (Int.tmod (wrap64 ((wrap64 (t504 + t505)) + x6_1)) 1000000000) [.int .i64 (Int.tmod (wrap64 ((wrap64 (t504 + t505)) + x6_1)) 1000000000)] (fun _ => True) (fun _ => False) rfl rfl ?aP (fun _ hk => hk.elim) ?aF ?aO ?aB ?aS ?aL ?_; (case aP => exact rfl); (case aB => exact bz); (case aF => exact (fun _ _ => trivial)); (case aO => exact (br HO_5.out)); (case aS => exact (below_size bz)); (case aL => have := LMc9.out; omega); intro v507 w10 ho hb hg hat; rw [← Ny506.out] at ho; have n0_ := m0 (hb); have n1_ := m0 (ho); clear HB; clear HO_5; have HB := n0_; have HO508 := n1_; clear n0_ n1_; clear ho hb hg hat))
              go_roundg kj2
              case measure => have := HK1.out; have := HJ2.out; omega
              case rel => exact ⟨(y506), (wrap64 (Int.tdiv (wrap64 ((wrap64 (t504 + t505)) + x6_1)) 1000000000)), (wrap64 (x7_1 + 1)), (by first | rfl | (simp; done) | (simp [*]; done)), (by first | rfl | (simp; done) | (simp [*]; done)), H', ⟨by have := HK1.out; have := HJ2.out; omega⟩, ⟨br HO508.out⟩, ⟨bz⟩⟩
            · rw [if_neg c9] at H
              exact absurd H (by simp)
          · replace c6 := Bool.eq_false_iff.mpr c6
            subst c6
            rw [if_neg (show ¬ (false = true) by decide)] at H
            obtain rfl := Option.some.inj H
            go_wp2
            go_ret
            exact ⟨_, by first | rfl | (simp [errW_none, errW_some] <;> rfl) | (simp [*, errW_none, errW_some] <;> rfl), by (with_reducible repeat (first | apply Kd.R_alloc | apply Kd.R_drewN | apply Kd.R_drew)); exact HO_5.out, by repeat (first | (with_reducible first | exact HB.out | apply below_alloc | apply pw_below_drewN | apply below_drew1) | exact HB.out)⟩
end
end Go.Proofs.YtjnkphmcndaijaaDoor.A
