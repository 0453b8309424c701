/- Walks of the program's functions (printed, made shorter), each with what it computes. -/
import Derived.Test.YteiafijbgjgiaaaP01
import Derived.Test.YteiafijbgjgiaaaB12
import Derived.Test.YteiafijbgjgiaaaB15
namespace Go.Proofs.Yteiafijbgjgiaaa.A
set_option maxHeartbeats 8000000
set_option maxRecDepth 100000
open Go.RowKit Go.Proofs.YteiafijbgjgiaaaW.PrintWords Go.Proofs.YteiafijbgjgiaaaW.PrintLast Go.Proofs.YteiafijbgjgiaaaW.PrintMore
attribute [local go_sem] max2_int min2_int max_two min_two max_three min_three max_four min_four
set_option linter.unusedVariables false
set_option linter.unusedSimpArgs false
section
def Rf_Shares.l0 : Nat → List Int → Int → List (S100) → Int → Option ((List (S100)))
 | 0, _, _, _, _ => none
 | k + 1, x0, x1, x5, x6 => if x6 < (x0.length : Int) then (if 0 ≤ x6 then ((Rf_Rest.f k x0 x1 x6).bind fun t756 => ((Bs_Lowest.f k (rd x0 x6) t756).bind fun bt757 => (if x5.length < 8796093022208 then (Rf_Shares.l0 k x0 x1 (x5 ++ [(⟨bt757.1, bt757.2⟩ : S100)]) (wrap64 (x6 + 1))) else (none)))) else (none)) else (some x5)
def Rf_Shares.f (k : Nat) (l0 : List Int) (a1 : Int) : Option ((List (S100))) := Rf_Shares.l0 k l0 a1 ([] : List (S100)) 0
theorem Rf_Shares.mono_l : ∀ k, (∀ y0 y1 y2 y3, LeO (Rf_Shares.l0 k y0 y1 y2 y3) (Rf_Shares.l0 (k + 1) y0 y1 y2 y3))
 | 0 => fun _ _ _ _ r h => by simp [Rf_Shares.l0] at h
 | k + 1 => by
  have ih0 := Rf_Shares.mono_l k
  ·intro y0 y1 y2 y3; unfold Rf_Shares.l0
   repeat' with_reducible first
    | exact ih0 ..
    | exact Bs_Lowest.mono ..
    | exact Rf_Rest.mono ..
    | exact LeO.refl ..
    | exact LeO.none ..
    | refine LeO.ite ?_ ?_
    | refine LeO.bind ?_ (fun _ => ?_)
theorem Rf_Shares.mono : ∀ a0 a1 k, LeO (Rf_Shares.f k a0 a1) (Rf_Shares.f (k + 1) a0 a1) := by
 intro a0 a1 k; have ih0 := Rf_Shares.mono_l k; unfold Rf_Shares.f
 repeat' with_reducible first
  | exact ih0 ..
  | exact Bs_Lowest.mono ..
  | exact Rf_Rest.mono ..
  | exact LeO.refl ..
  | exact LeO.none ..
  | refine LeO.ite ?_ ?_
  | refine LeO.bind ?_ (fun _ => ?_)
def Rf_Shares.T5 : Bool × List (List Nat × List Nat) := (true, [([], []), ([], []), ([], []), ([1, 2], [1, 2]), ([3], [3]), ([], []), ([], []), ([], []), ([5, 6, 7], [5, 6, 7]), ([4, 8, 8], [4, 8]), ([9], [9]), ([0, 10, 9], [0, 10]), ([11, 11, 0, 1, 2, 3, 4, 5, 6, 7, 8, 9, 10, 11], [0, 11])])
def Rf_Shares.B5 : List Nat := [0, 0, 0, 6, 14, 0, 0, 0, 224, 510, 1022, 2047, 4095]
theorem Rf_Shares.tab5 : rtab .any (opsOf Try.f50 5) = Rf_Shares.T5 := by kernel_rfl
theorem Rf_Shares.bits5 : waitsOk Rf_Shares.T5.2 Rf_Shares.B5 = true := by kernel_rfl
theorem Rf_Shares.calls (k : Nat) (A0 : Option Addr) (c0 : Nat) (l0 : List Int) (a1 : Int) (r : List (S100)) (w : World) (hr0 : Kd.C (Kd.int .i64) w A0 l0.length l0) (hc0 : l0.length ≤ c0) (H : Rf_Shares.f k l0 a1 = some r) :
  Calls Try.prog 50 #[.slice A0 l0.length c0, .int .i64 a1] w fun e w' => ∃ v0_ : Value, e = .returned (v0_) ∧ Kd.R k100 100 w' w.heap.size (fun _ => True) v0_ r ∧ Below w.heap.size w w' := by
 have HR0 := m0 hr0; have HC0 := m0 hc0; clear hr0 hc0; have HB := m0 (Below.refl w.heap.size w); unfold Rf_Shares.f at H; have H' := m0 H; clear H; go_enter Try.func50, Try.ntmps50
 go_wp2
 go_loopg [5, 6] k (fun kq v5 v6 w' => ∃ (x5_1 : List (S100)) (x6_1 : Int), v6 = .int .i64 x6_1 ∧ Aside0 (Rf_Shares.l0 kq l0 a1 x5_1 x6_1 = some r) ∧ Aside0 (kq ≤ k) ∧ Aside0 (Kd.R k100 100 w' w.heap.size (fun _ => True) v5 x5_1) ∧ Aside0 (Below w.heap.size w w'))
 case atStart => exact ⟨(([] : List (S100))), (0), rz, H', ⟨Nat.le_refl _⟩, ⟨by first | exact Kd.R_nil _ _ _ _ _ | exact Kd.N_nil _ _ _ _ _ | exact Kd.V_nil _ _ _ _ _ | exact Kd.Q_nil _ _ _ _ _ | exact Kd.S_nil _ _ _ _ _⟩, ⟨bz⟩⟩
 case round =>
  clear H'; obtain ⟨x5_1, x6_1, rfl, HA, HK1, HO_5, HB⟩ := hrel
  cases gk with
  | zero => exact absurd HA.out (by simp [Rf_Shares.l0])
  | succ k1 =>
   have H := HA.out; clear HA; simp only [Rf_Shares.l0] at H
   by_cases c3 : x6_1 < (l0.length : Int)
   ·rw [if_pos c3] at H; have c3b0 := decide_eq_true c3; clear c3
    by_cases c4 : 0 ≤ x6_1
    ·rw [if_pos c4] at H; have c4b0 := decide_eq_true c4; clear c4; replace H := oa H; obtain ⟨t756, A5, H⟩ := H; (try dsimp only at H); replace H := oa H; obtain ⟨⟨t757, t758⟩, A6, H⟩ := H; (try dsimp only at H)
     by_cases c7 : x5_1.length < 8796093022208
     ·rw [if_pos c7] at H; have LMc7 := m0 c7; clear c7; obtain ⟨y759, hy759⟩ : ∃ y_ : List (S100), y_ = (x5_1 ++ [(⟨t757, t758⟩ : S100)]) := ⟨_, rfl⟩; replace H : (Rf_Shares.l0 k1 l0 a1 y759 (wrap64 (x6_1 + 1))) = some r := by first | (rw [hy759]; with_reducible exact H) | (have H2_ := (Option.bind_some _ _).symm.trans H; rw [hy759]; with_reducible exact H2_) | (have H2_ := (Option.bind_some _ _).symm.trans H; with_reducible exact H2_) | with_reducible exact H | (rw [hy759]; exact H) | exact H
      have Ny759 := m0 hy759; clear hy759; have H' := m0 H; clear H
      try go_wp2
      replace HO_5 := m0 (Kd.R_drew HO_5.out); replace HB := sd HB; have p755 : 0 ≤ (x6_1 : Int) := od; have q755 : x6_1 < (l0.length : Int) := od; obtain ⟨ad755, e755, hx755_0⟩ := Kd.at_int HR0.out x6_1 p755 q755; have hw755_0 := hx755_0
      cases e755
      replace hx755_0 := hc HB hx755_0; replace p755 := eq_true p755; replace q755 := eq_true q755; refine start_ (n := 13) (S := fun w' => w'.cell? (ad755.add (x6_1).toNat) = some (.int .i64 (rd l0 x6_1))) (ds := []) _ (by kernel_rfl) rfl rfl (((HB.out.cell (World.block_lt_of_cell? w _ hw755_0)).trans hw755_0)) (fun hH => ?_); refine with_tabW Rf_Shares.tab5 Rf_Shares.bits5 (fun HT_ HW_ => ?_); generalize wr.drew = w8 at HO_5 HB hx755_0 hH ⊢; refine pZ 0 (some 13) (bs 13 1) HT_ ?_; refine pZ 1 (some 14) (bs 13 3) HT_ ?_; refine pZ 2 (some 15) (bs 13 7) HT_ ?_; refine pZ 3 (some 16) (bs 13 15) HT_ ?_; refine pZ 5 (some 18) (bs 13 47) HT_ ?_; refine pZ 6 (some 19) (bs 13 111) HT_ ?_; refine pZ 7 (some 20) (bs 13 239) HT_ ?_; refine take_ (i := 4) (N := some 17) (v := ?_) (a' := ?_) (bs 13 255) rfl rfl (tw HT_ HW_) (fun _ _ _ h => h) (Or.inl ⟨by rfl, ?_⟩) hH ?_ ?_; rotate_left
      ·intro w' s0
       go_simp
       with_reducible rfl
      rotate_left
      ·exact pz
      refine oneZ 8 (some 21) (bs 13 511) (o1 HT_) fun K hK => ?_; refine gz Try.func96 #[.slice (some ad755) l0.length c0, .int .i64 a1, .int .i64 x6_1] ?_
      with_reducible refine (Rf_Rest.calls k1 _ _ l0 a1 x6_1 t756 _ ?side1 ?side2 A5.out).mono ?_
      (case side1 => exact cb HR0 HB)
      (case side2 => exact HC0.out)
      rintro e w' ⟨rfl, ⟨nd, rfl⟩⟩; refine ⟨_, rfl, ?_⟩; refine hK.out _ _ (((HB.out.cell (World.block_lt_of_cell? w _ hw755_0)).trans hw755_0)) (fun hH => ?_); clear hK K; refine nz 21 ?_; refine oneZ 9 (some 22) (bs 13 1023) (o1 HT_) fun K hK => ?_; refine gz Try.func97 #[.int .i64 (rd l0 x6_1), .int .i64 t756] ?_
      with_reducible refine (Bs_Lowest.calls k1 (rd l0 x6_1) t756 t757 t758 _ A6.out).mono ?_
      rintro e w9 ⟨rfl, hb⟩; refine ⟨_, rfl, ?_⟩; replace HO_5 := rb HO_5 hb; replace HB := sb HB hb; (try clear hb); refine hK.out _ _ (((HB.out.cell (World.block_lt_of_cell? w _ hw755_0)).trans hw755_0)) (fun hH => ?_); clear hK K; refine nz 22 ?_; refine oneZ 10 (some 23) (bs 13 2047) (o1 HT_) fun K hK => ?_; refine value_ (w1 := ?_) (v := ?_) (by rfl) rfl ?_ ?_; rotate_left 2
      ·go_simp
       constructor
       ·rfl
       ·rfl
      refine hK.out _ _ ((World.cell?_alloc_lt _ _ _ (World.block_lt_of_cell? _ _ (((HB.out.cell (World.block_lt_of_cell? w _ hw755_0)).trans hw755_0)))).trans (((HB.out.cell (World.block_lt_of_cell? w _ hw755_0)).trans hw755_0))) (fun hH => ?_); clear hK K; refine nz 23 ?_; refine oneZ 11 (some 24) (bs 13 4095) (o1 HT_) fun K hK => ?_; refine Kd.R_append_step k100 (w0 := w) w.heap.size (by rfl) (.tmp 13) (.tmp 23) 68 100 (.agg #[(.int .i64 0), (.int .i64 0)]) 16 rfl Try.underlying68 info100 rfl (by decide) (by omega) u5 x5_1 (⟨t757, t758⟩ : S100) [.int .i64 t757, .int .i64 t758] (fun _ => True) (fun _ => False) rfl rfl ?aP (fun _ hk => hk.elim) ?aF ?aO ?aB ?aS ?aL ?_
      (case aP => exact k100_mkM _ _ _ (⟨t757, t758⟩ : S100))
      (case aB => exact bz)
      (case aF => exact (fun _ _ => trivial))
      (case aO => exact (br HO_5.out))
      (case aS => exact (below_size bz))
      (case aL => have := LMc7.out; omega)
      intro v760 w10 ho hb hg hat; rw [← Ny759.out] at ho; have n0_ := m0 (hb); have n1_ := m0 (ho); clear HB; clear HO_5; have HB := n0_; have HO761 := n1_; clear n0_ n1_; clear ho hb hg hat; refine hK.out _ _ (((HB.out.cell (World.block_lt_of_cell? w _ hw755_0)).trans hw755_0)) (fun hH => ?_); clear hK K; refine nz 24 ?_; refine pZ 12 (some 5) (bs 13 8191) HT_ ?_; refine done_ (done_of HT_.out (by kernel_rfl)) ?_
      try go_wp2
      go_roundg k1
      case measure => have := HK1.out; omega
      case rel => exact ⟨(y759), (wrap64 (x6_1 + 1)), rz, H', ⟨by have := HK1.out; omega⟩, ⟨br HO761.out⟩, ⟨bz⟩⟩
     ·rw [if_neg c7] at H; exact absurd H (by simp)
    ·rw [if_neg c4] at H; exact absurd H (by simp)
   ·rw [if_neg c3] at H; have c3b0 := decide_eq_false c3; clear c3; obtain rfl := Option.some.inj H
    go_wp2
    go_ret
    exact ⟨_, by first | rfl | (simp [errW_none, errW_some] <;> rfl) | (simp [*, errW_none, errW_some] <;> rfl), by (with_reducible repeat (first | apply Kd.R_alloc | apply Kd.R_drewN | apply Kd.R_drew)); exact HO_5.out, by repeat (first | (with_reducible first | exact HB.out | apply below_alloc | apply pw_below_drewN | apply below_drew1) | exact HB.out)⟩
end
section
def Rf_PointsErr.l0 : Nat → List (S138) → Int → Option (Int)
  | 0, _, _ => none
  | k + 1, x0, x3 => if x3 < (x0.length : Int) then (if 0 ≤ x3 then ((Bs_Within.f ((rd_T138 x0 x3).f0) 1 1000000).bind fun t763 => (if t763 = true then ((Bs_Within.f ((rd_T138 x0 x3).f1) 0 1000000).bind fun t765 => (if t765 = true then (Rf_PointsErr.l0 k x0 (wrap64 (x3 + 1))) else (some 2))) else (some 2))) else (none)) else (some 0)
def Rf_PointsErr.f (k : Nat) (l0 : List (S138)) : Option (Int) := if (l0.length : Int) = 0 then (some 10) else (if (l0.length : Int) > 12 then (some 8) else (Rf_PointsErr.l0 k l0 0))
theorem Rf_PointsErr.mono_l : ∀ k, (∀ y0 y1, LeO (Rf_PointsErr.l0 k y0 y1) (Rf_PointsErr.l0 (k + 1) y0 y1))
  | 0 => fun _ _ r h => by simp [Rf_PointsErr.l0] at h
  | k + 1 => by
    have ih0 := Rf_PointsErr.mono_l k
    · intro y0 y1; unfold Rf_PointsErr.l0
      repeat' with_reducible first
        | exact ih0 ..
        | exact LeO.refl ..
        | exact LeO.none ..
        | refine LeO.ite ?_ ?_
        | refine LeO.bind ?_ (fun _ => ?_)
theorem Rf_PointsErr.mono : ∀ a0 k, LeO (Rf_PointsErr.f k a0) (Rf_PointsErr.f (k + 1) a0) := by
  intro a0 k; have ih0 := Rf_PointsErr.mono_l k; unfold Rf_PointsErr.f
  repeat' with_reducible first
    | exact ih0 ..
    | exact LeO.refl ..
    | exact LeO.none ..
    | refine LeO.ite ?_ ?_
    | refine LeO.bind ?_ (fun _ => ?_)
theorem Rf_PointsErr.calls (k : Nat) (A0 : Option Addr) (c0 : Nat) (l0 : List (S138)) (r : Int) (w : World) (hr0 : Kd.C k138 w A0 l0.length l0) (hc0 : l0.length ≤ c0) (H : Rf_PointsErr.f k l0 = some r) :
    Calls Try.prog 51 #[.slice A0 l0.length c0] w fun e w' => e = .returned (.int .i64 r) ∧ Drawn0 w w' := by
  have HR0 := m0 hr0; have HC0 := m0 hc0; clear hr0 hc0; unfold Rf_PointsErr.f at H
  by_cases c2 : (l0.length : Int) = 0
  · rw [if_pos c2] at H; have c2b0 := beq_iff_eq.mpr c2; have c2b1 := bne_eq_false_iff_eq.mpr c2; clear c2; obtain rfl := Option.some.inj H; go_enter Try.func51, Try.ntmps51
    go_wp2
    go_ret
    exact ⟨rz, by repeat (first | exact Drawn0.refl _ | apply Drawn0.step)⟩
  · rw [if_neg c2] at H; have c2b0 := beq_eq_false_iff_ne.mpr c2; have c2b1 := bne_iff_ne.mpr c2; have c2b2 : ¬ (l0 = []) := fun h_ => c2 (by rw [h_]; rfl)
    by_cases c3 : (l0.length : Int) > 12
    · rw [if_pos c3] at H; have c3b0 := decide_eq_true c3; have c3b1 : decide (12 < l0.length) = true := decide_eq_true (by omega); clear c3; obtain rfl := Option.some.inj H; go_enter Try.func51, Try.ntmps51
      go_wp2
      go_ret
      exact ⟨rz, by repeat (first | exact Drawn0.refl _ | apply Drawn0.step)⟩
    · rw [if_neg c3] at H; have c3b0 := decide_eq_false c3; have c3b1 : decide (12 < l0.length) = false := decide_eq_false (by omega); clear c3; have H' := m0 H; clear H; go_enter Try.func51, Try.ntmps51
      go_wp2
      go_loopg [3] k (fun kq v3 w' => ∃ (x3_1 : Int), v3 = .int .i64 x3_1 ∧ Aside0 (Rf_PointsErr.l0 kq l0 x3_1 = some r) ∧ Aside0 (kq ≤ k) ∧ Drawn0 w w')
      case atStart => exact ⟨(0), rz, H', ⟨Nat.le_refl _⟩, by repeat (first | exact Drawn0.refl _ | apply Drawn0.step)⟩
      case round =>
        clear H'; obtain ⟨x3_1, rfl, HA, HK1, ⟨m1, rfl⟩⟩ := hrel
        cases gk with
        | zero => exact absurd HA.out (by simp [Rf_PointsErr.l0])
        | succ k1 =>
          have H := HA.out; clear HA; simp only [Rf_PointsErr.l0] at H
          by_cases c4 : x3_1 < (l0.length : Int)
          · rw [if_pos c4] at H; have c4b0 := decide_eq_true c4; clear c4
            by_cases c5 : 0 ≤ x3_1
            · rw [if_pos c5] at H; have c5b0 := decide_eq_true c5; clear c5; replace H := oa H; obtain ⟨t763, A6, H⟩ := H; (try dsimp only at H)
              by_cases c7 : t763 = true
              · subst c7; rw [if_pos rfl] at H; replace H := oa H; obtain ⟨t765, A8, H⟩ := H; (try dsimp only at H)
                by_cases c9 : t765 = true
                · subst c9; rw [if_pos rfl] at H; have H' := m0 H; clear H; have p762 : 0 ≤ (x3_1 : Int) := od; have q762 : x3_1 < (l0.length : Int) := od; obtain ⟨ad762, e762, hx762_0, hx762_1⟩ := at_T138 HR0.out x3_1 p762 q762
                  cases e762
                  replace p762 := eq_true p762; replace q762 := eq_true q762
                  go_wp2_with (first | ((with_reducible refine gc 19 rfl ?_); refine gl (some 21) Try.func19 #[.int .i64 ((rd_T138 l0 x3_1).f0), .int .i64 1, .int .i64 1000000] ?_; (with_reducible refine (Bs_Within.calls ((rd_T138 l0 x3_1).f0) 1 1000000 true _ A6.out).mono ?_); rintro e w' ⟨rfl, ⟨nd, rfl⟩⟩; refine ⟨_, rfl, ?_⟩; have p764 : 0 ≤ (x3_1 : Int) := od; have q764 : x3_1 < (l0.length : Int) := od; obtain ⟨ad764, e764, hx764_0, hx764_1⟩ := at_T138 HR0.out x3_1 p764 q764; obtain rfl : ad762 = ad764 := (by injection e764); replace p764 := eq_true p764; replace q764 := eq_true q764) | (go_at_call 19; (with_reducible refine (Bs_Within.calls ((rd_T138 l0 x3_1).f1) 0 1000000 true _ A8.out).mono ?_); rintro e w' ⟨rfl, ⟨nd, rfl⟩⟩))
                  go_roundg k1
                  case measure => have := HK1.out; omega
                  case rel => exact ⟨(wrap64 (x3_1 + 1)), rz, H', ⟨by have := HK1.out; omega⟩, by repeat (first | exact Drawn0.refl _ | apply Drawn0.step)⟩
                · replace c9 := Bool.eq_false_iff.mpr c9; subst c9; rw [if_neg (show ¬ (false = true) by decide)] at H; obtain rfl := Option.some.inj H; have p762 : 0 ≤ (x3_1 : Int) := od; have q762 : x3_1 < (l0.length : Int) := od; obtain ⟨ad762, e762, hx762_0, hx762_1⟩ := at_T138 HR0.out x3_1 p762 q762
                  cases e762
                  replace p762 := eq_true p762; replace q762 := eq_true q762
                  go_wp2_with (first | ((with_reducible refine gc 19 rfl ?_); refine gl (some 21) Try.func19 #[.int .i64 ((rd_T138 l0 x3_1).f0), .int .i64 1, .int .i64 1000000] ?_; (with_reducible refine (Bs_Within.calls ((rd_T138 l0 x3_1).f0) 1 1000000 true _ A6.out).mono ?_); rintro e w' ⟨rfl, ⟨nd, rfl⟩⟩; refine ⟨_, rfl, ?_⟩; have p764 : 0 ≤ (x3_1 : Int) := od; have q764 : x3_1 < (l0.length : Int) := od; obtain ⟨ad764, e764, hx764_0, hx764_1⟩ := at_T138 HR0.out x3_1 p764 q764; obtain rfl : ad762 = ad764 := (by injection e764); replace p764 := eq_true p764; replace q764 := eq_true q764) | (go_at_call 19; (with_reducible refine (Bs_Within.calls ((rd_T138 l0 x3_1).f1) 0 1000000 false _ A8.out).mono ?_); rintro e w' ⟨rfl, ⟨nd, rfl⟩⟩))
                  go_ret
                  exact ⟨rz, by repeat (first | exact Drawn0.refl _ | apply Drawn0.step)⟩
              · replace c7 := Bool.eq_false_iff.mpr c7; subst c7; rw [if_neg (show ¬ (false = true) by decide)] at H; obtain rfl := Option.some.inj H; have p762 : 0 ≤ (x3_1 : Int) := od; have q762 : x3_1 < (l0.length : Int) := od; obtain ⟨ad762, e762, hx762_0, hx762_1⟩ := at_T138 HR0.out x3_1 p762 q762
                cases e762
                replace p762 := eq_true p762; replace q762 := eq_true q762
                go_wp2_with (first | ((with_reducible refine gc 19 rfl ?_); refine gl (some 21) Try.func19 #[.int .i64 ((rd_T138 l0 x3_1).f0), .int .i64 1, .int .i64 1000000] ?_; (with_reducible refine (Bs_Within.calls ((rd_T138 l0 x3_1).f0) 1 1000000 false _ A6.out).mono ?_); rintro e w' ⟨rfl, ⟨nd, rfl⟩⟩; refine ⟨_, rfl, ?_⟩))
                go_ret
                exact ⟨rz, by repeat (first | exact Drawn0.refl _ | apply Drawn0.step)⟩
            · rw [if_neg c5] at H; exact absurd H (by simp)
          · rw [if_neg c4] at H; have c4b0 := decide_eq_false c4; clear c4; obtain rfl := Option.some.inj H
            go_wp2
            go_ret
            exact ⟨rz, by repeat (first | exact Drawn0.refl _ | apply Drawn0.step)⟩
end
section
def Rf_Constants.l0 : Nat → List (S138) → Int → Int → Int → Option (Int × Int × Bool)
 | 0, _, _, _, _ => none
 | k + 1, x0, x5, x772000, x772001 => if x5 < (x0.length : Int) then (if 0 ≤ x5 then (Rf_Constants.l0 k x0 (wrap64 (x5 + 1)) (mx x772000 (wrap64 (((rd_T138 x0 x5).f0) - ((rd_T138 x0 x5).f1)))) (mn x772001 (wrap64 (((rd_T138 x0 x5).f0) + ((rd_T138 x0 x5).f1))))) else (none)) else (if x772000 > x772001 then (some (0, 0, false)) else (some (x772000, x772001, true)))
def Rf_Constants.f (k : Nat) (l0 : List (S138)) : Option (Int × Int × Bool) := if 0 < (l0.length : Int) then (Rf_Constants.l0 k l0 1 (wrap64 (((rd_T138 l0 0).f0) - ((rd_T138 l0 0).f1))) (wrap64 (((rd_T138 l0 0).f0) + ((rd_T138 l0 0).f1)))) else (none)
theorem Rf_Constants.mono_l : ∀ k, (∀ y0 y1 y2 y3, LeO (Rf_Constants.l0 k y0 y1 y2 y3) (Rf_Constants.l0 (k + 1) y0 y1 y2 y3))
 | 0 => fun _ _ _ _ r h => by simp [Rf_Constants.l0] at h
 | k + 1 => by
  have ih0 := Rf_Constants.mono_l k
  ·intro y0 y1 y2 y3; unfold Rf_Constants.l0
   repeat' with_reducible first
    | exact ih0 ..
    | exact LeO.refl ..
    | exact LeO.none ..
    | refine LeO.ite ?_ ?_
    | refine LeO.bind ?_ (fun _ => ?_)
theorem Rf_Constants.mono : ∀ a0 k, LeO (Rf_Constants.f k a0) (Rf_Constants.f (k + 1) a0) := by
 intro a0 k; have ih0 := Rf_Constants.mono_l k; unfold Rf_Constants.f
 repeat' with_reducible first
  | exact ih0 ..
  | exact LeO.refl ..
  | exact LeO.none ..
  | refine LeO.ite ?_ ?_
  | refine LeO.bind ?_ (fun _ => ?_)
def Rf_Constants.T1 : Bool × List (List Nat × List Nat) := (true, [([], []), ([0], [0]), ([1], [1]), ([2], [2]), ([], []), ([4], [4]), ([5], [5]), ([6], [6]), ([3, 7], [3, 7]), ([], []), ([9], [9]), ([10], [10]), ([11], [11]), ([], []), ([13], [13]), ([14], [14]), ([15], [15]), ([12, 16], [12, 16]), ([8, 17], [8, 17]), ([], []), ([19, 18, 0, 1, 2, 3, 4, 5, 6, 7, 8, 9, 10, 11, 12, 13, 14, 15, 16, 17, 18, 19], [18, 19])])
def Rf_Constants.B1 : List Nat := [0, 1, 3, 7, 0, 16, 48, 112, 255, 0, 512, 1536, 3584, 0, 8192, 24576, 57344, 130560, 262143, 0, 1048575]
theorem Rf_Constants.tab1 : rtab .any (opsOf Try.f52 1) = Rf_Constants.T1 := by kernel_rfl
theorem Rf_Constants.bits1 : waitsOk Rf_Constants.T1.2 Rf_Constants.B1 = true := by kernel_rfl
def Rf_Constants.T5 : Bool × List (List Nat × List Nat) := (true, [([], []), ([0], [0]), ([], []), ([], []), ([2, 3], [2, 3]), ([4], [4]), ([5], [5]), ([], []), ([], []), ([7, 8], [7, 8]), ([9], [9]), ([10], [10]), ([6, 11], [6, 11]), ([1, 12], [1, 12]), ([], []), ([14], [14]), ([], []), ([], []), ([16, 17], [16, 17]), ([18], [18]), ([19], [19]), ([], []), ([], []), ([21, 22], [21, 22]), ([23], [23]), ([24], [24]), ([20, 25], [20, 25]), ([15, 26], [15, 26]), ([13, 27], [13, 27]), ([28, 0, 1, 2, 3, 4, 5, 6, 7, 8, 9, 10, 11, 12, 13, 14, 15, 16, 17, 18, 19, 20, 21, 22, 23, 24, 25, 26, 27, 28], [28])])
def Rf_Constants.B5 : List Nat := [0, 1, 0, 0, 12, 28, 60, 0, 0, 384, 896, 1920, 4092, 8191, 0, 16384, 0, 0, 196608, 458752, 983040, 0, 0, 6291456, 14680064, 31457280, 67043328, 134201344, 268435455, 536870911]
theorem Rf_Constants.tab5 : rtab .any (opsOf Try.f52 5) = Rf_Constants.T5 := by kernel_rfl
theorem Rf_Constants.bits5 : waitsOk Rf_Constants.T5.2 Rf_Constants.B5 = true := by kernel_rfl
theorem Rf_Constants.calls (k : Nat) (A0 : Option Addr) (c0 : Nat) (l0 : List (S138)) (r1 : Int) (r2 : Int) (r3 : Bool) (w : World) (hr0 : Kd.C k138 w A0 l0.length l0) (hc0 : l0.length ≤ c0) (H : Rf_Constants.f k l0 = some (r1, r2, r3)) :
  Calls Try.prog 52 #[.slice A0 l0.length c0] w fun e w' => e = .returned (.tuple #[.agg #[.int .i64 r1, .int .i64 r2], .bool r3]) ∧ Below w.heap.size w w' := by
 have hu54 := Try.underlying54; have HR0 := m0 hr0; have HC0 := m0 hc0; clear hr0 hc0; have HB := m0 (Below.refl w.heap.size w); unfold Rf_Constants.f at H
 by_cases c2 : 0 < (l0.length : Int)
 ·rw [if_pos c2] at H; have c2b0 := decide_eq_true c2; have c2b1 : decide (0 < l0.length) = true := decide_eq_true (by omega); clear c2; have H' := m0 H; clear H; go_enter Try.func52, Try.ntmps52
  try go_wp2_with (first | ((with_reducible refine ga 2 rfl ?_); refine be 2 54 #[.int .i64 0, .int .i64 0] ?_; intro gb766 hg w3 hbox hb; have BK766 := m0 hbox; have GE766 := gw w hg; replace HB := sb HB hb; clear hb hbox hg))
  replace BK766 := bd BK766; replace HB := sd HB; have p767 : 0 ≤ (0 : Int) := (by omega); have q767 : 0 < (l0.length : Int) := od; obtain ⟨ad767, e767, hx767_0, hx767_1⟩ := at_T138 HR0.out 0 p767 q767; have hw767_1 := hx767_1; (try rw [show ((0 : Int)).toNat = 0 from rfl] at hw767_1); (try rw [show 0 * 2 = 0 from rfl] at hw767_1); (try rw [Addr.add_zero'] at hw767_1); have hw767_0 := hx767_0; (try rw [show ((0 : Int)).toNat = 0 from rfl] at hw767_0); (try rw [show 0 * 2 = 0 from rfl] at hw767_0); (try rw [Addr.add_zero'] at hw767_0)
  cases e767
  have qi767 : (0 < l0.length) = True := eq_true (by omega); (try rw [show ((0 : Int)).toNat = 0 from rfl] at hx767_0); (try rw [show 0 * 2 = 0 from rfl] at hx767_0); (try rw [Addr.add_zero'] at hx767_0); (try rw [show ((0 : Int)).toNat = 0 from rfl] at hx767_1); (try rw [show 0 * 2 = 0 from rfl] at hx767_1); (try rw [Addr.add_zero'] at hx767_1); replace hx767_0 := hc HB hx767_0; replace hx767_1 := hc HB hx767_1; replace p767 := eq_true p767; replace q767 := eq_true q767; have p768 : 0 ≤ (0 : Int) := (by omega); have q768 : 0 < (l0.length : Int) := od; obtain ⟨ad768, e768, hx768_0, hx768_1⟩ := at_T138 HR0.out 0 p768 q768; have hw768_1 := hx768_1; (try rw [show ((0 : Int)).toNat = 0 from rfl] at hw768_1); (try rw [show 0 * 2 = 0 from rfl] at hw768_1); (try rw [Addr.add_zero'] at hw768_1); have hw768_0 := hx768_0; (try rw [show ((0 : Int)).toNat = 0 from rfl] at hw768_0); (try rw [show 0 * 2 = 0 from rfl] at hw768_0); (try rw [Addr.add_zero'] at hw768_0); obtain rfl : ad767 = ad768 := (by injection e768); have qi768 : (0 < l0.length) = True := eq_true (by omega); (try rw [show ((0 : Int)).toNat = 0 from rfl] at hx768_0); (try rw [show 0 * 2 = 0 from rfl] at hx768_0); (try rw [Addr.add_zero'] at hx768_0); (try rw [show ((0 : Int)).toNat = 0 from rfl] at hx768_1); (try rw [show 0 * 2 = 0 from rfl] at hx768_1); (try rw [Addr.add_zero'] at hx768_1); replace hx768_0 := hc HB hx768_0; replace hx768_1 := hc HB hx768_1; replace p768 := eq_true p768; replace q768 := eq_true q768; have p769 : 0 ≤ (0 : Int) := (by omega); have q769 : 0 < (l0.length : Int) := od; obtain ⟨ad769, e769, hx769_0, hx769_1⟩ := at_T138 HR0.out 0 p769 q769; have hw769_1 := hx769_1; (try rw [show ((0 : Int)).toNat = 0 from rfl] at hw769_1); (try rw [show 0 * 2 = 0 from rfl] at hw769_1); (try rw [Addr.add_zero'] at hw769_1); have hw769_0 := hx769_0; (try rw [show ((0 : Int)).toNat = 0 from rfl] at hw769_0); (try rw [show 0 * 2 = 0 from rfl] at hw769_0); (try rw [Addr.add_zero'] at hw769_0); obtain rfl : ad767 = ad769 := (by injection e769); have qi769 : (0 < l0.length) = True := eq_true (by omega); (try rw [show ((0 : Int)).toNat = 0 from rfl] at hx769_0); (try rw [show 0 * 2 = 0 from rfl] at hx769_0); (try rw [Addr.add_zero'] at hx769_0); (try rw [show ((0 : Int)).toNat = 0 from rfl] at hx769_1); (try rw [show 0 * 2 = 0 from rfl] at hx769_1); (try rw [Addr.add_zero'] at hx769_1); replace hx769_0 := hc HB hx769_0; replace hx769_1 := hc HB hx769_1; replace p769 := eq_true p769; replace q769 := eq_true q769; have p770 : 0 ≤ (0 : Int) := (by omega); have q770 : 0 < (l0.length : Int) := od; obtain ⟨ad770, e770, hx770_0, hx770_1⟩ := at_T138 HR0.out 0 p770 q770; have hw770_1 := hx770_1; (try rw [show ((0 : Int)).toNat = 0 from rfl] at hw770_1); (try rw [show 0 * 2 = 0 from rfl] at hw770_1); (try rw [Addr.add_zero'] at hw770_1); have hw770_0 := hx770_0; (try rw [show ((0 : Int)).toNat = 0 from rfl] at hw770_0); (try rw [show 0 * 2 = 0 from rfl] at hw770_0); (try rw [Addr.add_zero'] at hw770_0); obtain rfl : ad767 = ad770 := (by injection e770); have qi770 : (0 < l0.length) = True := eq_true (by omega); (try rw [show ((0 : Int)).toNat = 0 from rfl] at hx770_0); (try rw [show 0 * 2 = 0 from rfl] at hx770_0); (try rw [Addr.add_zero'] at hx770_0); (try rw [show ((0 : Int)).toNat = 0 from rfl] at hx770_1); (try rw [show 0 * 2 = 0 from rfl] at hx770_1); (try rw [Addr.add_zero'] at hx770_1); replace hx770_0 := hc HB hx770_0; replace hx770_1 := hc HB hx770_1; replace p770 := eq_true p770; replace q770 := eq_true q770; refine start_ (n := 21) (S := fun w' => w'.cell? ad767 = some (.int .i64 ((rd_T138 l0 0).f0)) ∧ w'.cell? ⟨ad767.block, ad767.off + 1, none⟩ = some (.int .i64 ((rd_T138 l0 0).f1)) ∧ w'.cell? ad767 = some (.int .i64 ((rd_T138 l0 0).f0)) ∧ w'.cell? ⟨ad767.block, ad767.off + 1, none⟩ = some (.int .i64 ((rd_T138 l0 0).f1)) ∧ w'.cell? ad767 = some (.int .i64 ((rd_T138 l0 0).f0)) ∧ w'.cell? ⟨ad767.block, ad767.off + 1, none⟩ = some (.int .i64 ((rd_T138 l0 0).f1)) ∧ w'.cell? ad767 = some (.int .i64 ((rd_T138 l0 0).f0)) ∧ w'.cell? ⟨ad767.block, ad767.off + 1, none⟩ = some (.int .i64 ((rd_T138 l0 0).f1))) (ds := []) _ (by kernel_rfl) rfl rfl ⟨((HB.out.cell (World.block_lt_of_cell? w _ hw767_0)).trans hw767_0), ((HB.out.cell (World.block_lt_of_cell? w _ hw767_1)).trans hw767_1), ((HB.out.cell (World.block_lt_of_cell? w _ hw768_0)).trans hw768_0), ((HB.out.cell (World.block_lt_of_cell? w _ hw768_1)).trans hw768_1), ((HB.out.cell (World.block_lt_of_cell? w _ hw769_0)).trans hw769_0), ((HB.out.cell (World.block_lt_of_cell? w _ hw769_1)).trans hw769_1), ((HB.out.cell (World.block_lt_of_cell? w _ hw770_0)).trans hw770_0), ((HB.out.cell (World.block_lt_of_cell? w _ hw770_1)).trans hw770_1)⟩ (fun hH => ?_); refine with_tabW Rf_Constants.tab1 Rf_Constants.bits1 (fun HT_ HW_ => ?_); generalize w3.drew = w4 at BK766 HB hx767_0 hx767_1 hx768_0 hx768_1 hx769_0 hx769_1 hx770_0 hx770_1 hH ⊢; refine pZ 0 (some 6) (bs 21 1) HT_ ?_; refine pZ 1 (some 7) (bs 21 3) HT_ ?_; refine pZ 2 (some 8) (bs 21 7) HT_ ?_; refine pZ 4 (some 10) (bs 21 23) HT_ ?_; refine pZ 5 (some 11) (bs 21 55) HT_ ?_; refine pZ 6 (some 12) (bs 21 119) HT_ ?_; refine pZ 9 (some 15) (bs 21 631) HT_ ?_; refine pZ 10 (some 16) (bs 21 1655) HT_ ?_; refine pZ 11 (some 17) (bs 21 3703) HT_ ?_; refine pZ 13 (some 19) (bs 21 11895) HT_ ?_; refine pZ 14 (some 20) (bs 21 28279) HT_ ?_; refine pZ 15 (some 21) (bs 21 61047) HT_ ?_; refine takeZ 3 (some 9) (bs 21 61055) (tw HT_ HW_) hH ?_; refine takeZ 7 (some 13) (bs 21 61183) (tw HT_ HW_) hH ?_; refine pZ 8 (some 14) (bs 21 61439) HT_ ?_; refine takeZ 12 (some 18) (bs 21 65535) (tw HT_ HW_) hH ?_; refine takeZ 16 (some 22) (bs 21 131071) (tw HT_ HW_) hH ?_; refine pZ 17 (some 23) (bs 21 262143) HT_ ?_; refine pZ 18 (some 24) (bs 21 524287) HT_ ?_; refine oneZ 19 (some 4) (bs 21 1048575) (o1 HT_) fun K hK => ?_; refine box_step ?hg (N := 4) ?hd (cs := #[.int .i64 0, .int .i64 0]) (t := 54) ?hr ?_; (case hd => rfl); (case hg => rfl); (case hr => first | (go_simp; done) | (go_simp; rfl))
  intro gb771 hg w5 hbox hb; have BK771 := m0 hbox; have GW771 := gw w hg; have GE771 := gw w hg; replace HB := sb HB hb; have NB766_771 := nl BK766 hg; have NB771_766 := ng (nl BK766 hg); replace BK766 := bb BK766 hb; clear hb hbox hg; refine hK.out _ _ ⟨((HB.out.cell (World.block_lt_of_cell? w _ hw767_0)).trans hw767_0), ((HB.out.cell (World.block_lt_of_cell? w _ hw767_1)).trans hw767_1), ((HB.out.cell (World.block_lt_of_cell? w _ hw768_0)).trans hw768_0), ((HB.out.cell (World.block_lt_of_cell? w _ hw768_1)).trans hw768_1), ((HB.out.cell (World.block_lt_of_cell? w _ hw769_0)).trans hw769_0), ((HB.out.cell (World.block_lt_of_cell? w _ hw769_1)).trans hw769_1), ((HB.out.cell (World.block_lt_of_cell? w _ hw770_0)).trans hw770_0), ((HB.out.cell (World.block_lt_of_cell? w _ hw770_1)).trans hw770_1)⟩ (fun hH => ?_); clear hK K; refine nz 4 ?_; refine oneZ 20 (none) (bs 21 2097151) (o1 HT_) fun K hK => ?_; obtain ⟨hs6, hfs6⟩ := q0 BK771; obtain ⟨hs7, hfs7⟩ := q1 BK771; refine skip_ (w1 := ?_) (by rfl) rfl ?_ ?_; rotate_left
  ·go_simp
   rfl
  refine hK.out _ _ ⟨((cell_far (p := ⟨gb771, _, none⟩) (wz hw767_0 GW771) _).trans (((cell_far (p := ⟨gb771, _, none⟩) (wz hw767_0 GW771) _).trans (hH.1)))), ((cell_far (p := ⟨gb771, _, none⟩) (wz hw767_1 GW771) _).trans (((cell_far (p := ⟨gb771, _, none⟩) (wz hw767_1 GW771) _).trans (hH.2.1)))), ((cell_far (p := ⟨gb771, _, none⟩) (wz hw768_0 GW771) _).trans (((cell_far (p := ⟨gb771, _, none⟩) (wz hw768_0 GW771) _).trans (hH.2.2.1)))), ((cell_far (p := ⟨gb771, _, none⟩) (wz hw768_1 GW771) _).trans (((cell_far (p := ⟨gb771, _, none⟩) (wz hw768_1 GW771) _).trans (hH.2.2.2.1)))), ((cell_far (p := ⟨gb771, _, none⟩) (wz hw769_0 GW771) _).trans (((cell_far (p := ⟨gb771, _, none⟩) (wz hw769_0 GW771) _).trans (hH.2.2.2.2.1)))), ((cell_far (p := ⟨gb771, _, none⟩) (wz hw769_1 GW771) _).trans (((cell_far (p := ⟨gb771, _, none⟩) (wz hw769_1 GW771) _).trans (hH.2.2.2.2.2.1)))), ((cell_far (p := ⟨gb771, _, none⟩) (wz hw770_0 GW771) _).trans (((cell_far (p := ⟨gb771, _, none⟩) (wz hw770_0 GW771) _).trans (hH.2.2.2.2.2.2.1)))), ((cell_far (p := ⟨gb771, _, none⟩) (wz hw770_1 GW771) _).trans (((cell_far (p := ⟨gb771, _, none⟩) (wz hw770_1 GW771) _).trans (hH.2.2.2.2.2.2.2))))⟩ (fun hH => ?_); clear hK K; refine done_ (done_of HT_.out (by kernel_rfl)) ?_
  try go_wp2
  go_loopg [5] k (fun kq v5 w' => ∃ (x5_1 : Int) (x772000_1 : Int) (x772001_1 : Int), v5 = .int .i64 x5_1 ∧ Aside0 (Rf_Constants.l0 kq l0 x5_1 x772000_1 x772001_1 = some (r1, r2, r3)) ∧ Aside0 (kq ≤ k) ∧ Aside0 (w'.heap[gb766]? = some (.cells #[.int .i64 0, .int .i64 0] 54 (0, 0))) ∧ Aside0 (w'.heap[gb771]? = some (.cells #[.int .i64 x772000_1, .int .i64 x772001_1] 54 (0, 0))) ∧ Aside0 (Below w.heap.size w w'))
  case atStart => exact ⟨(1), (wrap64 (((rd_T138 l0 0).f0) - ((rd_T138 l0 0).f1))), (wrap64 (((rd_T138 l0 0).f0) + ((rd_T138 l0 0).f1))), rz, H', ⟨Nat.le_refl _⟩, ⟨bq BK766.out⟩, ⟨bq BK771.out⟩, ⟨bz⟩⟩
  case round =>
   clear H'
   try clear hx7
   try clear qi7
   try clear hx767_0
   try clear hx767_1
   try clear hx768_0
   try clear hx768_1
   try clear hx769_0
   try clear hx769_1
   try clear hx770_0
   try clear hx770_1
   obtain ⟨x5_1, x772000_1, x772001_1, rfl, HA, HK1, BK766, BK771, HB⟩ := hrel
   cases gk with
   | zero => exact absurd HA.out (by simp [Rf_Constants.l0])
   | succ k1 =>
    have H := HA.out; clear HA; simp only [Rf_Constants.l0] at H
    by_cases c8 : x5_1 < (l0.length : Int)
    ·rw [if_pos c8] at H; have c8b0 := decide_eq_true c8; clear c8
     by_cases c9 : 0 ≤ x5_1
     ·rw [if_pos c9] at H; have c9b0 := decide_eq_true c9; clear c9; obtain ⟨ji10, hji10⟩ : ∃ j_ : Int, (mx x772000_1 (wrap64 (((rd_T138 l0 x5_1).f0) - ((rd_T138 l0 x5_1).f1)))) = j_ := ⟨_, rfl⟩; replace H : (Rf_Constants.l0 k1 l0 (wrap64 (x5_1 + 1)) ji10 (mn x772001_1 (wrap64 (((rd_T138 l0 x5_1).f0) + ((rd_T138 l0 x5_1).f1))))) = some (r1, r2, r3) := by first | (rw [hji10] at H; exact H) | (simp only [hji10] at H ⊢; exact H)
      have hji10_ : (if x772000_1 < (wrap64 (((rd_T138 l0 x5_1).f0) - ((rd_T138 l0 x5_1).f1))) then (wrap64 (((rd_T138 l0 x5_1).f0) - ((rd_T138 l0 x5_1).f1))) else x772000_1) = ji10 := hji10; obtain ⟨ji11, hji11⟩ : ∃ j_ : Int, (mn x772001_1 (wrap64 (((rd_T138 l0 x5_1).f0) + ((rd_T138 l0 x5_1).f1)))) = j_ := ⟨_, rfl⟩; replace H : (Rf_Constants.l0 k1 l0 (wrap64 (x5_1 + 1)) ji10 ji11) = some (r1, r2, r3) := by first | (rw [hji11] at H; exact H) | (simp only [hji11] at H ⊢; exact H)
      have hji11_ : (if (wrap64 (((rd_T138 l0 x5_1).f0) + ((rd_T138 l0 x5_1).f1))) < x772001_1 then (wrap64 (((rd_T138 l0 x5_1).f0) + ((rd_T138 l0 x5_1).f1))) else x772001_1) = ji11 := hji11; have H' := m0 H; clear H
      try go_wp2
      replace BK766 := bd BK766; replace BK771 := bd BK771; replace HB := sd HB; have p772 : 0 ≤ (x5_1 : Int) := od; have q772 : x5_1 < (l0.length : Int) := od; obtain ⟨ad772, e772, hx772_0, hx772_1⟩ := at_T138 HR0.out x5_1 p772 q772; have hw772_1 := hx772_1; have hw772_0 := hx772_0; obtain rfl : ad767 = ad772 := (by injection e772); replace hx772_0 := hc HB hx772_0; replace hx772_1 := hc HB hx772_1; replace p772 := eq_true p772; replace q772 := eq_true q772; have p773 : 0 ≤ (x5_1 : Int) := od; have q773 : x5_1 < (l0.length : Int) := od; obtain ⟨ad773, e773, hx773_0, hx773_1⟩ := at_T138 HR0.out x5_1 p773 q773; have hw773_1 := hx773_1; have hw773_0 := hx773_0; obtain rfl : ad767 = ad773 := (by injection e773); replace hx773_0 := hc HB hx773_0; replace hx773_1 := hc HB hx773_1; replace p773 := eq_true p773; replace q773 := eq_true q773; have p774 : 0 ≤ (x5_1 : Int) := od; have q774 : x5_1 < (l0.length : Int) := od; obtain ⟨ad774, e774, hx774_0, hx774_1⟩ := at_T138 HR0.out x5_1 p774 q774; have hw774_1 := hx774_1; have hw774_0 := hx774_0; obtain rfl : ad767 = ad774 := (by injection e774); replace hx774_0 := hc HB hx774_0; replace hx774_1 := hc HB hx774_1; replace p774 := eq_true p774; replace q774 := eq_true q774; have p775 : 0 ≤ (x5_1 : Int) := od; have q775 : x5_1 < (l0.length : Int) := od; obtain ⟨ad775, e775, hx775_0, hx775_1⟩ := at_T138 HR0.out x5_1 p775 q775; have hw775_1 := hx775_1; have hw775_0 := hx775_0; obtain rfl : ad767 = ad775 := (by injection e775); replace hx775_0 := hc HB hx775_0; replace hx775_1 := hc HB hx775_1; replace p775 := eq_true p775; replace q775 := eq_true q775; refine start_ (n := 30) (S := fun w' => w'.cell? ⟨gb771, 0, none⟩ = some (.int .i64 x772000_1) ∧ w'.cell? ⟨gb771, 1, none⟩ = some (.int .i64 x772001_1) ∧ w'.cell? (ad767.add ((x5_1).toNat * 2)) = some (.int .i64 ((rd_T138 l0 x5_1).f0)) ∧ w'.cell? ⟨(ad767.add ((x5_1).toNat * 2)).block, (ad767.add ((x5_1).toNat * 2)).off + 1, none⟩ = some (.int .i64 ((rd_T138 l0 x5_1).f1)) ∧ w'.cell? (ad767.add ((x5_1).toNat * 2)) = some (.int .i64 ((rd_T138 l0 x5_1).f0)) ∧ w'.cell? ⟨(ad767.add ((x5_1).toNat * 2)).block, (ad767.add ((x5_1).toNat * 2)).off + 1, none⟩ = some (.int .i64 ((rd_T138 l0 x5_1).f1)) ∧ w'.cell? (ad767.add ((x5_1).toNat * 2)) = some (.int .i64 ((rd_T138 l0 x5_1).f0)) ∧ w'.cell? ⟨(ad767.add ((x5_1).toNat * 2)).block, (ad767.add ((x5_1).toNat * 2)).off + 1, none⟩ = some (.int .i64 ((rd_T138 l0 x5_1).f1)) ∧ w'.cell? (ad767.add ((x5_1).toNat * 2)) = some (.int .i64 ((rd_T138 l0 x5_1).f0)) ∧ w'.cell? ⟨(ad767.add ((x5_1).toNat * 2)).block, (ad767.add ((x5_1).toNat * 2)).off + 1, none⟩ = some (.int .i64 ((rd_T138 l0 x5_1).f1))) (ds := [29]) _ (by kernel_rfl) rfl rfl ⟨(blk_cell BK771.out 0).trans rfl, (blk_cell BK771.out 1).trans rfl, ((HB.out.cell (World.block_lt_of_cell? w _ hw772_0)).trans hw772_0), ((HB.out.cell (World.block_lt_of_cell? w _ hw772_1)).trans hw772_1), ((HB.out.cell (World.block_lt_of_cell? w _ hw773_0)).trans hw773_0), ((HB.out.cell (World.block_lt_of_cell? w _ hw773_1)).trans hw773_1), ((HB.out.cell (World.block_lt_of_cell? w _ hw774_0)).trans hw774_0), ((HB.out.cell (World.block_lt_of_cell? w _ hw774_1)).trans hw774_1), ((HB.out.cell (World.block_lt_of_cell? w _ hw775_0)).trans hw775_0), ((HB.out.cell (World.block_lt_of_cell? w _ hw775_1)).trans hw775_1)⟩ (fun hH => ?_); refine with_tabW Rf_Constants.tab5 Rf_Constants.bits5 (fun HT_ HW_ => ?_); generalize wr.drew = w12 at BK766 BK771 HB hx772_0 hx772_1 hx773_0 hx773_1 hx774_0 hx774_1 hx775_0 hx775_1 hH ⊢; refine pZ 0 (some 31) (bs 30 1) HT_ ?_; refine pZ 2 (some 33) (bs 30 5) HT_ ?_; refine pZ 3 (some 34) (bs 30 13) HT_ ?_; refine pZ 4 (some 35) (bs 30 29) HT_ ?_; refine pZ 5 (some 36) (bs 30 61) HT_ ?_; refine pZ 7 (some 38) (bs 30 189) HT_ ?_; refine pZ 8 (some 39) (bs 30 445) HT_ ?_; refine pZ 9 (some 40) (bs 30 957) HT_ ?_; refine pZ 10 (some 41) (bs 30 1981) HT_ ?_; refine pZ 14 (some 45) (bs 30 18365) HT_ ?_; refine pZ 16 (some 47) (bs 30 83901) HT_ ?_; refine pZ 17 (some 48) (bs 30 214973) HT_ ?_; refine pZ 18 (some 49) (bs 30 477117) HT_ ?_; refine pZ 19 (some 50) (bs 30 1001405) HT_ ?_; refine pZ 21 (some 52) (bs 30 3098557) HT_ ?_; refine pZ 22 (some 53) (bs 30 7292861) HT_ ?_; refine pZ 23 (some 54) (bs 30 15681469) HT_ ?_; refine pZ 24 (some 55) (bs 30 32458685) HT_ ?_; refine takeZ 1 (some 32) (bs 30 32458687) (tw HT_ HW_) hH ?_; refine takeZ 6 (some 37) (bs 30 32458751) (tw HT_ HW_) hH ?_; refine takeZ 11 (some 42) (bs 30 32460799) (tw HT_ HW_) hH ?_; refine pZ 12 (some 43) (bs 30 32464895) HT_ ?_; refine pZ 13 (some 44) (bs 30 32473087) HT_ ?_; refine takeZ 15 (some 46) (bs 30 32505855) (tw HT_ HW_) hH ?_; refine takeZ 20 (some 51) (bs 30 33554431) (tw HT_ HW_) hH ?_; refine takeZ 25 (some 56) (bs 30 67108863) (tw HT_ HW_) hH ?_; refine pZ 26 (some 57) (bs 30 134217727) HT_ ?_; refine pZ 27 (some 58) (bs 30 268435455) HT_ ?_; refine pZ 28 (some 59) (bs 30 536870911) HT_ ?_; refine last_ (i := 29) (N := none) (bs 30 1073741823) rfl rfl (o1 HT_) (by decide) (fun K hK => ?_); obtain ⟨hs13, hfs13⟩ := q0 BK771; obtain ⟨hs14, hfs14⟩ := q1 BK771; refine skip_ (w1 := ?_) (by rfl) rfl ?_ ?_; rotate_left
      ·go_simp
       rfl
      refine hK.out _ _ ?_; clear hK K; refine done_ (done_of HT_.out (by kernel_rfl)) ?_
      try go_wp2
      go_roundg k1
      case measure => have := HK1.out; omega
      case rel => exact ⟨(wrap64 (x5_1 + 1)), (ji10), (ji11), rz, H', ⟨by have := HK1.out; omega⟩, ⟨bq BK766.out⟩, ⟨bq BK771.out⟩, ⟨bz⟩⟩
     ·rw [if_neg c9] at H; exact absurd H (by simp)
    ·rw [if_neg c8] at H; have c8b0 := decide_eq_false c8; clear c8
     by_cases c15 : x772000_1 > x772001_1
     ·rw [if_pos c15] at H; have c15b0 := decide_eq_true c15; clear c15; simp only [Option.some.injEq, Prod.mk.injEq] at H; obtain ⟨rfl, rfl, rfl⟩ := H; have hnb16 := NB771_766.out; have hnc16 := NB766_771.out; obtain ⟨_, _, _, _⟩ := b2 BK771; obtain ⟨_, _, _, _⟩ := b2 BK766
      go_wp2
      refine bodyPost_ret (results_ct rfl _ _ gb766 54 #[.int .i64 0, .int .i64 0] (0, 0) _ rfl (bq BK766.out) Try.underlying54 rfl (by kernel_rfl)) rfl ?_; exact ez
     ·rw [if_neg c15] at H; have c15b0 := decide_eq_false c15; clear c15; simp only [Option.some.injEq, Prod.mk.injEq] at H; obtain ⟨rfl, rfl, rfl⟩ := H; have hnb19 := NB771_766.out; have hnc19 := NB766_771.out; obtain ⟨_, _, _, _⟩ := b2 BK771; obtain ⟨_, _, _, _⟩ := b2 BK766
      go_wp2
      refine bodyPost_ret (results_ct rfl _ _ gb766 54 #[.int .i64 x772000_1, .int .i64 x772001_1] (0, 0) _ rfl (bq BK766.out) Try.underlying54 rfl (by kernel_rfl)) rfl ?_; exact ez
 ·rw [if_neg c2] at H; exact absurd H (by simp)
end
section
attribute [local go_sem high] eqA54
mutual
def Lw_CloudProfiles.j0 : Nat → List Int → Int → List (S138) → Bool → Option (Bool)
  | 0, _, _, _, _ => none
  | k + 1, x0, x1, x2, x26 => if x26 = true then (some true) else ((Bs_CopyInts.f x0).bind fun t778 => ((L_CheckProfile.f k t778).bind fun bt781 => ((Bs_CopyInts.f x0).bind fun t783 => ((L_Undone.f k t783 x1).bind fun bt786 => ((Rf_CopyPoints.f x2).bind fun t790 => ((L_ConstantOf.f k t790).bind fun bt793 => ((Rf_CheckProfile.f k x0).bind fun bt797 => (if bt781.2 = bt797.2 then (Lw_CloudProfiles.j1 k x0 x1 x2 bt786.1 bt786.2 bt793.2.2 bt797.2 (bt781.1 != bt797.1) bt793.1 bt793.2.1) else (Lw_CloudProfiles.j1 k x0 x1 x2 bt786.1 bt786.2 bt793.2.2 bt797.2 true bt793.1 bt793.2.1)))))))))
def Lw_CloudProfiles.j1 : Nat → List Int → Int → List (S138) → List (S100) → Int → Int → Int → Bool → Int → Int → Option (Bool)
  | 0, _, _, _, _, _, _, _, _, _, _ => none
  | k + 1, x0, x1, x2, x9, x10, x12, x14, x58, x797000, x797001 => if x58 = true then (some false) else ((Rf_ConstantErr.f x1).bind fun t799 => ((Lw_both.f x14 t799).bind fun t800 => (if t800 = 0 then ((Rf_BreakErr.f k x0 x1).bind fun t801 => (Lw_CloudProfiles.j2 k x0 x1 x2 x9 x10 x12 t801 x797000 x797001)) else (Lw_CloudProfiles.j2 k x0 x1 x2 x9 x10 x12 t800 x797000 x797001))))
def Lw_CloudProfiles.j2 : Nat → List Int → Int → List (S138) → List (S100) → Int → Int → Int → Int → Int → Option (Bool)
  | 0, _, _, _, _, _, _, _, _, _ => none
  | k + 1, x0, x1, x2, x9, x10, x12, x14, x797000, x797001 => if x14 = 0 then (if x10 = 0 then ((Rf_Shares.f k x0 x1).bind fun t802 => ((Bs_Fracs.f k x9 t802).bind fun t805 => (Lw_CloudProfiles.j3 k x2 x12 (!t805) x797000 x797001))) else (Lw_CloudProfiles.j3 k x2 x12 true x797000 x797001)) else (if x10 = x14 then (if (x9.length : Int) = 0 then (Lw_CloudProfiles.j3 k x2 x12 false x797000 x797001) else (Lw_CloudProfiles.j3 k x2 x12 true x797000 x797001)) else (Lw_CloudProfiles.j3 k x2 x12 true x797000 x797001))
def Lw_CloudProfiles.j3 : Nat → List (S138) → Int → Bool → Int → Int → Option (Bool)
  | 0, _, _, _, _, _ => none
  | k + 1, x2, x12, x95, x797000, x797001 => if x95 = true then (some false) else ((Rf_PointsErr.f k x2).bind fun t806 => (if t806 = 0 then ((Rf_Constants.f k x2).bind fun bt807 => (if bt807.2.2 = true then (if x12 = 0 then (some (x797000 == bt807.1 && (x797001 == bt807.2.1))) else (some false)) else (if x12 = 12 then (some (x797000 == 0 && (x797001 == 0))) else (some false)))) else (if x12 = t806 then (some (x797000 == 0 && (x797001 == 0))) else (some false))))
end
def Lw_CloudProfiles.f (k : Nat) (l0 : List Int) (a1 : Int) (l2 : List (S138)) : Option (Bool) := (Lw_awake.f k).bind fun t776 => (if t776 = true then ((Lw_few.f l0).bind fun t777 => (if t777 = true then (Lw_CloudProfiles.j0 k l0 a1 l2 (decide ((l2.length : Int) > 14))) else (Lw_CloudProfiles.j0 k l0 a1 l2 true))) else (some false))
theorem Lw_CloudProfiles.mono_l : ∀ k, (∀ y0 y1 y2 y3, LeO (Lw_CloudProfiles.j0 k y0 y1 y2 y3) (Lw_CloudProfiles.j0 (k + 1) y0 y1 y2 y3)) ∧ (∀ y0 y1 y2 y3 y4 y5 y6 y7 y8 y9, LeO (Lw_CloudProfiles.j1 k y0 y1 y2 y3 y4 y5 y6 y7 y8 y9) (Lw_CloudProfiles.j1 (k + 1) y0 y1 y2 y3 y4 y5 y6 y7 y8 y9)) ∧ (∀ y0 y1 y2 y3 y4 y5 y6 y7 y8, LeO (Lw_CloudProfiles.j2 k y0 y1 y2 y3 y4 y5 y6 y7 y8) (Lw_CloudProfiles.j2 (k + 1) y0 y1 y2 y3 y4 y5 y6 y7 y8)) ∧ (∀ y0 y1 y2 y3 y4, LeO (Lw_CloudProfiles.j3 k y0 y1 y2 y3 y4) (Lw_CloudProfiles.j3 (k + 1) y0 y1 y2 y3 y4))
  | 0 => ⟨fun _ _ _ _ r h => by simp [Lw_CloudProfiles.j0] at h, fun _ _ _ _ _ _ _ _ _ _ r h => by simp [Lw_CloudProfiles.j1] at h, fun _ _ _ _ _ _ _ _ _ r h => by simp [Lw_CloudProfiles.j2] at h, fun _ _ _ _ _ r h => by simp [Lw_CloudProfiles.j3] at h⟩
  | k + 1 => by
    obtain ⟨ih0, ih1, ih2, ih3⟩ := Lw_CloudProfiles.mono_l k; refine ⟨?_, ?_, ?_, ?_⟩
    · intro y0 y1 y2 y3; unfold Lw_CloudProfiles.j0
      repeat' with_reducible first
        | exact ih0 ..
        | exact ih1 ..
        | exact ih2 ..
        | exact ih3 ..
        | exact L_CheckProfile.mono ..
        | exact L_ConstantOf.mono ..
        | exact L_Undone.mono ..
        | exact Bs_Fracs.mono ..
        | exact Lw_awake.mono ..
        | exact Rf_BreakErr.mono ..
        | exact Rf_CheckProfile.mono ..
        | exact Rf_Constants.mono ..
        | exact Rf_PointsErr.mono ..
        | exact Rf_Shares.mono ..
        | exact LeO.refl ..
        | exact LeO.none ..
        | refine LeO.ite ?_ ?_
        | refine LeO.bind ?_ (fun _ => ?_)
    · intro y0 y1 y2 y3 y4 y5 y6 y7 y8 y9; unfold Lw_CloudProfiles.j1
      repeat' with_reducible first
        | exact ih0 ..
        | exact ih1 ..
        | exact ih2 ..
        | exact ih3 ..
        | exact L_CheckProfile.mono ..
        | exact L_ConstantOf.mono ..
        | exact L_Undone.mono ..
        | exact Bs_Fracs.mono ..
        | exact Lw_awake.mono ..
        | exact Rf_BreakErr.mono ..
        | exact Rf_CheckProfile.mono ..
        | exact Rf_Constants.mono ..
        | exact Rf_PointsErr.mono ..
        | exact Rf_Shares.mono ..
        | exact LeO.refl ..
        | exact LeO.none ..
        | refine LeO.ite ?_ ?_
        | refine LeO.bind ?_ (fun _ => ?_)
    · intro y0 y1 y2 y3 y4 y5 y6 y7 y8; unfold Lw_CloudProfiles.j2
      repeat' with_reducible first
        | exact ih0 ..
        | exact ih1 ..
        | exact ih2 ..
        | exact ih3 ..
        | exact L_CheckProfile.mono ..
        | exact L_ConstantOf.mono ..
        | exact L_Undone.mono ..
        | exact Bs_Fracs.mono ..
        | exact Lw_awake.mono ..
        | exact Rf_BreakErr.mono ..
        | exact Rf_CheckProfile.mono ..
        | exact Rf_Constants.mono ..
        | exact Rf_PointsErr.mono ..
        | exact Rf_Shares.mono ..
        | exact LeO.refl ..
        | exact LeO.none ..
        | refine LeO.ite ?_ ?_
        | refine LeO.bind ?_ (fun _ => ?_)
    · intro y0 y1 y2 y3 y4; unfold Lw_CloudProfiles.j3
      repeat' with_reducible first
        | exact ih0 ..
        | exact ih1 ..
        | exact ih2 ..
        | exact ih3 ..
        | exact L_CheckProfile.mono ..
        | exact L_ConstantOf.mono ..
        | exact L_Undone.mono ..
        | exact Bs_Fracs.mono ..
        | exact Lw_awake.mono ..
        | exact Rf_BreakErr.mono ..
        | exact Rf_CheckProfile.mono ..
        | exact Rf_Constants.mono ..
        | exact Rf_PointsErr.mono ..
        | exact Rf_Shares.mono ..
        | exact LeO.refl ..
        | exact LeO.none ..
        | refine LeO.ite ?_ ?_
        | refine LeO.bind ?_ (fun _ => ?_)
theorem Lw_CloudProfiles.mono : ∀ a0 a1 a2 k, LeO (Lw_CloudProfiles.f k a0 a1 a2) (Lw_CloudProfiles.f (k + 1) a0 a1 a2) := by
  intro a0 a1 a2 k; obtain ⟨ih0, ih1, ih2, ih3⟩ := Lw_CloudProfiles.mono_l k; unfold Lw_CloudProfiles.f
  repeat' with_reducible first
    | exact ih0 ..
    | exact ih1 ..
    | exact ih2 ..
    | exact ih3 ..
    | exact L_CheckProfile.mono ..
    | exact L_ConstantOf.mono ..
    | exact L_Undone.mono ..
    | exact Bs_Fracs.mono ..
    | exact Lw_awake.mono ..
    | exact Rf_BreakErr.mono ..
    | exact Rf_CheckProfile.mono ..
    | exact Rf_Constants.mono ..
    | exact Rf_PointsErr.mono ..
    | exact Rf_Shares.mono ..
    | exact LeO.refl ..
    | exact LeO.none ..
    | refine LeO.ite ?_ ?_
    | refine LeO.bind ?_ (fun _ => ?_)
theorem Lw_CloudProfiles.calls (k : Nat) (A0 : Option Addr) (c0 : Nat) (l0 : List Int) (a1 : Int) (A2 : Option Addr) (c2 : Nat) (l2 : List (S138)) (r : Bool) (w : World) (hr0 : Kd.C (Kd.int .i64) w A0 l0.length l0) (hc0 : l0.length ≤ c0) (hr2 : Kd.C k138 w A2 l2.length l2) (hc2 : l2.length ≤ c2) (H : Lw_CloudProfiles.f k l0 a1 l2 = some r) :
    Calls Try.prog 7 #[.slice A0 l0.length c0, .int .i64 a1, .slice A2 l2.length c2] w fun e w' => e = .returned (.bool r) ∧ Below w.heap.size w w' := by
  have hu54 := Try.underlying54; have HR0 := m0 hr0; have HC0 := m0 hc0; clear hr0 hc0; have HR2 := m0 hr2; have HC2 := m0 hc2; clear hr2 hc2; have HB := m0 (Below.refl w.heap.size w); unfold Lw_CloudProfiles.f at H; replace H := oa H; obtain ⟨t776, A4, H⟩ := H; (try dsimp only at H)
  by_cases c5 : t776 = true
  · subst c5; rw [if_pos rfl] at H; have HC6 := m0 H; clear H; go_enter Try.func7, Try.ntmps7
    go_upto_region 3 with (first | ((with_reducible refine gc 11 rfl ?_); refine gl (some 17) Try.func11 #[] ?_; (with_reducible refine (Lw_awake.calls k  true _ A4.out).mono ?_); rintro e w7 ⟨rfl, hb⟩; refine ⟨_, rfl, ?_⟩; replace HB := sb HB hb; (try clear hb)))
    (try simp only [Act.put, List.setIfInBounds_toArray, List.set_cons_zero, List.set_cons_succ])
    go_cut [26] (fun v26 wc => ∃ (kq : Nat) (x26_5 : Bool), v26 = .bool x26_5 ∧ Aside0 (Lw_CloudProfiles.j0 kq l0 a1 l2 x26_5 = some r) ∧ Aside0 (kq ≤ k) ∧ Aside0 (Below w.heap.size w wc))
    case first =>
      have H := HC6.out; clear HC6; replace H := oa H; obtain ⟨t777, A8, H⟩ := H; (try dsimp only at H)
      by_cases c9 : t777 = true
      · subst c9; rw [if_pos rfl] at H; have H' := m0 H; clear H
        go_wp2_with (first | ((with_reducible refine gc 31 rfl ?_); refine gl (some 20) Try.func31 #[.slice A0 l0.length c0] ?_; (with_reducible refine (Lw_few.calls _ _ l0 true _ ?side1 ?side2 A8.out).mono ?_); (case side1 => exact cb HR0 HB); (case side2 => exact HC0.out); rintro e w' ⟨rfl, ⟨nd, rfl⟩⟩; refine ⟨_, rfl, ?_⟩))
        go_meet
        case rel => exact ⟨_, (decide ((l2.length : Int) > 14)), rz, H', ⟨by first | omega | exact Nat.le_refl _⟩, ⟨bz⟩⟩
      · replace c9 := Bool.eq_false_iff.mpr c9; subst c9; rw [if_neg (show ¬ (false = true) by decide)] at H; have H' := m0 H; clear H
        go_wp2_with (first | ((with_reducible refine gc 31 rfl ?_); refine gl (some 20) Try.func31 #[.slice A0 l0.length c0] ?_; (with_reducible refine (Lw_few.calls _ _ l0 false _ ?side1 ?side2 A8.out).mono ?_); (case side1 => exact cb HR0 HB); (case side2 => exact HC0.out); rintro e w' ⟨rfl, ⟨nd, rfl⟩⟩; refine ⟨_, rfl, ?_⟩))
        go_meet
        case rel => exact ⟨_, (true), rz, H', ⟨by first | omega | exact Nat.le_refl _⟩, ⟨bz⟩⟩
    case rest =>
      clear HC6; obtain ⟨kq, x26_5, rfl, HA, HJ5, HB⟩ := hcut
      cases kq with
      | zero => exact absurd HA.out (by simp [Lw_CloudProfiles.j0])
      | succ kj5 =>
        have H := HA.out; clear HA; simp only [Lw_CloudProfiles.j0] at H
        by_cases c10 : x26_5 = true
        · subst c10; rw [if_pos rfl] at H; obtain rfl := Option.some.inj H
          go_wp2
          go_ret
          exact ez
        · replace c10 := Bool.eq_false_iff.mpr c10; subst c10; rw [if_neg (show ¬ (false = true) by decide)] at H; replace H := oa H; obtain ⟨t778, A11, H⟩ := H; (try dsimp only at H); replace H := oa H; obtain ⟨⟨t781, t782⟩, A12, H⟩ := H; (try dsimp only at H); replace H := oa H; obtain ⟨t783, A13, H⟩ := H; (try dsimp only at H); replace H := oa H; obtain ⟨⟨t786, t787⟩, A14, H⟩ := H; (try dsimp only at H); replace H := oa H; obtain ⟨t790, A15, H⟩ := H; (try dsimp only at H); replace H := oa H; obtain ⟨⟨t793, t794, t795⟩, A16, H⟩ := H; (try dsimp only at H); replace H := oa H; obtain ⟨⟨t797, t798⟩, A17, H⟩ := H; (try dsimp only at H); have HC18 := m0 H; clear H
          go_upto_region 9 with (first | ((with_reducible refine gc 26 rfl ?_); refine gl (some 29) Try.func26 #[.slice A0 l0.length c0] ?_; (with_reducible refine (Bs_CopyInts.calls _ _ l0 t778 _ ?side1 ?side2 A11.out).mono ?_); (case side1 => exact cb HR0 HB); (case side2 => exact HC0.out); rintro e w19 ⟨v779, rfl, ho0, hb⟩; refine ⟨_, rfl, ?_⟩; have HO780 := m0 (Kd.R_lower ho0 (below_size bz)); replace HB := sb HB hb; (try clear hb); (try clear ho0); obtain ⟨Ao20, co20, eo20⟩ := Kd.R_slice HO780.out; subst eo20) | ((with_reducible refine gc 42 rfl ?_); refine gl (some 30) Try.func42 #[.slice Ao20 t778.length co20] ?_; (with_reducible refine (L_CheckProfile.calls kj5 _ _ t778 t781 t782 _ ?side1 ?side2 A12.out).mono ?_); (case side1 => exact bc (Kd.R_reads' HO780.out).2.2); (case side2 => exact (Kd.R_reads' HO780.out).2.1); rintro e w21 ⟨rfl, hb⟩; refine ⟨_, rfl, ?_⟩; replace HO780 := rb HO780 hb; replace HB := sb HB hb; (try clear hb)) | ((with_reducible refine gc 26 rfl ?_); refine gl (some 35) Try.func26 #[.slice A0 l0.length c0] ?_; (with_reducible refine (Bs_CopyInts.calls _ _ l0 t783 _ ?side1 ?side2 A13.out).mono ?_); (case side1 => exact cb HR0 HB); (case side2 => exact HC0.out); rintro e w22 ⟨v784, rfl, ho0, hb⟩; refine ⟨_, rfl, ?_⟩; have HO785 := m0 (Kd.R_lower (Kd.R_new' ho0 (Kd.R_lt (br HO780.out))) (below_size bz)); replace HO780 := m0 (Kd.R_elder' (br HO780.out) (Kd.R_base ho0) hb); replace HB := sb HB hb; (try clear hb); (try clear ho0); obtain ⟨Ao23, co23, eo23⟩ := Kd.R_slice HO785.out; subst eo23) | ((with_reducible refine gc 43 rfl ?_); refine gl (some 37) Try.func43 #[.slice Ao23 t783.length co23, .int .i64 a1] ?_; (with_reducible refine (L_Undone.calls kj5 _ _ t783 a1 t786 t787 _ ?side1 ?side2 A14.out).mono ?_); (case side1 => exact bc (Kd.R_reads' HO785.out).2.2); (case side2 => exact (Kd.R_reads' HO785.out).2.1); rintro e w24 ⟨v788, rfl, ho0, hb⟩; refine ⟨_, rfl, ?_⟩; replace HO780 := rb HO780 hb; replace HO785 := rb HO785 hb; have HO789 := m0 (Kd.R_lower ho0 (below_size bz)); replace HB := sb HB hb; (try clear hb); (try clear ho0)) | ((with_reducible refine gc 45 rfl ?_); refine gl (some 42) Try.func45 #[.slice A2 l2.length c2] ?_; (with_reducible refine (Rf_CopyPoints.calls _ _ l2 t790 _ ?side1 ?side2 A15.out).mono ?_); (case side1 => exact cb HR2 HB); (case side2 => exact HC2.out); rintro e w25 ⟨v791, rfl, ho0, hb⟩; refine ⟨_, rfl, ?_⟩; replace HO780 := rb HO780 hb; replace HO785 := rb HO785 hb; replace HO789 := rb HO789 hb; have HO792 := m0 (Kd.R_lower ho0 (below_size bz)); replace HB := sb HB hb; (try clear hb); (try clear ho0); obtain ⟨Ao26, co26, eo26⟩ := Kd.R_slice HO792.out; subst eo26) | ((with_reducible refine gc 44 rfl ?_); refine gl (some 43) Try.func44 #[.slice Ao26 t790.length co26] ?_; (with_reducible refine (L_ConstantOf.calls kj5 _ _ t790 t793 t794 t795 _ ?side1 ?side2 A16.out).mono ?_); (case side1 => exact bc (Kd.R_reads' HO792.out).2.2); (case side2 => exact (Kd.R_reads' HO792.out).2.1); rintro e w27 ⟨rfl, hb⟩; refine ⟨_, rfl, ?_⟩; replace HO780 := rb HO780 hb; replace HO785 := rb HO785 hb; replace HO789 := rb HO789 hb; replace HO792 := rb HO792 hb; replace HB := sb HB hb; (try clear hb)) | ((with_reducible refine ga 11 rfl ?_); (try (refine gate_guard (by rfl) ?_; dsimp only)); refine be 11 54 #[.int .i64 0, .int .i64 0] ?_; intro gb796 hg w28 hbox hb; replace HO780 := rb HO780 hb; replace HO785 := rb HO785 hb; replace HO789 := rb HO789 hb; replace HO792 := rb HO792 hb; have BK796 := m0 hbox; have GE796 := gw w hg; replace HB := sb HB hb; clear hb hbox hg; obtain ⟨hcz29_0, hcz29_1, hfz29_0, hfz29_1⟩ := b2 BK796) | ((with_reducible refine gc 46 rfl ?_); refine gl (some 48) Try.func46 #[.slice A0 l0.length c0] ?_; (with_reducible refine (Rf_CheckProfile.calls kj5 _ _ l0 t797 t798 _ ?side1 ?side2 A17.out).mono ?_); (case side1 => exact Kd.C_below HR0.out bz); (case side2 => exact HC0.out); rintro e w' ⟨rfl, ⟨nd, rfl⟩⟩; refine ⟨_, rfl, ?_⟩))
          (try simp only [Act.put, List.setIfInBounds_toArray, List.set_cons_zero, List.set_cons_succ])
          go_cut [58] (fun v58 wc => ∃ (kq : Nat) (x58_17 : Bool), v58 = .bool x58_17 ∧ Aside0 (Lw_CloudProfiles.j1 kq l0 a1 l2 t786 t787 t795 t798 x58_17 t793 t794 = some r) ∧ Aside0 (kq ≤ kj5) ∧ Aside0 (Kd.R k100 100 wc w.heap.size (fun _ => True) v788 t786) ∧ Aside0 (wc.heap[gb796]? = some (.cells #[.int .i64 t793, .int .i64 t794] 54 (0, 0))) ∧ Aside0 (Below w.heap.size w wc))
          case first =>
            have H := HC18.out; clear HC18
            by_cases c30 : t782 = t798
            · rw [if_pos c30] at H; have c30b0 := beq_iff_eq.mpr c30; have c30b1 := bne_eq_false_iff_eq.mpr c30; clear c30
              (first | rw [c30b0] | (simp only [i64_w, i32_w]; rw [c30b0]) | skip)
              have H' := m0 H; clear H
              go_wp2
              go_meet
              case rel => exact ⟨_, ((t781 != t797)), rz, H', ⟨by have := HJ5.out; first | omega | exact Nat.le_refl _⟩, ⟨by (with_reducible repeat (first | apply Kd.R_alloc | apply Kd.R_drewN | apply Kd.R_drew)); exact Kd.R_mono (rf (rf (Kd.R_types HO789.out BK796.out (by decide)) (·.2)) (·.2)) (fun _ hk => trivial)⟩, ⟨bq BK796.out⟩, ⟨bz⟩⟩
            · rw [if_neg c30] at H; have c30b0 := beq_eq_false_iff_ne.mpr c30; have c30b1 := bne_iff_ne.mpr c30
              (first | rw [c30b0] | (simp only [i64_w, i32_w]; rw [c30b0]) | skip)
              have H' := m0 H; clear H
              go_wp2
              go_meet
              case rel => exact ⟨_, (true), rz, H', ⟨by have := HJ5.out; first | omega | exact Nat.le_refl _⟩, ⟨by (with_reducible repeat (first | apply Kd.R_alloc | apply Kd.R_drewN | apply Kd.R_drew)); exact Kd.R_mono (rf (rf (Kd.R_types HO789.out BK796.out (by decide)) (·.2)) (·.2)) (fun _ hk => trivial)⟩, ⟨bq BK796.out⟩, ⟨bz⟩⟩
          case rest =>
            clear HC18
            try clear hcz29_0
            try clear hcz29_1
            try clear hfz29_0
            try clear hfz29_1
            obtain ⟨kq, x58_17, rfl, HA, HJ17, HO_9, BK796, HB⟩ := hcut
            cases kq with
            | zero => exact absurd HA.out (by simp [Lw_CloudProfiles.j1])
            | succ kj17 =>
              have H := HA.out; clear HA; simp only [Lw_CloudProfiles.j1] at H
              by_cases c31 : x58_17 = true
              · subst c31; rw [if_pos rfl] at H; obtain rfl := Option.some.inj H
                go_wp2
                go_ret
                exact ez
              · replace c31 := Bool.eq_false_iff.mpr c31; subst c31; rw [if_neg (show ¬ (false = true) by decide)] at H; replace H := oa H; obtain ⟨t799, A32, H⟩ := H; (try dsimp only at H); replace H := oa H; obtain ⟨t800, A33, H⟩ := H; (try dsimp only at H); have HC34 := m0 H; clear H
                go_upto_if 64 with (first | ((with_reducible refine gc 47 rfl ?_); refine gl (some 61) Try.func47 #[.int .i64 a1] ?_; (with_reducible refine (Rf_ConstantErr.calls a1 t799 _ A32.out).mono ?_); rintro e w' ⟨rfl, ⟨nd, rfl⟩⟩; refine ⟨_, rfl, ?_⟩) | ((with_reducible refine gc 15 rfl ?_); refine gl (some 62) Try.func15 #[.int .i64 t798, .int .i64 t799] ?_; (with_reducible refine (Lw_both.calls t798 t799 t800 _ A33.out).mono ?_); rintro e w' ⟨rfl, ⟨nd, rfl⟩⟩; refine ⟨_, rfl, ?_⟩))
                (try simp only [Act.put, List.setIfInBounds_toArray, List.set_cons_zero, List.set_cons_succ])
                go_cut [14] (fun v14 wc => ∃ (kq : Nat) (x14_33 : Int), v14 = .int .i64 x14_33 ∧ Aside0 (Lw_CloudProfiles.j2 kq l0 a1 l2 t786 t787 t795 x14_33 t793 t794 = some r) ∧ Aside0 (kq ≤ kj17) ∧ Aside0 (Kd.R k100 100 wc w.heap.size (fun _ => True) v788 t786) ∧ Aside0 (wc.heap[gb796]? = some (.cells #[.int .i64 t793, .int .i64 t794] 54 (0, 0))) ∧ Aside0 (Below w.heap.size w wc))
                case first =>
                  have H := HC34.out; clear HC34
                  by_cases c35 : t800 = 0
                  · rw [if_pos c35] at H; have c35b0 := beq_iff_eq.mpr c35; have c35b1 := bne_eq_false_iff_eq.mpr c35; clear c35
                    (first | rw [c35b0] | (simp only [i64_w, i32_w]; rw [c35b0]) | skip)
                    replace H := oa H; obtain ⟨t801, A36, H⟩ := H; (try dsimp only at H); have H' := m0 H; clear H
                    go_wp2_with (first | ((with_reducible refine gc 48 rfl ?_); refine gl (some 67) Try.func48 #[.slice A0 l0.length c0, .int .i64 a1] ?_; (with_reducible refine (Rf_BreakErr.calls kj17 _ _ l0 a1 t801 _ ?side1 ?side2 A36.out).mono ?_); (case side1 => exact cb HR0 HB); (case side2 => exact HC0.out); rintro e w' ⟨rfl, ⟨nd, rfl⟩⟩; refine ⟨_, rfl, ?_⟩))
                    go_meet
                    case rel => exact ⟨_, (t801), rz, H', ⟨by have := HJ5.out; have := HJ17.out; first | omega | exact Nat.le_refl _⟩, ⟨br HO_9.out⟩, ⟨bk BK796.out⟩, ⟨bz⟩⟩
                  · rw [if_neg c35] at H; have c35b0 := beq_eq_false_iff_ne.mpr c35; have c35b1 := bne_iff_ne.mpr c35
                    (first | rw [c35b0] | (simp only [i64_w, i32_w]; rw [c35b0]) | skip)
                    have H' := m0 H; clear H
                    go_wp2
                    go_meet
                    case rel => exact ⟨_, (t800), rz, H', ⟨by have := HJ5.out; have := HJ17.out; first | omega | exact Nat.le_refl _⟩, ⟨br HO_9.out⟩, ⟨bk BK796.out⟩, ⟨bz⟩⟩
                case rest =>
                  clear HC34
                  try clear hcz29_0
                  try clear hcz29_1
                  try clear hfz29_0
                  try clear hfz29_1
                  obtain ⟨kq, x14_33, rfl, HA, HJ33, HO_9, BK796, HB⟩ := hcut
                  cases kq with
                  | zero => exact absurd HA.out (by simp [Lw_CloudProfiles.j2])
                  | succ kj33 =>
                    have H := HA.out; clear HA; simp only [Lw_CloudProfiles.j2] at H; have HC37 := m0 H; clear H
                    go_upto_region 14 with (fail)
                    go_cut [95] (fun v95 wc => ∃ (kq : Nat) (x95_36 : Bool), v95 = .bool x95_36 ∧ Aside0 (Lw_CloudProfiles.j3 kq l2 t795 x95_36 t793 t794 = some r) ∧ Aside0 (kq ≤ kj33) ∧ Aside0 (wc.heap[gb796]? = some (.cells #[.int .i64 t793, .int .i64 t794] 54 (0, 0))) ∧ Aside0 (Below w.heap.size w wc))
                    case first =>
                      have H := HC37.out; clear HC37
                      by_cases c38 : x14_33 = 0
                      · rw [if_pos c38] at H; have c38b0 := beq_iff_eq.mpr c38; have c38b1 := bne_eq_false_iff_eq.mpr c38; clear c38
                        (first | rw [c38b0] | (simp only [i64_w, i32_w]; rw [c38b0]) | skip)
                        by_cases c39 : t787 = 0
                        · rw [if_pos c39] at H; have c39b0 := beq_iff_eq.mpr c39; have c39b1 := bne_eq_false_iff_eq.mpr c39; clear c39; replace H := oa H; obtain ⟨t802, A40, H⟩ := H; (try dsimp only at H); replace H := oa H; obtain ⟨t805, A41, H⟩ := H; (try dsimp only at H); have H' := m0 H; clear H
                          go_wp2_with (first | (go_at_call 50; (with_reducible refine (Rf_Shares.calls kj33 _ _ l0 a1 t802 _ ?side1 ?side2 A40.out).mono ?_); (case side1 => exact cb HR0 HB); (case side2 => exact HC0.out); rintro e w42 ⟨v803, rfl, ho0, hb⟩; have HO804 := m0 (Kd.R_lower (Kd.R_new' ho0 (Kd.R_lt (br HO_9.out))) (below_size bz)); replace HO_9 := m0 (Kd.R_elder' (br HO_9.out) (Kd.R_base ho0) hb); replace BK796 := bb BK796 hb; replace HB := sb HB hb; (try clear hb); (try clear ho0); obtain ⟨Ao43, co43, eo43⟩ := Kd.R_slice HO_9.out; subst eo43; obtain ⟨Ao44, co44, eo44⟩ := Kd.R_slice HO804.out; subst eo44) | (go_at_call 49; (with_reducible refine (Bs_Fracs.calls kj33 _ _ t786 _ _ t802 t805 _ ?side1 ?side2 ?side3 ?side4 A41.out).mono ?_); (case side1 => exact bc (Kd.R_reads' HO_9.out).2.2); (case side2 => exact (Kd.R_reads' HO_9.out).2.1); (case side3 => exact bc (Kd.R_reads' HO804.out).2.2); (case side4 => exact (Kd.R_reads' HO804.out).2.1); rintro e w' ⟨rfl, ⟨nd, rfl⟩⟩))
                          go_meet
                          case rel => exact ⟨_, (!t805), rz, H', ⟨by have := HJ5.out; have := HJ17.out; have := HJ33.out; first | omega | exact Nat.le_refl _⟩, ⟨bk BK796.out⟩, ⟨bz⟩⟩
                        · rw [if_neg c39] at H; have c39b0 := beq_eq_false_iff_ne.mpr c39; have c39b1 := bne_iff_ne.mpr c39; have H' := m0 H; clear H
                          go_wp2
                          go_meet
                          case rel => exact ⟨_, (true), rz, H', ⟨by have := HJ5.out; have := HJ17.out; have := HJ33.out; first | omega | exact Nat.le_refl _⟩, ⟨bk BK796.out⟩, ⟨bz⟩⟩
                      · rw [if_neg c38] at H; have c38b0 := beq_eq_false_iff_ne.mpr c38; have c38b1 := bne_iff_ne.mpr c38
                        (first | rw [c38b0] | (simp only [i64_w, i32_w]; rw [c38b0]) | skip)
                        by_cases c45 : t787 = x14_33
                        · rw [if_pos c45] at H; have c45b0 := beq_iff_eq.mpr c45; have c45b1 := bne_eq_false_iff_eq.mpr c45; clear c45
                          by_cases c46 : (t786.length : Int) = 0
                          · rw [if_pos c46] at H; have c46b0 := beq_iff_eq.mpr c46; have c46b1 := bne_eq_false_iff_eq.mpr c46; clear c46; have H' := m0 H; clear H; obtain ⟨Ao47, co47, eo47⟩ := Kd.R_slice HO_9.out; subst eo47
                            go_wp2
                            go_meet
                            case rel => exact ⟨_, (false), rz, H', ⟨by have := HJ5.out; have := HJ17.out; have := HJ33.out; first | omega | exact Nat.le_refl _⟩, ⟨bk BK796.out⟩, ⟨bz⟩⟩
                          · rw [if_neg c46] at H; have c46b0 := beq_eq_false_iff_ne.mpr c46; have c46b1 := bne_iff_ne.mpr c46; have c46b2 : ¬ (t786 = []) := fun h_ => c46 (by rw [h_]; rfl); have H' := m0 H; clear H; obtain ⟨Ao48, co48, eo48⟩ := Kd.R_slice HO_9.out; subst eo48
                            go_wp2
                            go_meet
                            case rel => exact ⟨_, (true), rz, H', ⟨by have := HJ5.out; have := HJ17.out; have := HJ33.out; first | omega | exact Nat.le_refl _⟩, ⟨bk BK796.out⟩, ⟨bz⟩⟩
                        · rw [if_neg c45] at H; have c45b0 := beq_eq_false_iff_ne.mpr c45; have c45b1 := bne_iff_ne.mpr c45; have H' := m0 H; clear H
                          go_wp2
                          go_meet
                          case rel => exact ⟨_, (true), rz, H', ⟨by have := HJ5.out; have := HJ17.out; have := HJ33.out; first | omega | exact Nat.le_refl _⟩, ⟨bk BK796.out⟩, ⟨bz⟩⟩
                    case rest =>
                      clear HC37
                      try clear hcz29_0
                      try clear hcz29_1
                      try clear hfz29_0
                      try clear hfz29_1
                      obtain ⟨kq, x95_36, rfl, HA, HJ36, BK796, HB⟩ := hcut
                      cases kq with
                      | zero => exact absurd HA.out (by simp [Lw_CloudProfiles.j3])
                      | succ kj36 =>
                        have H := HA.out; clear HA; simp only [Lw_CloudProfiles.j3] at H
                        by_cases c49 : x95_36 = true
                        · subst c49; rw [if_pos rfl] at H; obtain rfl := Option.some.inj H
                          go_wp2
                          go_ret
                          exact ez
                        · replace c49 := Bool.eq_false_iff.mpr c49; subst c49; rw [if_neg (show ¬ (false = true) by decide)] at H; replace H := oa H; obtain ⟨t806, A50, H⟩ := H; (try dsimp only at H)
                          by_cases c51 : t806 = 0
                          · rw [if_pos c51] at H; have c51b0 := beq_iff_eq.mpr c51; have c51b1 := bne_eq_false_iff_eq.mpr c51; clear c51; replace H := oa H; obtain ⟨⟨t807, t808, t809⟩, A52, H⟩ := H; (try dsimp only at H)
                            by_cases c53 : t809 = true
                            · subst c53; rw [if_pos rfl] at H
                              by_cases c54 : t795 = 0
                              · rw [if_pos c54] at H; have c54b0 := beq_iff_eq.mpr c54; have c54b1 := bne_eq_false_iff_eq.mpr c54; clear c54; obtain rfl := Option.some.inj H
                                go_wp2_with (first | ((with_reducible refine gc 51 rfl ?_); refine gl (some 97) Try.func51 #[.slice A2 l2.length c2] ?_; (with_reducible refine (Rf_PointsErr.calls kj36 _ _ l2 t806 _ ?side1 ?side2 A50.out).mono ?_); (case side1 => exact cb HR2 HB); (case side2 => exact HC2.out); rintro e w' ⟨rfl, ⟨nd, rfl⟩⟩; refine ⟨_, rfl, ?_⟩; (try (rw [drewN_self wc]; generalize hq_ : World.drewN wc _ = wc; replace BK796 := gd BK796 hq_; replace HB := gs HB hq_; clear hq_))) | ((with_reducible refine gc 52 rfl ?_); refine gl (some 110) Try.func52 #[.slice A2 l2.length c2] ?_; (with_reducible refine (Rf_Constants.calls kj36 _ _ l2 t807 t808 true _ ?side1 ?side2 A52.out).mono ?_); (case side1 => exact cb HR2 HB); (case side2 => exact HC2.out); rintro e w55 ⟨rfl, hb⟩; refine ⟨_, rfl, ?_⟩; replace BK796 := bb BK796 hb; replace HB := sb HB hb; (try clear hb)) | ((with_reducible refine ga 15 rfl ?_); (try (refine gate_guard (by rfl) ?_; dsimp only)); refine be 15 54 #[.int .i64 0, .int .i64 0] ?_; intro gb810 hg w56 hbox hb; have BK810 := m0 hbox; have GE810 := gw w hg; replace HB := sb HB hb; have NB796_810 := nl BK796 hg; have NB810_796 := ng (nl BK796 hg); replace BK796 := bb BK796 hb; clear hb hbox hg; have hnb57 := NB810_796.out; have hnc57 := NB796_810.out; obtain ⟨_, _, _, _⟩ := b2 BK810; obtain ⟨_, _, _, _⟩ := b2 BK796))
                                go_ret
                                exact ez
                              · rw [if_neg c54] at H; have c54b0 := beq_eq_false_iff_ne.mpr c54; have c54b1 := bne_iff_ne.mpr c54; obtain rfl := Option.some.inj H
                                go_wp2_with (first | ((with_reducible refine gc 51 rfl ?_); refine gl (some 97) Try.func51 #[.slice A2 l2.length c2] ?_; (with_reducible refine (Rf_PointsErr.calls kj36 _ _ l2 t806 _ ?side1 ?side2 A50.out).mono ?_); (case side1 => exact cb HR2 HB); (case side2 => exact HC2.out); rintro e w' ⟨rfl, ⟨nd, rfl⟩⟩; refine ⟨_, rfl, ?_⟩; (try (rw [drewN_self wc]; generalize hq_ : World.drewN wc _ = wc; replace BK796 := gd BK796 hq_; replace HB := gs HB hq_; clear hq_))) | ((with_reducible refine gc 52 rfl ?_); refine gl (some 110) Try.func52 #[.slice A2 l2.length c2] ?_; (with_reducible refine (Rf_Constants.calls kj36 _ _ l2 t807 t808 true _ ?side1 ?side2 A52.out).mono ?_); (case side1 => exact cb HR2 HB); (case side2 => exact HC2.out); rintro e w60 ⟨rfl, hb⟩; refine ⟨_, rfl, ?_⟩; replace BK796 := bb BK796 hb; replace HB := sb HB hb; (try clear hb)) | ((with_reducible refine ga 15 rfl ?_); (try (refine gate_guard (by rfl) ?_; dsimp only)); refine be 15 54 #[.int .i64 0, .int .i64 0] ?_; intro gb810 hg w61 hbox hb; have BK810 := m0 hbox; have GE810 := gw w hg; replace HB := sb HB hb; have NB796_810 := nl BK796 hg; have NB810_796 := ng (nl BK796 hg); replace BK796 := bb BK796 hb; clear hb hbox hg; have hnb62 := NB810_796.out; have hnc62 := NB796_810.out; obtain ⟨_, _, _, _⟩ := b2 BK810))
                                go_ret
                                exact ez
                            · replace c53 := Bool.eq_false_iff.mpr c53; subst c53; rw [if_neg (show ¬ (false = true) by decide)] at H
                              by_cases c64 : t795 = 12
                              · rw [if_pos c64] at H; have c64b0 := beq_iff_eq.mpr c64; have c64b1 := bne_eq_false_iff_eq.mpr c64; clear c64; obtain rfl := Option.some.inj H
                                go_wp2_with (first | ((with_reducible refine gc 51 rfl ?_); refine gl (some 97) Try.func51 #[.slice A2 l2.length c2] ?_; (with_reducible refine (Rf_PointsErr.calls kj36 _ _ l2 t806 _ ?side1 ?side2 A50.out).mono ?_); (case side1 => exact cb HR2 HB); (case side2 => exact HC2.out); rintro e w' ⟨rfl, ⟨nd, rfl⟩⟩; refine ⟨_, rfl, ?_⟩; (try (rw [drewN_self wc]; generalize hq_ : World.drewN wc _ = wc; replace BK796 := gd BK796 hq_; replace HB := gs HB hq_; clear hq_))) | ((with_reducible refine gc 52 rfl ?_); refine gl (some 110) Try.func52 #[.slice A2 l2.length c2] ?_; (with_reducible refine (Rf_Constants.calls kj36 _ _ l2 t807 t808 false _ ?side1 ?side2 A52.out).mono ?_); (case side1 => exact cb HR2 HB); (case side2 => exact HC2.out); rintro e w65 ⟨rfl, hb⟩; refine ⟨_, rfl, ?_⟩; replace BK796 := bb BK796 hb; replace HB := sb HB hb; (try clear hb)) | ((with_reducible refine ga 15 rfl ?_); (try (refine gate_guard (by rfl) ?_; dsimp only)); refine be 15 54 #[.int .i64 0, .int .i64 0] ?_; intro gb810 hg w66 hbox hb; have BK810 := m0 hbox; have GE810 := gw w hg; replace HB := sb HB hb; have NB796_810 := nl BK796 hg; have NB810_796 := ng (nl BK796 hg); replace BK796 := bb BK796 hb; clear hb hbox hg; have hnb67 := NB810_796.out; have hnc67 := NB796_810.out; obtain ⟨_, _, _, _⟩ := b2 BK810; obtain ⟨_, _, _, _⟩ := b2 BK796))
                                go_ret
                                exact ez
                              · rw [if_neg c64] at H; have c64b0 := beq_eq_false_iff_ne.mpr c64; have c64b1 := bne_iff_ne.mpr c64; obtain rfl := Option.some.inj H
                                go_wp2_with (first | ((with_reducible refine gc 51 rfl ?_); refine gl (some 97) Try.func51 #[.slice A2 l2.length c2] ?_; (with_reducible refine (Rf_PointsErr.calls kj36 _ _ l2 t806 _ ?side1 ?side2 A50.out).mono ?_); (case side1 => exact cb HR2 HB); (case side2 => exact HC2.out); rintro e w' ⟨rfl, ⟨nd, rfl⟩⟩; refine ⟨_, rfl, ?_⟩; (try (rw [drewN_self wc]; generalize hq_ : World.drewN wc _ = wc; replace BK796 := gd BK796 hq_; replace HB := gs HB hq_; clear hq_))) | ((with_reducible refine gc 52 rfl ?_); refine gl (some 110) Try.func52 #[.slice A2 l2.length c2] ?_; (with_reducible refine (Rf_Constants.calls kj36 _ _ l2 t807 t808 false _ ?side1 ?side2 A52.out).mono ?_); (case side1 => exact cb HR2 HB); (case side2 => exact HC2.out); rintro e w70 ⟨rfl, hb⟩; refine ⟨_, rfl, ?_⟩; replace BK796 := bb BK796 hb; replace HB := sb HB hb; (try clear hb)) | ((with_reducible refine ga 15 rfl ?_); (try (refine gate_guard (by rfl) ?_; dsimp only)); refine be 15 54 #[.int .i64 0, .int .i64 0] ?_; intro gb810 hg w71 hbox hb; have BK810 := m0 hbox; have GE810 := gw w hg; replace HB := sb HB hb; have NB796_810 := nl BK796 hg; have NB810_796 := ng (nl BK796 hg); replace BK796 := bb BK796 hb; clear hb hbox hg; have hnb72 := NB810_796.out; have hnc72 := NB796_810.out; obtain ⟨_, _, _, _⟩ := b2 BK810))
                                go_ret
                                exact ez
                          · rw [if_neg c51] at H; have c51b0 := beq_eq_false_iff_ne.mpr c51; have c51b1 := bne_iff_ne.mpr c51
                            by_cases c74 : t795 = t806
                            · rw [if_pos c74] at H; have c74b0 := beq_iff_eq.mpr c74; have c74b1 := bne_eq_false_iff_eq.mpr c74; clear c74; obtain rfl := Option.some.inj H
                              go_wp2_with (first | ((with_reducible refine gc 51 rfl ?_); refine gl (some 97) Try.func51 #[.slice A2 l2.length c2] ?_; (with_reducible refine (Rf_PointsErr.calls kj36 _ _ l2 t806 _ ?side1 ?side2 A50.out).mono ?_); (case side1 => exact cb HR2 HB); (case side2 => exact HC2.out); rintro e w' ⟨rfl, ⟨nd, rfl⟩⟩; refine ⟨_, rfl, ?_⟩; obtain ⟨_, _, _, _⟩ := b2 BK796))
                              go_ret
                              exact ez
                            · rw [if_neg c74] at H; have c74b0 := beq_eq_false_iff_ne.mpr c74; have c74b1 := bne_iff_ne.mpr c74; obtain rfl := Option.some.inj H
                              go_wp2_with (first | ((with_reducible refine gc 51 rfl ?_); refine gl (some 97) Try.func51 #[.slice A2 l2.length c2] ?_; (with_reducible refine (Rf_PointsErr.calls kj36 _ _ l2 t806 _ ?side1 ?side2 A50.out).mono ?_); (case side1 => exact cb HR2 HB); (case side2 => exact HC2.out); rintro e w' ⟨rfl, ⟨nd, rfl⟩⟩; refine ⟨_, rfl, ?_⟩))
                              go_ret
                              exact ez
  · replace c5 := Bool.eq_false_iff.mpr c5; subst c5; rw [if_neg (show ¬ (false = true) by decide)] at H; obtain rfl := Option.some.inj H; go_enter Try.func7, Try.ntmps7
    go_wp2_with (first | ((with_reducible refine gc 11 rfl ?_); refine gl (some 17) Try.func11 #[] ?_; (with_reducible refine (Lw_awake.calls k  false _ A4.out).mono ?_); rintro e w76 ⟨rfl, hb⟩; refine ⟨_, rfl, ?_⟩; replace HB := sb HB hb; (try clear hb)))
    go_ret
    exact ez
end
end Go.Proofs.Yteiafijbgjgiaaa.A
