/- Walks of the program's functions (printed, made shorter), each with what it computes. -/
import Derived.Test.YteiafijbgjgiaaaB06
import Derived.Test.YteiafijbgjgiaaaB05
namespace Go.Proofs.Yteiafijbgjgiaaa.A
set_option maxHeartbeats 8000000
set_option maxRecDepth 100000
open Go.RowKit Go.Proofs.YteiafijbgjgiaaaW.PrintWords Go.Proofs.YteiafijbgjgiaaaW.PrintLast Go.Proofs.YteiafijbgjgiaaaW.PrintMore
attribute [local go_sem] max2_int min2_int max_two min_two max_three min_three max_four min_four
set_option linter.unusedVariables false
set_option linter.unusedSimpArgs false
section
def Rf_CopyShots.f (l0 : List (S108)) : Option ((List (S108))) := (some (([] : List (S108)) : List (S108))).bind fun y386 => (if y386.length + l0.length < 5864062014805 then (some (y386 ++ l0)) else (none))
theorem Rf_CopyShots.calls (A0 : Option Addr) (c0 : Nat) (l0 : List (S108)) (r : List (S108)) (w : World) (hr0 : Kd.C k108 w A0 l0.length l0) (hc0 : l0.length ≤ c0) (H : Rf_CopyShots.f l0 = some r) :
  Calls Try.prog 13 #[.slice A0 l0.length c0] w fun e w' => ∃ v0_ : Value, e = .returned (v0_) ∧ Kd.R k108 108 w' w.heap.size (fun _ => True) v0_ r ∧ Below w.heap.size w w' := by
 have HR0 := m0 hr0; have HC0 := m0 hc0; clear hr0 hc0; have HB := m0 (Below.refl w.heap.size w); unfold Rf_CopyShots.f at H; obtain ⟨y386, hy386⟩ : ∃ y_ : List (S108), y_ = (([] : List (S108))) := ⟨_, rfl⟩; replace H : (if y386.length + l0.length < 5864062014805 then (some (y386 ++ l0)) else (none)) = some r := by first | (rw [hy386]; with_reducible exact H) | (have H2_ := (Option.bind_some _ _).symm.trans H; rw [hy386]; with_reducible exact H2_) | (have H2_ := (Option.bind_some _ _).symm.trans H; with_reducible exact H2_) | with_reducible exact H | (rw [hy386]; exact H) | exact H
 have Ny386 := m0 hy386; clear hy386
 by_cases c2 : y386.length + l0.length < 5864062014805
 ·rw [if_pos c2] at H; have LMc2 := m0 c2; clear c2; obtain ⟨y389, hy389⟩ : ∃ y_ : List (S108), y_ = (y386 ++ l0) := ⟨_, rfl⟩; replace H : (some y389) = some r := by first | (rw [hy389]; with_reducible exact H) | (have H2_ := (Option.bind_some _ _).symm.trans H; rw [hy389]; with_reducible exact H2_) | (have H2_ := (Option.bind_some _ _).symm.trans H; with_reducible exact H2_) | with_reducible exact H | (rw [hy389]; exact H) | exact H
  have Ny389 := m0 hy389; clear hy389; obtain rfl := Option.some.inj H; go_enter Try.func13, Try.ntmps13
  go_wp2_with (first | ((with_reducible refine ga 3 rfl ?_); refine Kd.R_lit k108 _ 108 ?hg (N := 3) ?hd (xs := ([] : List (S108))) (inner := []) (ok := fun _ => True) (okp := fun _ => True) ?hr ?hp (fun _ hk => hk) trivial (Below.refl _ _) (Nat.le_refl _) (by simp) ?_; (case hd => rfl); (case hg => rfl); (case hr => first | (go_simp; done) | (go_simp; rfl)); (case hp => exact (Reps.none _ _)); intro v387 w3 ho4 hb hg_ hnew_; clear hg_ hnew_; (first | rw [← Ny386.out] at ho4 | (simp only [Int.reduceToNat] at ho4; rw [← Ny386.out] at ho4)); have HO388 := m0 (Kd.R_lower ho4 (below_size bz)); replace HB := sb HB hb; clear hb ho4) | ((with_reducible refine gate_builtin (b := .append) (xs := #[.tmp 3, .tmp 4]) rfl ?_); at_builtin; refine Kd.R_append_rows k108 (w0 := w) w.heap.size rfl (.tmp 3) (.tmp 4) 22 108 (.agg #[(.int .i64 0), (.int .i64 0), (.int .i64 0)]) 24 rfl Try.underlying22 info108 rfl (by decide) (by omega) v387 y386 l0 _ _ _ (fun _ => True) (fun _ => False) rfl rfl ?aO ?aR (fun _ _ h => h) (fun _ h => h.elim) ?aF ?aB ?aS ?aL ?_; (case aR => exact cb HR0 HB); (case aB => exact bz); (case aF => exact (fun _ _ => trivial)); (case aO => exact (br HO388.out)); (case aS => exact (below_size bz)); (case aL => have := LMc2.out; omega); intro v390 w5 ho hb hg hat; rw [← Ny389.out] at ho; have n0_ := m0 (hb); have n1_ := m0 (ho); clear HB; clear HO388; have HB := n0_; have HO391 := n1_; clear n0_ n1_; clear ho hb hg hat))
  go_ret
  exact ⟨_, by first | rfl | (simp [errW_none, errW_some] <;> rfl) | (simp [*, errW_none, errW_some] <;> rfl), by (with_reducible repeat (first | apply Kd.R_alloc | apply Kd.R_drewN | apply Kd.R_drew)); exact HO391.out, by repeat (first | (with_reducible first | exact HB.out | apply below_alloc | apply pw_below_drewN | apply below_drew1) | exact HB.out)⟩
 ·rw [if_neg c2] at H; exact absurd H (by simp)
end
section
def Lw_both.f (a0 : Int) (a1 : Int) : Option (Int) := if a0 = 0 then (some a1) else (some a0)
theorem Lw_both.calls (a0 : Int) (a1 : Int) (r : Int) (w : World) (H : Lw_both.f a0 a1 = some r) :
  Calls Try.prog 15 #[.int .i64 a0, .int .i64 a1] w fun e w' => e = .returned (.int .i64 r) ∧ Drawn0 w w' := by
 unfold Lw_both.f at H
 by_cases c3 : a0 = 0
 ·rw [if_pos c3] at H; have c3b0 := beq_iff_eq.mpr c3; have c3b1 := bne_eq_false_iff_eq.mpr c3; clear c3; obtain rfl := Option.some.inj H; go_enter Try.func15, Try.ntmps15
  go_wp2
  go_ret
  exact ⟨rz, by repeat (first | exact Drawn0.refl _ | apply Drawn0.step)⟩
 ·rw [if_neg c3] at H; have c3b0 := beq_eq_false_iff_ne.mpr c3; have c3b1 := bne_iff_ne.mpr c3; obtain rfl := Option.some.inj H; go_enter Try.func15, Try.ntmps15
  go_wp2
  go_ret
  exact ⟨rz, by repeat (first | exact Drawn0.refl _ | apply Drawn0.step)⟩
end
section
def Bs_Within.f (a0 : Int) (a1 : Int) (a2 : Int) : Option (Bool) := if a1 ≤ a0 then (some (decide (a0 ≤ a2))) else (some false)
theorem Bs_Within.calls (a0 : Int) (a1 : Int) (a2 : Int) (r : Bool) (w : World) (H : Bs_Within.f a0 a1 a2 = some r) :
  Calls Try.prog 19 #[.int .i64 a0, .int .i64 a1, .int .i64 a2] w fun e w' => e = .returned (.bool r) ∧ Drawn0 w w' := by
 unfold Bs_Within.f at H
 by_cases c4 : a1 ≤ a0
 ·rw [if_pos c4] at H; have c4b0 := decide_eq_true c4; clear c4; obtain rfl := Option.some.inj H; go_enter Try.func19, Try.ntmps19
  go_wp2
  go_ret
  exact ⟨rz, by repeat (first | exact Drawn0.refl _ | apply Drawn0.step)⟩
 ·rw [if_neg c4] at H; have c4b0 := decide_eq_false c4; clear c4; obtain rfl := Option.some.inj H; go_enter Try.func19, Try.ntmps19
  go_wp2
  go_ret
  exact ⟨rz, by repeat (first | exact Drawn0.refl _ | apply Drawn0.step)⟩
end
section
mutual
def Rf_ShotsErr.l0 : Nat → List (S108) → Int → Option (Int)
  | 0, _, _ => none
  | k + 1, x0, x3 => if x3 < (x0.length : Int) then (if 0 ≤ x3 then ((Bs_Within.f ((rd_T108 x0 x3).f0) 0 1000000).bind fun t393 => (if t393 = true then ((Bs_Within.f ((rd_T108 x0 x3).f1) 0 1000000).bind fun t395 => (if t395 = true then ((Bs_Within.f ((rd_T108 x0 x3).f2) 0 10000).bind fun t397 => (Rf_ShotsErr.j1 k x0 x3 (!t397))) else (Rf_ShotsErr.j1 k x0 x3 true))) else (Rf_ShotsErr.j1 k x0 x3 true))) else (none)) else (some 0)
def Rf_ShotsErr.j1 : Nat → List (S108) → Int → Bool → Option (Int)
  | 0, _, _, _ => none
  | k + 1, x0, x3, x37 => if x37 = true then (some 2) else (if 0 ≤ x3 then (if x3 < (x0.length : Int) then (if ((rd_T108 x0 x3).f0) ≥ ((rd_T108 x0 x3).f1) then (some 9) else (Rf_ShotsErr.l0 k x0 (wrap64 (x3 + 1)))) else (none)) else (none))
end
def Rf_ShotsErr.f (k : Nat) (l0 : List (S108)) : Option (Int) := if (l0.length : Int) > 20 then (some 8) else (Rf_ShotsErr.l0 k l0 0)
theorem Rf_ShotsErr.mono_l : ∀ k, (∀ y0 y1, LeO (Rf_ShotsErr.l0 k y0 y1) (Rf_ShotsErr.l0 (k + 1) y0 y1)) ∧ (∀ y0 y1 y2, LeO (Rf_ShotsErr.j1 k y0 y1 y2) (Rf_ShotsErr.j1 (k + 1) y0 y1 y2))
  | 0 => ⟨fun _ _ r h => by simp [Rf_ShotsErr.l0] at h, fun _ _ _ r h => by simp [Rf_ShotsErr.j1] at h⟩
  | k + 1 => by
    obtain ⟨ih0, ih1⟩ := Rf_ShotsErr.mono_l k; refine ⟨?_, ?_⟩
    · intro y0 y1; unfold Rf_ShotsErr.l0
      repeat' with_reducible first
        | exact ih0 ..
        | exact ih1 ..
        | exact LeO.refl ..
        | exact LeO.none ..
        | refine LeO.ite ?_ ?_
        | refine LeO.bind ?_ (fun _ => ?_)
    · intro y0 y1 y2; unfold Rf_ShotsErr.j1
      repeat' with_reducible first
        | exact ih0 ..
        | exact ih1 ..
        | exact LeO.refl ..
        | exact LeO.none ..
        | refine LeO.ite ?_ ?_
        | refine LeO.bind ?_ (fun _ => ?_)
theorem Rf_ShotsErr.mono : ∀ a0 k, LeO (Rf_ShotsErr.f k a0) (Rf_ShotsErr.f (k + 1) a0) := by
  intro a0 k; obtain ⟨ih0, ih1⟩ := Rf_ShotsErr.mono_l k; unfold Rf_ShotsErr.f
  repeat' with_reducible first
    | exact ih0 ..
    | exact ih1 ..
    | exact LeO.refl ..
    | exact LeO.none ..
    | refine LeO.ite ?_ ?_
    | refine LeO.bind ?_ (fun _ => ?_)
theorem Rf_ShotsErr.calls (k : Nat) (A0 : Option Addr) (c0 : Nat) (l0 : List (S108)) (r : Int) (w : World) (hr0 : Kd.C k108 w A0 l0.length l0) (hc0 : l0.length ≤ c0) (H : Rf_ShotsErr.f k l0 = some r) :
    Calls Try.prog 16 #[.slice A0 l0.length c0] w fun e w' => e = .returned (.int .i64 r) ∧ Drawn0 w w' := by
  have HR0 := m0 hr0; have HC0 := m0 hc0; clear hr0 hc0; unfold Rf_ShotsErr.f at H
  by_cases c2 : (l0.length : Int) > 20
  · rw [if_pos c2] at H; have c2b0 := decide_eq_true c2; have c2b1 : decide (20 < l0.length) = true := decide_eq_true (by omega); clear c2; obtain rfl := Option.some.inj H; go_enter Try.func16, Try.ntmps16
    go_wp2
    repeat (go_quiet (fail); try go_wp2)
    go_ret
    exact ⟨rz, by repeat (first | exact Drawn0.refl _ | apply Drawn0.step)⟩
  · rw [if_neg c2] at H; have c2b0 := decide_eq_false c2; have c2b1 : decide (20 < l0.length) = false := decide_eq_false (by omega); clear c2; have H' := m0 H; clear H; go_enter Try.func16, Try.ntmps16
    go_wp2
    repeat (go_quiet (fail); try go_wp2)
    go_loopg [3] k (fun kq v3 w' => ∃ (x3_1 : Int), v3 = .int .i64 x3_1 ∧ Aside0 (Rf_ShotsErr.l0 kq l0 x3_1 = some r) ∧ Aside0 (kq ≤ k) ∧ Drawn0 w w')
    case atStart => exact ⟨(0), rz, H', ⟨Nat.le_refl _⟩, by repeat (first | exact Drawn0.refl _ | apply Drawn0.step)⟩
    case round =>
      clear H'; obtain ⟨x3_1, rfl, HA, HK1, ⟨m1, rfl⟩⟩ := hrel
      cases gk with
      | zero => exact absurd HA.out (by simp [Rf_ShotsErr.l0])
      | succ k1 =>
        have H := HA.out; clear HA; simp only [Rf_ShotsErr.l0] at H
        by_cases c3 : x3_1 < (l0.length : Int)
        · rw [if_pos c3] at H; have c3b0 := decide_eq_true c3; clear c3; have HC4 := m0 H; clear H
          go_upto_region 6 with (fail)
          repeat (go_quiet (fail); go_upto_region 6 with (fail))
          go_cut [37] (fun v37 wc => ∃ (kq : Nat) (x37_3 : Bool), v37 = .bool x37_3 ∧ Aside0 (Rf_ShotsErr.j1 kq l0 x3_1 x37_3 = some r) ∧ Aside0 (kq ≤ k1) ∧ Drawn0 w wc)
          case first =>
            have H := HC4.out; clear HC4
            by_cases c5 : 0 ≤ x3_1
            · rw [if_pos c5] at H; have c5b0 := decide_eq_true c5; clear c5
              (first | rw [c5b0] | (simp only [i64_w, i32_w]; rw [c5b0]) | skip)
              replace H := oa H; obtain ⟨t393, A6, H⟩ := H; (try dsimp only at H)
              by_cases c7 : t393 = true
              · subst c7; rw [if_pos rfl] at H; replace H := oa H; obtain ⟨t395, A8, H⟩ := H; (try dsimp only at H)
                by_cases c9 : t395 = true
                · subst c9; rw [if_pos rfl] at H; replace H := oa H; obtain ⟨t397, A10, H⟩ := H; (try dsimp only at H); have H' := m0 H; clear H; have p392 : 0 ≤ (x3_1 : Int) := od; have q392 : x3_1 < (l0.length : Int) := od; obtain ⟨ad392, e392, hx392_0, hx392_1, hx392_2⟩ := at_T108 HR0.out x3_1 p392 q392
                  cases e392
                  replace p392 := eq_true p392; replace q392 := eq_true q392
                  go_wp2_with (first | (go_at_call 19; (with_reducible refine (Bs_Within.calls ((rd_T108 l0 x3_1).f0) 0 1000000 true _ A6.out).mono ?_); rintro e w' ⟨rfl, ⟨nd, rfl⟩⟩; (try first | exact ⟨rfl, _, World.drewN_drewN _ _ _⟩ | exact ⟨rfl, _, Eq.trans (World.drewN_drewN _ _ _) (congrArg (World.drewN _) (Nat.add_assoc _ _ _))⟩); have p394 : 0 ≤ (x3_1 : Int) := od; have q394 : x3_1 < (l0.length : Int) := od; obtain ⟨ad394, e394, hx394_0, hx394_1, hx394_2⟩ := at_T108 HR0.out x3_1 p394 q394; obtain rfl : ad392 = ad394 := (by injection e394); replace p394 := eq_true p394; replace q394 := eq_true q394) | (go_at_call 19; (with_reducible refine (Bs_Within.calls ((rd_T108 l0 x3_1).f1) 0 1000000 true _ A8.out).mono ?_); rintro e w' ⟨rfl, ⟨nd, rfl⟩⟩; (try first | exact ⟨rfl, _, World.drewN_drewN _ _ _⟩ | exact ⟨rfl, _, Eq.trans (World.drewN_drewN _ _ _) (congrArg (World.drewN _) (Nat.add_assoc _ _ _))⟩); have p396 : 0 ≤ (x3_1 : Int) := od; have q396 : x3_1 < (l0.length : Int) := od; obtain ⟨ad396, e396, hx396_0, hx396_1, hx396_2⟩ := at_T108 HR0.out x3_1 p396 q396; obtain rfl : ad392 = ad396 := (by injection e396); replace p396 := eq_true p396; replace q396 := eq_true q396) | (go_at_call 19; (with_reducible refine (Bs_Within.calls ((rd_T108 l0 x3_1).f2) 0 10000 t397 _ A10.out).mono ?_); rintro e w' ⟨rfl, ⟨nd, rfl⟩⟩; (try first | exact ⟨rfl, _, World.drewN_drewN _ _ _⟩ | exact ⟨rfl, _, Eq.trans (World.drewN_drewN _ _ _) (congrArg (World.drewN _) (Nat.add_assoc _ _ _))⟩)))
                  repeat (go_quiet (first | (go_at_call 19; (with_reducible refine (Bs_Within.calls ((rd_T108 l0 x3_1).f0) 0 1000000 true _ A6.out).mono ?_); rintro e w' ⟨rfl, ⟨nd, rfl⟩⟩; (try first | exact ⟨rfl, _, World.drewN_drewN _ _ _⟩ | exact ⟨rfl, _, Eq.trans (World.drewN_drewN _ _ _) (congrArg (World.drewN _) (Nat.add_assoc _ _ _))⟩); have p394 : 0 ≤ (x3_1 : Int) := od; have q394 : x3_1 < (l0.length : Int) := od; obtain ⟨ad394, e394, hx394_0, hx394_1, hx394_2⟩ := at_T108 HR0.out x3_1 p394 q394; obtain rfl : ad392 = ad394 := (by injection e394); replace p394 := eq_true p394; replace q394 := eq_true q394) | (go_at_call 19; (with_reducible refine (Bs_Within.calls ((rd_T108 l0 x3_1).f1) 0 1000000 true _ A8.out).mono ?_); rintro e w' ⟨rfl, ⟨nd, rfl⟩⟩; (try first | exact ⟨rfl, _, World.drewN_drewN _ _ _⟩ | exact ⟨rfl, _, Eq.trans (World.drewN_drewN _ _ _) (congrArg (World.drewN _) (Nat.add_assoc _ _ _))⟩); have p396 : 0 ≤ (x3_1 : Int) := od; have q396 : x3_1 < (l0.length : Int) := od; obtain ⟨ad396, e396, hx396_0, hx396_1, hx396_2⟩ := at_T108 HR0.out x3_1 p396 q396; obtain rfl : ad392 = ad396 := (by injection e396); replace p396 := eq_true p396; replace q396 := eq_true q396) | (go_at_call 19; (with_reducible refine (Bs_Within.calls ((rd_T108 l0 x3_1).f2) 0 10000 t397 _ A10.out).mono ?_); rintro e w' ⟨rfl, ⟨nd, rfl⟩⟩; (try first | exact ⟨rfl, _, World.drewN_drewN _ _ _⟩ | exact ⟨rfl, _, Eq.trans (World.drewN_drewN _ _ _) (congrArg (World.drewN _) (Nat.add_assoc _ _ _))⟩))); try go_wp2_with (first | (go_at_call 19; (with_reducible refine (Bs_Within.calls ((rd_T108 l0 x3_1).f0) 0 1000000 true _ A6.out).mono ?_); rintro e w' ⟨rfl, ⟨nd, rfl⟩⟩; (try first | exact ⟨rfl, _, World.drewN_drewN _ _ _⟩ | exact ⟨rfl, _, Eq.trans (World.drewN_drewN _ _ _) (congrArg (World.drewN _) (Nat.add_assoc _ _ _))⟩); have p394 : 0 ≤ (x3_1 : Int) := od; have q394 : x3_1 < (l0.length : Int) := od; obtain ⟨ad394, e394, hx394_0, hx394_1, hx394_2⟩ := at_T108 HR0.out x3_1 p394 q394; obtain rfl : ad392 = ad394 := (by injection e394); replace p394 := eq_true p394; replace q394 := eq_true q394) | (go_at_call 19; (with_reducible refine (Bs_Within.calls ((rd_T108 l0 x3_1).f1) 0 1000000 true _ A8.out).mono ?_); rintro e w' ⟨rfl, ⟨nd, rfl⟩⟩; (try first | exact ⟨rfl, _, World.drewN_drewN _ _ _⟩ | exact ⟨rfl, _, Eq.trans (World.drewN_drewN _ _ _) (congrArg (World.drewN _) (Nat.add_assoc _ _ _))⟩); have p396 : 0 ≤ (x3_1 : Int) := od; have q396 : x3_1 < (l0.length : Int) := od; obtain ⟨ad396, e396, hx396_0, hx396_1, hx396_2⟩ := at_T108 HR0.out x3_1 p396 q396; obtain rfl : ad392 = ad396 := (by injection e396); replace p396 := eq_true p396; replace q396 := eq_true q396) | (go_at_call 19; (with_reducible refine (Bs_Within.calls ((rd_T108 l0 x3_1).f2) 0 10000 t397 _ A10.out).mono ?_); rintro e w' ⟨rfl, ⟨nd, rfl⟩⟩; (try first | exact ⟨rfl, _, World.drewN_drewN _ _ _⟩ | exact ⟨rfl, _, Eq.trans (World.drewN_drewN _ _ _) (congrArg (World.drewN _) (Nat.add_assoc _ _ _))⟩))))
                  go_meet
                  case rel => exact ⟨_, (!t397), rz, H', ⟨by have := HK1.out; first | omega | exact Nat.le_refl _⟩, by repeat (first | exact Drawn0.refl _ | apply Drawn0.step)⟩
                · replace c9 := Bool.eq_false_iff.mpr c9; subst c9; rw [if_neg (show ¬ (false = true) by decide)] at H; have H' := m0 H; clear H; have p392 : 0 ≤ (x3_1 : Int) := od; have q392 : x3_1 < (l0.length : Int) := od; obtain ⟨ad392, e392, hx392_0, hx392_1, hx392_2⟩ := at_T108 HR0.out x3_1 p392 q392
                  cases e392
                  replace p392 := eq_true p392; replace q392 := eq_true q392
                  go_wp2_with (first | (go_at_call 19; (with_reducible refine (Bs_Within.calls ((rd_T108 l0 x3_1).f0) 0 1000000 true _ A6.out).mono ?_); rintro e w' ⟨rfl, ⟨nd, rfl⟩⟩; (try first | exact ⟨rfl, _, World.drewN_drewN _ _ _⟩ | exact ⟨rfl, _, Eq.trans (World.drewN_drewN _ _ _) (congrArg (World.drewN _) (Nat.add_assoc _ _ _))⟩); have p394 : 0 ≤ (x3_1 : Int) := od; have q394 : x3_1 < (l0.length : Int) := od; obtain ⟨ad394, e394, hx394_0, hx394_1, hx394_2⟩ := at_T108 HR0.out x3_1 p394 q394; obtain rfl : ad392 = ad394 := (by injection e394); replace p394 := eq_true p394; replace q394 := eq_true q394) | (go_at_call 19; (with_reducible refine (Bs_Within.calls ((rd_T108 l0 x3_1).f1) 0 1000000 false _ A8.out).mono ?_); rintro e w' ⟨rfl, ⟨nd, rfl⟩⟩; (try first | exact ⟨rfl, _, World.drewN_drewN _ _ _⟩ | exact ⟨rfl, _, Eq.trans (World.drewN_drewN _ _ _) (congrArg (World.drewN _) (Nat.add_assoc _ _ _))⟩)))
                  repeat (go_quiet (first | (go_at_call 19; (with_reducible refine (Bs_Within.calls ((rd_T108 l0 x3_1).f0) 0 1000000 true _ A6.out).mono ?_); rintro e w' ⟨rfl, ⟨nd, rfl⟩⟩; (try first | exact ⟨rfl, _, World.drewN_drewN _ _ _⟩ | exact ⟨rfl, _, Eq.trans (World.drewN_drewN _ _ _) (congrArg (World.drewN _) (Nat.add_assoc _ _ _))⟩); have p394 : 0 ≤ (x3_1 : Int) := od; have q394 : x3_1 < (l0.length : Int) := od; obtain ⟨ad394, e394, hx394_0, hx394_1, hx394_2⟩ := at_T108 HR0.out x3_1 p394 q394; obtain rfl : ad392 = ad394 := (by injection e394); replace p394 := eq_true p394; replace q394 := eq_true q394) | (go_at_call 19; (with_reducible refine (Bs_Within.calls ((rd_T108 l0 x3_1).f1) 0 1000000 false _ A8.out).mono ?_); rintro e w' ⟨rfl, ⟨nd, rfl⟩⟩; (try first | exact ⟨rfl, _, World.drewN_drewN _ _ _⟩ | exact ⟨rfl, _, Eq.trans (World.drewN_drewN _ _ _) (congrArg (World.drewN _) (Nat.add_assoc _ _ _))⟩))); try go_wp2_with (first | (go_at_call 19; (with_reducible refine (Bs_Within.calls ((rd_T108 l0 x3_1).f0) 0 1000000 true _ A6.out).mono ?_); rintro e w' ⟨rfl, ⟨nd, rfl⟩⟩; (try first | exact ⟨rfl, _, World.drewN_drewN _ _ _⟩ | exact ⟨rfl, _, Eq.trans (World.drewN_drewN _ _ _) (congrArg (World.drewN _) (Nat.add_assoc _ _ _))⟩); have p394 : 0 ≤ (x3_1 : Int) := od; have q394 : x3_1 < (l0.length : Int) := od; obtain ⟨ad394, e394, hx394_0, hx394_1, hx394_2⟩ := at_T108 HR0.out x3_1 p394 q394; obtain rfl : ad392 = ad394 := (by injection e394); replace p394 := eq_true p394; replace q394 := eq_true q394) | (go_at_call 19; (with_reducible refine (Bs_Within.calls ((rd_T108 l0 x3_1).f1) 0 1000000 false _ A8.out).mono ?_); rintro e w' ⟨rfl, ⟨nd, rfl⟩⟩; (try first | exact ⟨rfl, _, World.drewN_drewN _ _ _⟩ | exact ⟨rfl, _, Eq.trans (World.drewN_drewN _ _ _) (congrArg (World.drewN _) (Nat.add_assoc _ _ _))⟩))))
                  go_meet
                  case rel => exact ⟨_, (true), rz, H', ⟨by have := HK1.out; first | omega | exact Nat.le_refl _⟩, by repeat (first | exact Drawn0.refl _ | apply Drawn0.step)⟩
              · replace c7 := Bool.eq_false_iff.mpr c7; subst c7; rw [if_neg (show ¬ (false = true) by decide)] at H; have H' := m0 H; clear H; have p392 : 0 ≤ (x3_1 : Int) := od; have q392 : x3_1 < (l0.length : Int) := od; obtain ⟨ad392, e392, hx392_0, hx392_1, hx392_2⟩ := at_T108 HR0.out x3_1 p392 q392
                cases e392
                replace p392 := eq_true p392; replace q392 := eq_true q392
                go_wp2_with (first | (go_at_call 19; (with_reducible refine (Bs_Within.calls ((rd_T108 l0 x3_1).f0) 0 1000000 false _ A6.out).mono ?_); rintro e w' ⟨rfl, ⟨nd, rfl⟩⟩; (try first | exact ⟨rfl, _, World.drewN_drewN _ _ _⟩ | exact ⟨rfl, _, Eq.trans (World.drewN_drewN _ _ _) (congrArg (World.drewN _) (Nat.add_assoc _ _ _))⟩)))
                repeat (go_quiet (first | (go_at_call 19; (with_reducible refine (Bs_Within.calls ((rd_T108 l0 x3_1).f0) 0 1000000 false _ A6.out).mono ?_); rintro e w' ⟨rfl, ⟨nd, rfl⟩⟩; (try first | exact ⟨rfl, _, World.drewN_drewN _ _ _⟩ | exact ⟨rfl, _, Eq.trans (World.drewN_drewN _ _ _) (congrArg (World.drewN _) (Nat.add_assoc _ _ _))⟩))); try go_wp2_with (first | (go_at_call 19; (with_reducible refine (Bs_Within.calls ((rd_T108 l0 x3_1).f0) 0 1000000 false _ A6.out).mono ?_); rintro e w' ⟨rfl, ⟨nd, rfl⟩⟩; (try first | exact ⟨rfl, _, World.drewN_drewN _ _ _⟩ | exact ⟨rfl, _, Eq.trans (World.drewN_drewN _ _ _) (congrArg (World.drewN _) (Nat.add_assoc _ _ _))⟩))))
                go_meet
                case rel => exact ⟨_, (true), rz, H', ⟨by have := HK1.out; first | omega | exact Nat.le_refl _⟩, by repeat (first | exact Drawn0.refl _ | apply Drawn0.step)⟩
            · rw [if_neg c5] at H; exact absurd H (by simp)
          case rest =>
            clear HC4
            try clear hx3
            try clear hx392_0
            try clear hx392_1
            try clear hx392_2
            try clear hx394_0
            try clear hx394_1
            try clear hx394_2
            try clear hx396_0
            try clear hx396_1
            try clear hx396_2
            obtain ⟨kq, x37_3, rfl, HA, HJ3, ⟨mc3, rfl⟩⟩ := hcut
            cases kq with
            | zero => exact absurd HA.out (by simp [Rf_ShotsErr.j1])
            | succ kj3 =>
              have H := HA.out; clear HA; simp only [Rf_ShotsErr.j1] at H
              by_cases c11 : x37_3 = true
              · subst c11; rw [if_pos rfl] at H; obtain rfl := Option.some.inj H
                go_wp2
                repeat (go_quiet (fail); try go_wp2)
                go_ret
                exact ⟨rz, by repeat (first | exact Drawn0.refl _ | apply Drawn0.step)⟩
              · replace c11 := Bool.eq_false_iff.mpr c11; subst c11; rw [if_neg (show ¬ (false = true) by decide)] at H
                by_cases c12 : 0 ≤ x3_1
                · rw [if_pos c12] at H; have c12b0 := decide_eq_true c12; clear c12
                  by_cases c13 : x3_1 < (l0.length : Int)
                  · rw [if_pos c13] at H; have c13b0 := decide_eq_true c13; clear c13
                    by_cases c14 : ((rd_T108 l0 x3_1).f0) ≥ ((rd_T108 l0 x3_1).f1)
                    · rw [if_pos c14] at H; have c14b0 := decide_eq_true c14; clear c14; obtain rfl := Option.some.inj H; have p398 : 0 ≤ (x3_1 : Int) := od; have q398 : x3_1 < (l0.length : Int) := od; obtain ⟨ad398, e398, hx398_0, hx398_1, hx398_2⟩ := at_T108 HR0.out x3_1 p398 q398
                      cases e398
                      replace p398 := eq_true p398; replace q398 := eq_true q398; have p399 : 0 ≤ (x3_1 : Int) := od; have q399 : x3_1 < (l0.length : Int) := od; obtain ⟨ad399, e399, hx399_0, hx399_1, hx399_2⟩ := at_T108 HR0.out x3_1 p399 q399; obtain rfl : ad398 = ad399 := (by injection e399); replace p399 := eq_true p399; replace q399 := eq_true q399
                      go_wp2
                      repeat (go_quiet (fail); try go_wp2)
                      go_ret
                      exact ⟨rz, by repeat (first | exact Drawn0.refl _ | apply Drawn0.step)⟩
                    · rw [if_neg c14] at H; have c14b0 := decide_eq_false c14; clear c14; have H' := m0 H; clear H; have p398 : 0 ≤ (x3_1 : Int) := od; have q398 : x3_1 < (l0.length : Int) := od; obtain ⟨ad398, e398, hx398_0, hx398_1, hx398_2⟩ := at_T108 HR0.out x3_1 p398 q398
                      cases e398
                      replace p398 := eq_true p398; replace q398 := eq_true q398; have p399 : 0 ≤ (x3_1 : Int) := od; have q399 : x3_1 < (l0.length : Int) := od; obtain ⟨ad399, e399, hx399_0, hx399_1, hx399_2⟩ := at_T108 HR0.out x3_1 p399 q399; obtain rfl : ad398 = ad399 := (by injection e399); replace p399 := eq_true p399; replace q399 := eq_true q399
                      go_wp2
                      repeat (go_quiet (fail); try go_wp2)
                      go_roundg kj3
                      case measure => have := HK1.out; have := HJ3.out; omega
                      case rel => exact ⟨(wrap64 (x3_1 + 1)), rz, H', ⟨by have := HK1.out; have := HJ3.out; omega⟩, by repeat (first | exact Drawn0.refl _ | apply Drawn0.step)⟩
                  · rw [if_neg c13] at H; exact absurd H (by simp)
                · rw [if_neg c12] at H; exact absurd H (by simp)
        · rw [if_neg c3] at H; have c3b0 := decide_eq_false c3; clear c3; obtain rfl := Option.some.inj H
          go_wp2
          repeat (go_quiet (fail); try go_wp2)
          go_ret
          exact ⟨rz, by repeat (first | exact Drawn0.refl _ | apply Drawn0.step)⟩
end
section
def Rf_WindowErr.f (a0 : Int) : Option (Int) := (Bs_Within.f a0 1 1000000).bind fun t400 => (if t400 = true then (some 0) else (some 2))
theorem Rf_WindowErr.calls (a0 : Int) (r : Int) (w : World) (H : Rf_WindowErr.f a0 = some r) :
  Calls Try.prog 17 #[.int .i64 a0] w fun e w' => e = .returned (.int .i64 r) ∧ Drawn0 w w' := by
 unfold Rf_WindowErr.f at H; replace H := oa H; obtain ⟨t400, A2, H⟩ := H; (try dsimp only at H)
 by_cases c3 : t400 = true
 ·subst c3; rw [if_pos rfl] at H; obtain rfl := Option.some.inj H; go_enter Try.func17, Try.ntmps17
  go_wp2_with (first | ((with_reducible refine gc 19 rfl ?_); refine gl (some 4) Try.func19 #[.int .i64 a0, .int .i64 1, .int .i64 1000000] ?_; (with_reducible refine (Bs_Within.calls a0 1 1000000 true _ A2.out).mono ?_); rintro e w' ⟨rfl, ⟨nd, rfl⟩⟩; refine ⟨_, rfl, ?_⟩))
  go_ret
  exact ⟨rz, by repeat (first | exact Drawn0.refl _ | apply Drawn0.step)⟩
 ·replace c3 := Bool.eq_false_iff.mpr c3; subst c3; rw [if_neg (show ¬ (false = true) by decide)] at H; obtain rfl := Option.some.inj H; go_enter Try.func17, Try.ntmps17
  go_wp2_with (first | ((with_reducible refine gc 19 rfl ?_); refine gl (some 4) Try.func19 #[.int .i64 a0, .int .i64 1, .int .i64 1000000] ?_; (with_reducible refine (Bs_Within.calls a0 1 1000000 false _ A2.out).mono ?_); rintro e w' ⟨rfl, ⟨nd, rfl⟩⟩; refine ⟨_, rfl, ?_⟩))
  go_ret
  exact ⟨rz, by repeat (first | exact Drawn0.refl _ | apply Drawn0.step)⟩
end
section
def Rf_Energy.l0 : Nat → List (S108) → Int → Int → Int → Int → Option (Int)
 | 0, _, _, _, _, _ => none
 | k + 1, x0, x1, x2, x7, x8 => if x8 < (x0.length : Int) then (if 0 ≤ x8 then (Rf_Energy.l0 k x0 x1 x2 (wrap64 (x7 + (wrap64 (((rd_T108 x0 x8).f2) * (mx 0 (wrap64 ((mn ((rd_T108 x0 x8).f1) (wrap64 (x2 + 1))) - (mx ((rd_T108 x0 x8).f0) (wrap64 ((wrap64 (x2 + 1)) - x1)))))))))) (wrap64 (x8 + 1))) else (none)) else (some x7)
def Rf_Energy.f (k : Nat) (l0 : List (S108)) (a1 : Int) (a2 : Int) : Option (Int) := Rf_Energy.l0 k l0 a1 a2 0 0
theorem Rf_Energy.mono_l : ∀ k, (∀ y0 y1 y2 y3 y4, LeO (Rf_Energy.l0 k y0 y1 y2 y3 y4) (Rf_Energy.l0 (k + 1) y0 y1 y2 y3 y4))
 | 0 => fun _ _ _ _ _ r h => by simp [Rf_Energy.l0] at h
 | k + 1 => by
  have ih0 := Rf_Energy.mono_l k
  ·intro y0 y1 y2 y3 y4; unfold Rf_Energy.l0
   repeat' with_reducible first
    | exact ih0 ..
    | exact LeO.refl ..
    | exact LeO.none ..
    | refine LeO.ite ?_ ?_
    | refine LeO.bind ?_ (fun _ => ?_)
theorem Rf_Energy.mono : ∀ a0 a1 a2 k, LeO (Rf_Energy.f k a0 a1 a2) (Rf_Energy.f (k + 1) a0 a1 a2) := by
 intro a0 a1 a2 k; have ih0 := Rf_Energy.mono_l k; unfold Rf_Energy.f
 repeat' with_reducible first
  | exact ih0 ..
  | exact LeO.refl ..
  | exact LeO.none ..
  | refine LeO.ite ?_ ?_
  | refine LeO.bind ?_ (fun _ => ?_)
theorem Rf_Energy.calls (k : Nat) (A0 : Option Addr) (c0 : Nat) (l0 : List (S108)) (a1 : Int) (a2 : Int) (r : Int) (w : World) (hr0 : Kd.C k108 w A0 l0.length l0) (hc0 : l0.length ≤ c0) (H : Rf_Energy.f k l0 a1 a2 = some r) :
  Calls Try.prog 21 #[.slice A0 l0.length c0, .int .i64 a1, .int .i64 a2] w fun e w' => e = .returned (.int .i64 r) ∧ Below w.heap.size w w' := by
 have HR0 := m0 hr0; have HC0 := m0 hc0; clear hr0 hc0; have HB := m0 (Below.refl w.heap.size w); unfold Rf_Energy.f at H; have H' := m0 H; clear H; go_enter Try.func21, Try.ntmps21
 go_wp2
 repeat (go_quiet (fail); try go_wp2)
 go_loopg [7, 8] k (fun kq v7 v8 w' => ∃ (x7_1 : Int) (x8_1 : Int), v7 = .int .i64 x7_1 ∧ v8 = .int .i64 x8_1 ∧ Aside0 (Rf_Energy.l0 kq l0 a1 a2 x7_1 x8_1 = some r) ∧ Aside0 (kq ≤ k) ∧ Aside0 (Below w.heap.size w w'))
 case atStart => exact ⟨(0), (0), rz, rz, H', ⟨Nat.le_refl _⟩, ⟨bz⟩⟩
 case round =>
  clear H'; obtain ⟨x7_1, x8_1, rfl, rfl, HA, HK1, HB⟩ := hrel
  cases gk with
  | zero => exact absurd HA.out (by simp [Rf_Energy.l0])
  | succ k1 =>
   have H := HA.out; clear HA; simp only [Rf_Energy.l0] at H
   by_cases c4 : x8_1 < (l0.length : Int)
   ·rw [if_pos c4] at H; have c4b0 := decide_eq_true c4; clear c4
    by_cases c5 : 0 ≤ x8_1
    ·rw [if_pos c5] at H; have c5b0 := decide_eq_true c5; clear c5; obtain ⟨ji6, hji6⟩ : ∃ j_ : Int, (mn ((rd_T108 l0 x8_1).f1) (wrap64 (a2 + 1))) = j_ := ⟨_, rfl⟩; replace H : (Rf_Energy.l0 k1 l0 a1 a2 (wrap64 (x7_1 + (wrap64 (((rd_T108 l0 x8_1).f2) * (mx 0 (wrap64 ((ji6) - (mx ((rd_T108 l0 x8_1).f0) (wrap64 ((wrap64 (a2 + 1)) - a1)))))))))) (wrap64 (x8_1 + 1))) = some r := by first | (rw [hji6] at H; exact H) | (simp only [hji6] at H ⊢; exact H)
     have hji6_ : (if (wrap64 (a2 + 1)) < ((rd_T108 l0 x8_1).f1) then (wrap64 (a2 + 1)) else ((rd_T108 l0 x8_1).f1)) = ji6 := hji6; obtain ⟨ji7, hji7⟩ : ∃ j_ : Int, (mx ((rd_T108 l0 x8_1).f0) (wrap64 ((wrap64 (a2 + 1)) - a1))) = j_ := ⟨_, rfl⟩; replace H : (Rf_Energy.l0 k1 l0 a1 a2 (wrap64 (x7_1 + (wrap64 (((rd_T108 l0 x8_1).f2) * (mx 0 (wrap64 ((ji6) - (ji7)))))))) (wrap64 (x8_1 + 1))) = some r := by first | (rw [hji7] at H; exact H) | (simp only [hji7] at H ⊢; exact H)
     have hji7_ : (if ((rd_T108 l0 x8_1).f0) < (wrap64 ((wrap64 (a2 + 1)) - a1)) then (wrap64 ((wrap64 (a2 + 1)) - a1)) else ((rd_T108 l0 x8_1).f0)) = ji7 := hji7; obtain ⟨ji8, hji8⟩ : ∃ j_ : Int, (mx 0 (wrap64 ((ji6) - (ji7)))) = j_ := ⟨_, rfl⟩; replace H : (Rf_Energy.l0 k1 l0 a1 a2 (wrap64 (x7_1 + (wrap64 (((rd_T108 l0 x8_1).f2) * (ji8))))) (wrap64 (x8_1 + 1))) = some r := by first | (rw [hji8] at H; exact H) | (simp only [hji8] at H ⊢; exact H)
     have hji8_ : (if 0 < (wrap64 ((ji6) - (ji7))) then (wrap64 ((ji6) - (ji7))) else 0) = ji8 := hji8; have H' := m0 H; clear H; have p401 : 0 ≤ (x8_1 : Int) := od; have q401 : x8_1 < (l0.length : Int) := od; obtain ⟨ad401, e401, hx401_0, hx401_1, hx401_2⟩ := at_T108 HR0.out x8_1 p401 q401
     cases e401
     replace hx401_0 := hc HB hx401_0; replace hx401_1 := hc HB hx401_1; replace hx401_2 := hc HB hx401_2; replace p401 := eq_true p401; replace q401 := eq_true q401; have p402 : 0 ≤ (x8_1 : Int) := od; have q402 : x8_1 < (l0.length : Int) := od; obtain ⟨ad402, e402, hx402_0, hx402_1, hx402_2⟩ := at_T108 HR0.out x8_1 p402 q402; obtain rfl : ad401 = ad402 := (by injection e402); replace hx402_0 := hc HB hx402_0; replace hx402_1 := hc HB hx402_1; replace hx402_2 := hc HB hx402_2; replace p402 := eq_true p402; replace q402 := eq_true q402; have p403 : 0 ≤ (x8_1 : Int) := od; have q403 : x8_1 < (l0.length : Int) := od; obtain ⟨ad403, e403, hx403_0, hx403_1, hx403_2⟩ := at_T108 HR0.out x8_1 p403 q403; obtain rfl : ad401 = ad403 := (by injection e403); replace hx403_0 := hc HB hx403_0; replace hx403_1 := hc HB hx403_1; replace hx403_2 := hc HB hx403_2; replace p403 := eq_true p403; replace q403 := eq_true q403
     go_wp2
     repeat (go_quiet (fail); try go_wp2)
     go_roundg k1
     case measure => have := HK1.out; omega
     case rel => exact ⟨(wrap64 (x7_1 + (wrap64 (((rd_T108 l0 x8_1).f2) * (ji8))))), (wrap64 (x8_1 + 1)), (by first | rfl | (simp; done) | (simp only [← hji8] <;> (first | rfl | simp)) | (simp [*]; done)), rz, H', ⟨by have := HK1.out; omega⟩, ⟨bz⟩⟩
    ·rw [if_neg c5] at H; exact absurd H (by simp)
   ·rw [if_neg c4] at H; have c4b0 := decide_eq_false c4; clear c4; obtain rfl := Option.some.inj H
    go_wp2
    repeat (go_quiet (fail); try go_wp2)
    go_ret
    exact ez
end
section
def Bs_CopyInts.f (l0 : List Int) : Option (List Int) := (some (([] : List Int) : List Int)).bind fun y404 => (if y404.length + l0.length < 17592186044416 then (some (y404 ++ l0)) else (none))
theorem Bs_CopyInts.calls (A0 : Option Addr) (c0 : Nat) (l0 : List Int) (r : List Int) (w : World) (hr0 : Kd.C (Kd.int .i64) w A0 l0.length l0) (hc0 : l0.length ≤ c0) (H : Bs_CopyInts.f l0 = some r) :
  Calls Try.prog 26 #[.slice A0 l0.length c0] w fun e w' => ∃ v0_ : Value, e = .returned (v0_) ∧ Kd.R (Kd.int .i64) 3 w' w.heap.size (fun _ => True) v0_ r ∧ Below w.heap.size w w' := by
 have HR0 := m0 hr0; have HC0 := m0 hc0; clear hr0 hc0; have HB := m0 (Below.refl w.heap.size w); unfold Bs_CopyInts.f at H; obtain ⟨y404, hy404⟩ : ∃ y_ : List Int, y_ = (([] : List Int)) := ⟨_, rfl⟩; replace H : (if y404.length + l0.length < 17592186044416 then (some (y404 ++ l0)) else (none)) = some r := by first | (rw [hy404]; with_reducible exact H) | (have H2_ := (Option.bind_some _ _).symm.trans H; rw [hy404]; with_reducible exact H2_) | (have H2_ := (Option.bind_some _ _).symm.trans H; with_reducible exact H2_) | with_reducible exact H | (rw [hy404]; exact H) | exact H
 have Ny404 := m0 hy404; clear hy404
 by_cases c2 : y404.length + l0.length < 17592186044416
 ·rw [if_pos c2] at H; have LMc2 := m0 c2; clear c2; obtain ⟨y407, hy407⟩ : ∃ y_ : List Int, y_ = (y404 ++ l0) := ⟨_, rfl⟩; replace H : (some y407) = some r := by first | (rw [hy407]; with_reducible exact H) | (have H2_ := (Option.bind_some _ _).symm.trans H; rw [hy407]; with_reducible exact H2_) | (have H2_ := (Option.bind_some _ _).symm.trans H; with_reducible exact H2_) | with_reducible exact H | (rw [hy407]; exact H) | exact H
  have Ny407 := m0 hy407; clear hy407; obtain rfl := Option.some.inj H; go_enter Try.func26, Try.ntmps26
  go_wp2_with (first | ((with_reducible refine ga 3 rfl ?_); refine Kd.R_lit (Kd.int .i64) _ 3 ?hg (N := 3) ?hd (xs := ([] : List Int)) (inner := []) (ok := fun _ => True) (okp := fun _ => True) ?hr ?hp (fun _ hk => hk) trivial (Below.refl _ _) (Nat.le_refl _) (by simp) ?_; (case hd => rfl); (case hg => rfl); (case hr => first | (go_simp; done) | (go_simp; rfl)); (case hp => exact (Reps.none _ _)); intro v405 w3 ho4 hb hg_ hnew_; clear hg_ hnew_; (first | rw [← Ny404.out] at ho4 | (simp only [Int.reduceToNat] at ho4; rw [← Ny404.out] at ho4)); have HO406 := m0 (Kd.R_lower ho4 (below_size bz)); replace HB := sb HB hb; clear hb ho4) | ((with_reducible refine gate_builtin (b := .append) (xs := #[.tmp 3, .tmp 4]) rfl ?_); at_builtin; refine Kd.R_append_rows (Kd.int .i64) (w0 := w) w.heap.size rfl (.tmp 3) (.tmp 4) 41 3 (.int .i64 0) 8 rfl Try.underlying41 info3 rfl (by decide) (by omega) v405 y404 l0 _ _ _ (fun _ => True) (fun _ => False) rfl rfl ?aO ?aR (fun _ _ h => h) (fun _ h => h.elim) ?aF ?aB ?aS ?aL ?_; (case aR => exact cb HR0 HB); (case aB => exact bz); (case aF => exact (fun _ _ => trivial)); (case aO => exact (br HO406.out)); (case aS => exact (below_size bz)); (case aL => have := LMc2.out; omega); intro v408 w5 ho hb hg hat; rw [← Ny407.out] at ho; have n0_ := m0 (hb); have n1_ := m0 (ho); clear HB; clear HO406; have HB := n0_; have HO409 := n1_; clear n0_ n1_; clear ho hb hg hat))
  go_ret
  exact ⟨_, by first | rfl | (simp [errW_none, errW_some] <;> rfl) | (simp [*, errW_none, errW_some] <;> rfl), by (with_reducible repeat (first | apply Kd.R_alloc | apply Kd.R_drewN | apply Kd.R_drew)); exact HO409.out, by repeat (first | (with_reducible first | exact HB.out | apply below_alloc | apply pw_below_drewN | apply below_drew1) | exact HB.out)⟩
 ·rw [if_neg c2] at H; exact absurd H (by simp)
end
end Go.Proofs.Yteiafijbgjgiaaa.A
