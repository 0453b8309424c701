/- Walks of the program's functions (printed, made shorter), each with what it computes. -/
import Derived.Test.YteiafijbgjgiaaaB06
namespace Go.Proofs.Yteiafijbgjgiaaa.A
set_option maxHeartbeats 8000000
set_option maxRecDepth 100000
open Go.RowKit Go.Proofs.YteiafijbgjgiaaaW.PrintWords Go.Proofs.YteiafijbgjgiaaaW.PrintLast Go.Proofs.YteiafijbgjgiaaaW.PrintMore
attribute [local go_sem] max2_int min2_int max_two min_two max_three min_three max_four min_four
set_option linter.unusedVariables false
set_option linter.unusedSimpArgs false
section
def api_CloudShot_openShots_1.l0 : Nat → List (S108) → Int → Int → Option (Int × Int)
 | 0, _, _, _ => none
 | k + 1, x9, x10, x11 => if x11 < x10 then (if 0 ≤ x11 then (if x11 < (x9.length : Int) then ((L_openShots_1.f k ((rd_T108 x9 x11).f0) ((rd_T108 x9 x11).f1) ((rd_T108 x9 x11).f2)).bind fun t127 => (if t127 = 0 then (api_CloudShot_openShots_1.l0 k x9 x10 (wrap64 (x11 + 1))) else (some (x11, t127)))) else (none)) else (none)) else (some (0, 0))
def api_CloudShot_openShots_1.f (k : Nat) (l0 : List (S108))  : Option (Int × Int) := api_CloudShot_openShots_1.l0 k l0 (l0.length : Int) 0
theorem api_CloudShot_openShots_1.mono_l : ∀ k, (∀ y0 y1 y2, LeO (api_CloudShot_openShots_1.l0 k y0 y1 y2) (api_CloudShot_openShots_1.l0 (k + 1) y0 y1 y2))
 | 0 => fun _ _ _ r h => by simp [api_CloudShot_openShots_1.l0] at h
 | k + 1 => by
  have ih0 := api_CloudShot_openShots_1.mono_l k
  ·intro y0 y1 y2; unfold api_CloudShot_openShots_1.l0
   repeat' with_reducible first
    | exact ih0 ..
    | exact L_openShots_1.mono ..
    | exact LeO.refl ..
    | exact LeO.none ..
    | refine LeO.ite ?_ ?_
    | refine LeO.bind ?_ (fun _ => ?_)
theorem api_CloudShot_openShots_1.mono : ∀ a0 k, LeO (api_CloudShot_openShots_1.f k a0) (api_CloudShot_openShots_1.f (k + 1) a0) := by
 intro a0 k; have ih0 := api_CloudShot_openShots_1.mono_l k; unfold api_CloudShot_openShots_1.f
 repeat' with_reducible first
  | exact ih0 ..
  | exact L_openShots_1.mono ..
  | exact LeO.refl ..
  | exact LeO.none ..
  | refine LeO.ite ?_ ?_
  | refine LeO.bind ?_ (fun _ => ?_)
theorem api_CloudShot_openShots_1.calls (k : Nat) (A0 : Option Addr) (c0 : Nat) (l0 : List (S108))  (r1 : Int) (r2 : Int) (w : World) (hr0 : Kd.C k108 w A0 l0.length l0) (hc0 : l0.length ≤ c0) (H : api_CloudShot_openShots_1.f k l0 = some (r1, r2)) :
  Calls Try.prog 103 #[.slice A0 l0.length c0, .func (.func 104) #[] #[]] w fun e w' => e = .returned (.tuple #[.int .i64 r1, .int .i64 r2]) ∧ Below w.heap.size w w' := by
 have hu108 := Try.underlying108; have HR0 := m0 hr0; have HC0 := m0 hc0; clear hr0 hc0; have HB := m0 (Below.refl w.heap.size w); unfold api_CloudShot_openShots_1.f at H; have H' := m0 H; clear H; go_enter Try.func103, Try.ntmps103
 go_wp2
 go_loopg [11] k (fun kq v11 w' => ∃ (x11_1 : Int), v11 = .int .i64 x11_1 ∧ Aside0 (api_CloudShot_openShots_1.l0 kq l0 (l0.length : Int) x11_1 = some (r1, r2)) ∧ Aside0 (kq ≤ k) ∧ Aside0 (Below w.heap.size w w'))
 case atStart => exact ⟨(0), rz, H', ⟨Nat.le_refl _⟩, ⟨bz⟩⟩
 case round =>
  clear H'; obtain ⟨x11_1, rfl, HA, HK1, HB⟩ := hrel
  cases gk with
  | zero => exact absurd HA.out (by simp [api_CloudShot_openShots_1.l0])
  | succ k1 =>
   have H := HA.out; clear HA; simp only [api_CloudShot_openShots_1.l0] at H
   by_cases c3 : x11_1 < (l0.length : Int)
   ·rw [if_pos c3] at H; have c3b0 := decide_eq_true c3; clear c3
    by_cases c4 : 0 ≤ x11_1
    ·rw [if_pos c4] at H; have c4b0 := decide_eq_true c4; clear c4
     by_cases c5 : x11_1 < (l0.length : Int)
     ·rw [if_pos c5] at H; have c5b0 := decide_eq_true c5; clear c5; replace H := oa H; obtain ⟨t127, A6, H⟩ := H; (try dsimp only at H)
      by_cases c7 : t127 = 0
      ·rw [if_pos c7] at H; have c7b0 := beq_iff_eq.mpr c7; have c7b1 := bne_eq_false_iff_eq.mpr c7; clear c7; have H' := m0 H; clear H; have p125 : 0 ≤ (x11_1 : Int) := od; have q125 : x11_1 < (l0.length : Int) := od; obtain ⟨ad125, e125, hx125_0, hx125_1, hx125_2⟩ := at_T108 HR0.out x11_1 p125 q125
       cases e125
       replace hx125_0 := hc HB hx125_0; replace hx125_1 := hc HB hx125_1; replace hx125_2 := hc HB hx125_2; replace p125 := eq_true p125; replace q125 := eq_true q125
       go_wp2_with (first | ((with_reducible refine ga 7 rfl ?_); refine be 7 108 #[.int .i64 0, .int .i64 0, .int .i64 0] ?_; intro gb126 hg w8 hbox hb; have BK126 := m0 hbox; have GE126 := gw w hg; replace HB := sb HB hb; clear hb hbox hg; obtain ⟨_, _, _, _, _, _⟩ := b3 BK126) | (go_at_call 104; (with_reducible refine (L_openShots_1.calls k1 ((rd_T108 l0 x11_1).f0) ((rd_T108 l0 x11_1).f1) ((rd_T108 l0 x11_1).f2) t127 _ A6.out).mono ?_); rintro e w10 ⟨rfl, hb⟩; replace BK126 := m0 (blk_below (g := gb126) (o := .cells #[.int .i64 ((rd_T108 l0 x11_1).f0), .int .i64 ((rd_T108 l0 x11_1).f1), .int .i64 ((rd_T108 l0 x11_1).f2)] 108 (0, 0)) (bq BK126.out) hb); replace HB := sb HB hb; (try clear hb)))
       go_roundg k1
       case measure => have := HK1.out; omega
       case rel => exact ⟨(wrap64 (x11_1 + 1)), rz, H', ⟨by have := HK1.out; omega⟩, ⟨bz⟩⟩
      ·rw [if_neg c7] at H; have c7b0 := beq_eq_false_iff_ne.mpr c7; have c7b1 := bne_iff_ne.mpr c7; simp only [Option.some.injEq, Prod.mk.injEq] at H; obtain ⟨rfl, rfl⟩ := H; have p125 : 0 ≤ (x11_1 : Int) := od; have q125 : x11_1 < (l0.length : Int) := od; obtain ⟨ad125, e125, hx125_0, hx125_1, hx125_2⟩ := at_T108 HR0.out x11_1 p125 q125
       cases e125
       replace hx125_0 := hc HB hx125_0; replace hx125_1 := hc HB hx125_1; replace hx125_2 := hc HB hx125_2; replace p125 := eq_true p125; replace q125 := eq_true q125
       go_wp2_with (first | ((with_reducible refine ga 7 rfl ?_); refine be 7 108 #[.int .i64 0, .int .i64 0, .int .i64 0] ?_; intro gb126 hg w11 hbox hb; have BK126 := m0 hbox; have GE126 := gw w hg; replace HB := sb HB hb; clear hb hbox hg; obtain ⟨_, _, _, _, _, _⟩ := b3 BK126) | (go_at_call 104; (with_reducible refine (L_openShots_1.calls k1 ((rd_T108 l0 x11_1).f0) ((rd_T108 l0 x11_1).f1) ((rd_T108 l0 x11_1).f2) t127 _ A6.out).mono ?_); rintro e w13 ⟨rfl, hb⟩; replace BK126 := m0 (blk_below (g := gb126) (o := .cells #[.int .i64 ((rd_T108 l0 x11_1).f0), .int .i64 ((rd_T108 l0 x11_1).f1), .int .i64 ((rd_T108 l0 x11_1).f2)] 108 (0, 0)) (bq BK126.out) hb); replace HB := sb HB hb; (try clear hb)))
       go_ret2
       exact ez
     ·rw [if_neg c5] at H; exact absurd H (by simp)
    ·rw [if_neg c4] at H; exact absurd H (by simp)
   ·rw [if_neg c3] at H; have c3b0 := decide_eq_false c3; clear c3; simp only [Option.some.injEq, Prod.mk.injEq] at H; obtain ⟨rfl, rfl⟩ := H
    go_wp2
    go_ret2
    exact ez
end
section
def L_openShots.f (k : Nat) (l0 : List (S108)) (a1 : Int) : Option ((List (S108)) × Int) := if (l0.length : Int) > 20 then (some (([] : List (S108)), 8)) else ((api_CloudShot_openShots_1.f k l0).bind fun bt128 => ((L_within.f a1 1 1000000).bind fun t130 => ((L_unless.f t130 2).bind fun t131 => ((L_first.f k (([bt128.2, t131] : List Int))).bind fun t135 => (some (l0, t135))))))
theorem L_openShots.mono : ∀ a0 a1 k, LeO (L_openShots.f k a0 a1) (L_openShots.f (k + 1) a0 a1) := by
 intro a0 a1 k; unfold L_openShots.f
 repeat' with_reducible first
  | exact api_CloudShot_openShots_1.mono ..
  | exact L_first.mono ..
  | exact LeO.refl ..
  | exact LeO.none ..
  | refine LeO.ite ?_ ?_
  | refine LeO.bind ?_ (fun _ => ?_)
theorem L_openShots.calls (k : Nat) (P0_ : Nat → Prop) (A0 : Option Addr) (c0 : Nat) (l0 : List (S108)) (a1 : Int) (r1 : List (S108)) (r2 : Int) (w : World) (hs0 : Kd.V k108 108 w w.heap.size (fun k_ => P0_ k_) (.slice A0 l0.length c0) l0) (H : L_openShots.f k l0 a1 = some (r1, r2)) :
  Calls Try.prog 65 #[.slice A0 l0.length c0, .int .i64 a1] w fun e w' => ∃ v0_ : Value, e = .returned (.tuple #[v0_, .int .i64 r2]) ∧ Kd.V k108 108 w' w.heap.size (fun k_ => (P0_ k_ ∨ w.heap.size ≤ k_)) v0_ r1 ∧ Below w.heap.size w w' := by
 have HO0 := m0 (show Kd.V k108 108 w w.heap.size (fun k_ => (P0_ k_ ∨ w.heap.size ≤ k_)) (.slice A0 l0.length c0) l0 from Kd.V_mono hs0 (fun k_ hk => .inl hk)); have HB := m0 (Below.refl w.heap.size w); unfold L_openShots.f at H
 by_cases c3 : (l0.length : Int) > 20
 ·rw [if_pos c3] at H; have c3b0 := decide_eq_true c3; have c3b1 : decide (20 < l0.length) = true := decide_eq_true (by omega); clear c3; simp only [Option.some.injEq, Prod.mk.injEq] at H; obtain ⟨rfl, rfl⟩ := H; go_enter Try.func65, Try.ntmps65
  go_wp2
  go_ret2
  exact ⟨_, by first | rfl | (simp [errW_none, errW_some] <;> rfl) | (simp [*, errW_none, errW_some] <;> rfl), Kd.V_nil _ _ _ _ _, by repeat (first | (with_reducible first | exact HB.out | apply below_alloc | apply pw_below_drewN | apply below_drew1) | exact HB.out)⟩
 ·rw [if_neg c3] at H; have c3b0 := decide_eq_false c3; have c3b1 : decide (20 < l0.length) = false := decide_eq_false (by omega); clear c3; replace H := oa H; obtain ⟨⟨t128, t129⟩, A4, H⟩ := H; (try dsimp only at H); replace H := oa H; obtain ⟨t130, A5, H⟩ := H; (try dsimp only at H); replace H := oa H; obtain ⟨t131, A6, H⟩ := H; (try dsimp only at H); obtain ⟨y132, hy132⟩ : ∃ y_ : List Int, y_ = (([t129, t131] : List Int)) := ⟨_, rfl⟩; replace H : ((L_first.f k y132).bind fun t135 => (some (l0, t135))) = some (r1, r2) := by first | (rw [hy132]; with_reducible exact H) | (have H2_ := (Option.bind_some _ _).symm.trans H; rw [hy132]; with_reducible exact H2_) | (have H2_ := (Option.bind_some _ _).symm.trans H; with_reducible exact H2_) | with_reducible exact H | (rw [hy132]; exact H) | exact H
  have Ny132 := m0 hy132; clear hy132; replace H := oa H; obtain ⟨t135, A7, H⟩ := H; (try dsimp only at H); simp only [Option.some.injEq, Prod.mk.injEq] at H; obtain ⟨rfl, rfl⟩ := H; go_enter Try.func65, Try.ntmps65
  go_wp2_with (first | ((with_reducible refine gc 103 rfl ?_); refine gl (some 13) Try.func103 #[.slice A0 l0.length c0, .func (.func 104) #[] #[]] ?_; (with_reducible refine (api_CloudShot_openShots_1.calls k _ _ l0  t128 t129 _ ?side1 ?side2 A4.out).mono ?_); (case side1 => exact bc (Kd.V_reads' HO0.out).2.2); (case side2 => exact (Kd.V_reads' HO0.out).2.1); rintro e w8 ⟨rfl, hb⟩; refine ⟨_, rfl, ?_⟩; replace HO0 := vb HO0 hb; replace HB := sb HB hb; (try clear hb)) | ((with_reducible refine gc 70 rfl ?_); refine gl (some 19) Try.func70 #[.int .i64 a1, .int .i64 1, .int .i64 1000000] ?_; (with_reducible refine (L_within.calls a1 1 1000000 t130 _ A5.out).mono ?_); rintro e w' ⟨rfl, ⟨nd, rfl⟩⟩; refine ⟨_, rfl, ?_⟩) | ((with_reducible refine gc 69 rfl ?_); refine gl (some 20) Try.func69 #[.bool t130, .int .i64 2] ?_; (with_reducible refine (L_unless.calls t130 2 t131 _ A6.out).mono ?_); rintro e w' ⟨rfl, ⟨nd, rfl⟩⟩; refine ⟨_, rfl, ?_⟩) | ((with_reducible refine ga 21 rfl ?_); refine Kd.R_lit (Kd.int .i64) _ 26 ?hg (N := 21) ?hd (xs := ([t129, t131] : List Int)) (inner := [.int .i64 t129, .int .i64 t131]) (ok := fun _ => True) (okp := fun _ => True) ?hr ?hp (fun _ hk => hk) trivial (Below.refl _ _) (Nat.le_refl _) (by simp) ?_; (case hd => rfl); (case hg => rfl); (case hr => first | (go_simp; done) | (go_simp; rfl)); (case hp => exact (Reps.one (ki t129) (Reps.one (ki t131) (Reps.none _ _)))); intro v133 w9 ho10 hb hg_ hnew_; clear hg_ hnew_; (first | rw [← Ny132.out] at ho10 | (simp only [Int.reduceToNat] at ho10; rw [← Ny132.out] at ho10)); replace HO0 := m0 (Kd.V_elder' (by (with_reducible repeat (first | apply Kd.V_alloc | apply Kd.V_drewN | apply Kd.V_drew)); exact HO0.out) (Kd.R_base ho10) hb); have HO134 := m0 (Kd.R_lower (Kd.R_newM (M := fun k_ => (w.heap.size ≤ k_)) ho10 (below_size bz) (fun k_ h_ => h_)) (below_size bz)); replace HB := sb HB hb; clear hb ho10; obtain ⟨Ao11, co11, eo11⟩ := Kd.R_slice HO134.out; subst eo11) | ((with_reducible refine gc 68 rfl ?_); refine gl (some 22) Try.func68 #[.slice Ao11 y132.length co11] ?_; (with_reducible refine (L_first.calls k _ _ y132 t135 _ ?side1 ?side2 A7.out).mono ?_); (case side1 => exact bc (Kd.R_reads' HO134.out).2.2); (case side2 => exact (Kd.R_reads' HO134.out).2.1); rintro e w' ⟨rfl, ⟨nd, rfl⟩⟩; refine ⟨_, rfl, ?_⟩))
  go_ret2
  exact ⟨_, by first | rfl | (simp [errW_none, errW_some] <;> rfl) | (simp [*, errW_none, errW_some] <;> rfl), by (with_reducible repeat (first | apply Kd.V_alloc | apply Kd.V_drewN | apply Kd.V_drew)); exact Kd.V_mono HO0.out (fun _ hk => hk.1), by repeat (first | (with_reducible first | exact HB.out | apply below_alloc | apply pw_below_drewN | apply below_drew1) | exact HB.out)⟩
end
end Go.Proofs.Yteiafijbgjgiaaa.A
