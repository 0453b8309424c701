/- Walks of the program's functions (printed, made shorter), each with what it computes. -/
import Derived.Test.YtibhfahbabgbaaaTX11
namespace Go.Proofs.Ytibhfahbabgbaaa.A
set_option maxHeartbeats 8000000
set_option maxRecDepth 100000
open Go.RowKit Go.Proofs.YtibhfahbabgbaaaW.PrintWords Go.Proofs.YtibhfahbabgbaaaW.PrintLast Go.Proofs.YtibhfahbabgbaaaW.PrintMore
attribute [local go_sem] max2_int min2_int max_two min_two max_three min_three max_four min_four
set_option linter.unusedVariables false
set_option linter.unusedSimpArgs false
section
def L_VotedIn.l0 : Nat → List (S85) → List (S85) → Int → List (S85) → Int → Int → Option (Int × Int × Int × Int)
 | 0, _, _, _, _, _, _ => none
 | k + 1, x0, x6, x7, x20, x21, x22 => if x22 < x21 then (if 0 ≤ x22 then (if x22 < (x20.length : Int) then ((L_offsets.f ((rd_T85 x20 x22).f0) ((rd_T85 x20 x22).f1) ((rd_T85 x20 x22).f2)).bind fun bt197 => ((L_fitted.f k x0 bt197.1).bind fun t199 => (if (t199.length : Int) > (x6.length : Int) then (L_VotedIn.l0 k x0 t199 bt197.1 x20 x21 (wrap64 (x22 + 1))) else (if (t199.length : Int) = (x6.length : Int) then (if bt197.1 < x7 then (L_VotedIn.l0 k x0 t199 bt197.1 x20 x21 (wrap64 (x22 + 1))) else (L_VotedIn.l0 k x0 x6 x7 x20 x21 (wrap64 (x22 + 1)))) else (L_VotedIn.l0 k x0 x6 x7 x20 x21 (wrap64 (x22 + 1))))))) else (none)) else (none)) else ((L_common.f k x6).bind fun bt191 => (some (bt191.1, bt191.2.1, (x6.length : Int), 0)))
def L_VotedIn.f (k : Nat) (l0 : List (S85)) : Option (Int × Int × Int × Int) := (L_readingsErr.f k l0).bind fun t190 => (if t190 = 0 then (L_VotedIn.l0 k l0 ([] : List (S85)) 0 l0 (l0.length : Int) 0) else (none))
theorem L_VotedIn.mono_l : ∀ k, (∀ y0 y1 y2 y3 y4 y5, LeO (L_VotedIn.l0 k y0 y1 y2 y3 y4 y5) (L_VotedIn.l0 (k + 1) y0 y1 y2 y3 y4 y5))
 | 0 => fun _ _ _ _ _ _ r h => by simp [L_VotedIn.l0] at h
 | k + 1 => by
  have ih0 := L_VotedIn.mono_l k
  ·intro y0 y1 y2 y3 y4 y5; unfold L_VotedIn.l0
   repeat' with_reducible first
    | exact ih0 ..
    | exact L_common.mono ..
    | exact L_fitted.mono ..
    | exact L_readingsErr.mono ..
    | exact LeO.refl ..
    | exact LeO.none ..
    | refine LeO.ite ?_ ?_
    | refine LeO.bind ?_ (fun _ => ?_)
theorem L_VotedIn.mono : ∀ a0 k, LeO (L_VotedIn.f k a0) (L_VotedIn.f (k + 1) a0) := by
 intro a0 k; have ih0 := L_VotedIn.mono_l k; unfold L_VotedIn.f
 repeat' with_reducible first
  | exact ih0 ..
  | exact L_common.mono ..
  | exact L_fitted.mono ..
  | exact L_readingsErr.mono ..
  | exact LeO.refl ..
  | exact LeO.none ..
  | refine LeO.ite ?_ ?_
  | refine LeO.bind ?_ (fun _ => ?_)
theorem L_VotedIn.calls (k : Nat) (A0 : Option Addr) (c0 : Nat) (l0 : List (S85)) (r1 : Int) (r2 : Int) (r3 : Int) (r4 : Int) (w : World) (hr0 : Kd.C k85 w A0 l0.length l0) (hc0 : l0.length ≤ c0) (H : L_VotedIn.f k l0 = some (r1, r2, r3, r4)) :
  Calls Try.prog 56 #[.slice A0 l0.length c0] w fun e w' => e = .returned (.tuple #[.agg #[.int .i64 r1, .int .i64 r2], .int .i64 r3, .int .i64 r4]) ∧ Below w.heap.size w w' := by
 have hu58 := Try.underlying58; have hu85 := Try.underlying85; have hfd58_0 : ∀ (x0_ x1_ : Value) (W_ : World), (Instr.field 58 (.agg #[x0_, x1_]) 0).run Try.prog W_ = .ok (x0_) W_ := fun _ _ _ => by kernel_rfl
 have HR0 := m0 hr0; have HC0 := m0 hc0; clear hr0 hc0; have HB := m0 (Below.refl w.heap.size w); unfold L_VotedIn.f at H; replace H := oa H; obtain ⟨t190, A2, H⟩ := H; (try dsimp only at H)
 by_cases c3 : t190 = 0
 ·rw [if_pos c3] at H; have c3b0 := beq_iff_eq.mpr c3; have c3b1 := bne_eq_false_iff_eq.mpr c3; clear c3; have H' := m0 H; clear H; go_enter Try.func56, Try.ntmps56
  go_wp2_with (first | ((with_reducible refine ga 2 rfl ?_); (try (refine gate_guard (by rfl) ?_; dsimp only)); refine be 2 58 #[.int .i64 0, .int .i64 0] ?_; intro gb189 hg w4 hbox hb; have BK189 := m0 hbox; have GE189 := gw w hg; replace HB := sb HB hb; clear hb hbox hg) | ((with_reducible refine gc 112 rfl ?_); refine gl (some 15) Try.func112 #[.slice A0 l0.length c0] ?_; (with_reducible refine (L_readingsErr.calls k _ _ l0 t190 _ ?side1 ?side2 A2.out).mono ?_); (case side1 => exact cb HR0 HB); (case side2 => exact HC0.out); rintro e w5 ⟨rfl, hb⟩; refine ⟨_, rfl, ?_⟩; replace BK189 := bb BK189 hb; replace HB := sb HB hb; (try clear hb)))
  go_loopg [6, 7, 22] k (fun kq v6 v7 v22 w' => ∃ (x6_1 : List (S85)) (x7_1 : Int) (x22_1 : Int), v7 = .int .i64 x7_1 ∧ v22 = .int .i64 x22_1 ∧ Aside0 (L_VotedIn.l0 kq l0 x6_1 x7_1 l0 (l0.length : Int) x22_1 = some (r1, r2, r3, r4)) ∧ Aside0 (kq ≤ k) ∧ Aside0 (Kd.R k85 85 w' w.heap.size (fun _ => True) v6 x6_1) ∧ Aside0 (w'.heap[gb189]? = some (.cells #[.int .i64 0, .int .i64 0] 58 (0, 0))) ∧ Aside0 (Below w.heap.size w w'))
  case atStart => exact ⟨(([] : List (S85))), (0), (0), rz, rz, H', ⟨Nat.le_refl _⟩, ⟨by first | exact Kd.R_nil _ _ _ _ _ | exact Kd.N_nil _ _ _ _ _ | exact Kd.V_nil _ _ _ _ _ | exact Kd.Q_nil _ _ _ _ _ | exact Kd.S_nil _ _ _ _ _⟩, ⟨bk BK189.out⟩, ⟨bz⟩⟩
  case round =>
   clear H'; obtain ⟨x6_1, x7_1, x22_1, rfl, rfl, HA, HK1, HO_6, BK189, HB⟩ := hrel
   cases gk with
   | zero => exact absurd HA.out (by simp [L_VotedIn.l0])
   | succ k1 =>
    have H := HA.out; clear HA; simp only [L_VotedIn.l0] at H
    by_cases c6 : x22_1 < (l0.length : Int)
    ·rw [if_pos c6] at H; have c6b0 := decide_eq_true c6; clear c6
     by_cases c7 : 0 ≤ x22_1
     ·rw [if_pos c7] at H; have c7b0 := decide_eq_true c7; clear c7
      by_cases c8 : x22_1 < (l0.length : Int)
      ·rw [if_pos c8] at H; have c8b0 := decide_eq_true c8; clear c8; replace H := oa H; obtain ⟨⟨t197, t198⟩, A9, H⟩ := H; (try dsimp only at H); replace H := oa H; obtain ⟨t199, A10, H⟩ := H; (try dsimp only at H)
       by_cases c11 : (t199.length : Int) > (x6_1.length : Int)
       ·rw [if_pos c11] at H; have c11b0 := decide_eq_true c11; have c11b1 : decide (x6_1.length < t199.length) = true := decide_eq_true (Int.ofNat_lt.mp c11); clear c11; have H' := m0 H; clear H; have p195 : 0 ≤ (x22_1 : Int) := od; have q195 : x22_1 < (l0.length : Int) := od; obtain ⟨ad195, e195, hx195_0, hx195_1, hx195_2⟩ := at_T85 HR0.out x22_1 p195 q195
        cases e195
        replace hx195_0 := hc HB hx195_0; replace hx195_1 := hc HB hx195_1; replace hx195_2 := hc HB hx195_2; replace p195 := eq_true p195; replace q195 := eq_true q195
        go_wp2_with (first | ((with_reducible refine ga 9 rfl ?_); (try (refine gate_guard (by rfl) ?_; dsimp only)); refine be 9 85 #[.int .i64 0, .int .i64 0, .int .i64 0] ?_; intro gb196 hg w12 hbox hb; replace HO_6 := m0 (Kd.R_below (Kd.R_elderB (br HO_6.out) gb196 (Nat.le_of_eq hg.symm)) hb); have BK196 := m0 hbox; have GE196 := gw w hg; replace HB := sb HB hb; have NB189_196 := nl BK189 hg; have NB196_189 := ng (nl BK189 hg); replace BK189 := bb BK189 hb; clear hb hbox hg; have hnb13 := NB196_189.out; have hnc13 := NB189_196.out; obtain ⟨_, _, _, _, _, _⟩ := b3 BK196) | ((with_reducible refine gc 114 rfl ?_); refine gl (some 27) Try.func114 #[.agg #[.int .i64 ((rd_T85 l0 x22_1).f0), .int .i64 ((rd_T85 l0 x22_1).f1), .int .i64 ((rd_T85 l0 x22_1).f2)]] ?_; (with_reducible refine (L_offsets.calls ((rd_T85 l0 x22_1).f0) ((rd_T85 l0 x22_1).f1) ((rd_T85 l0 x22_1).f2) t197 t198 _ A9.out).mono ?_); rintro e w15 ⟨rfl, hb⟩; refine ⟨_, rfl, ?_⟩; replace HO_6 := m0 (Kd.R_below (by (with_reducible repeat (first | apply Kd.R_alloc | apply Kd.R_drewN | apply Kd.R_drew)); exact (Kd.R_mono (rf (rf (rf (rn gb196 HO_6.out (·.2)) (·.2)) (·.2)) (·.2)) (fun _ h_ => h_.1))) hb); replace BK189 := m0 (blk_below (g := gb189) (o := .cells #[.int .i64 0, .int .i64 0] 58 (0, 0)) (bq BK189.out) hb); replace BK196 := m0 (blk_below (g := gb196) (o := .cells #[.int .i64 ((rd_T85 l0 x22_1).f0), .int .i64 ((rd_T85 l0 x22_1).f1), .int .i64 ((rd_T85 l0 x22_1).f2)] 85 (0, 0)) (bq BK196.out) hb); replace HB := sb HB hb; (try clear hb)) | ((with_reducible refine gc 115 rfl ?_); refine gl (some 31) Try.func115 #[.slice (some ad195) l0.length c0, .int .i64 t197] ?_; (with_reducible refine (L_fitted.calls k1 _ _ l0 t197 t199 _ ?side1 ?side2 A10.out).mono ?_); (case side1 => exact cb HR0 HB); (case side2 => exact HC0.out); rintro e w16 ⟨v200, rfl, ho0, hb⟩; refine ⟨_, rfl, ?_⟩; have HO201 := m0 (Kd.R_lower (Kd.R_newB (Kd.R_new' ho0 (Kd.R_lt (br HO_6.out))) (g := gb196) (o := .cells #[.int .i64 ((rd_T85 l0 x22_1).f0), .int .i64 ((rd_T85 l0 x22_1).f1), .int .i64 ((rd_T85 l0 x22_1).f2)] 85 (0, 0)) (bk BK196.out)) (below_size bz)); replace HO_6 := m0 (Kd.R_elder' (br HO_6.out) (Kd.R_base ho0) hb); replace BK189 := bb BK189 hb; replace BK196 := bb BK196 hb; replace HB := sb HB hb; (try clear hb); (try clear ho0); obtain ⟨Ao17, co17, eo17⟩ := Kd.R_slice HO201.out; subst eo17; obtain ⟨Ao18, co18, eo18⟩ := Kd.R_slice HO_6.out; subst eo18))
        go_roundg k1
        case measure => have := HK1.out; omega
        case rel => exact ⟨(t199), (t197), (wrap64 (x22_1 + 1)), rz, rz, H', ⟨by have := HK1.out; omega⟩, ⟨by (with_reducible repeat (first | apply Kd.R_alloc | apply Kd.R_drewN | apply Kd.R_drew)); exact Kd.R_mono HO201.out (fun _ hk => trivial)⟩, ⟨bk BK189.out⟩, ⟨bz⟩⟩
       ·rw [if_neg c11] at H; have c11b0 := decide_eq_false c11; have c11b1 : decide (x6_1.length < t199.length) = false := decide_eq_false (fun h => c11 (Int.ofNat_lt.mpr h)); clear c11
        by_cases c19 : (t199.length : Int) = (x6_1.length : Int)
        ·rw [if_pos c19] at H; have c19b0 := beq_iff_eq.mpr c19; have c19b1 := bne_eq_false_iff_eq.mpr c19; have c19b2 : (t199.length == x6_1.length) = true := by first | simpa using c19 | (simp at c19 ⊢; omega)
         clear c19
         by_cases c20 : t197 < x7_1
         ·rw [if_pos c20] at H; have c20b0 := decide_eq_true c20; clear c20; have H' := m0 H; clear H; have p195 : 0 ≤ (x22_1 : Int) := od; have q195 : x22_1 < (l0.length : Int) := od; obtain ⟨ad195, e195, hx195_0, hx195_1, hx195_2⟩ := at_T85 HR0.out x22_1 p195 q195
          cases e195
          replace hx195_0 := hc HB hx195_0; replace hx195_1 := hc HB hx195_1; replace hx195_2 := hc HB hx195_2; replace p195 := eq_true p195; replace q195 := eq_true q195
          go_wp2_with (first | ((with_reducible refine ga 9 rfl ?_); (try (refine gate_guard (by rfl) ?_; dsimp only)); refine be 9 85 #[.int .i64 0, .int .i64 0, .int .i64 0] ?_; intro gb196 hg w21 hbox hb; replace HO_6 := m0 (Kd.R_below (Kd.R_elderB (br HO_6.out) gb196 (Nat.le_of_eq hg.symm)) hb); have BK196 := m0 hbox; have GE196 := gw w hg; replace HB := sb HB hb; have NB189_196 := nl BK189 hg; have NB196_189 := ng (nl BK189 hg); replace BK189 := bb BK189 hb; clear hb hbox hg; have hnb22 := NB196_189.out; have hnc22 := NB189_196.out; obtain ⟨_, _, _, _, _, _⟩ := b3 BK196) | ((with_reducible refine gc 114 rfl ?_); refine gl (some 27) Try.func114 #[.agg #[.int .i64 ((rd_T85 l0 x22_1).f0), .int .i64 ((rd_T85 l0 x22_1).f1), .int .i64 ((rd_T85 l0 x22_1).f2)]] ?_; (with_reducible refine (L_offsets.calls ((rd_T85 l0 x22_1).f0) ((rd_T85 l0 x22_1).f1) ((rd_T85 l0 x22_1).f2) t197 t198 _ A9.out).mono ?_); rintro e w24 ⟨rfl, hb⟩; refine ⟨_, rfl, ?_⟩; replace HO_6 := m0 (Kd.R_below (by (with_reducible repeat (first | apply Kd.R_alloc | apply Kd.R_drewN | apply Kd.R_drew)); exact (Kd.R_mono (rf (rf (rf (rn gb196 HO_6.out (·.2)) (·.2)) (·.2)) (·.2)) (fun _ h_ => h_.1))) hb); replace BK189 := m0 (blk_below (g := gb189) (o := .cells #[.int .i64 0, .int .i64 0] 58 (0, 0)) (bq BK189.out) hb); replace BK196 := m0 (blk_below (g := gb196) (o := .cells #[.int .i64 ((rd_T85 l0 x22_1).f0), .int .i64 ((rd_T85 l0 x22_1).f1), .int .i64 ((rd_T85 l0 x22_1).f2)] 85 (0, 0)) (bq BK196.out) hb); replace HB := sb HB hb; (try clear hb)) | ((with_reducible refine gc 115 rfl ?_); refine gl (some 31) Try.func115 #[.slice (some ad195) l0.length c0, .int .i64 t197] ?_; (with_reducible refine (L_fitted.calls k1 _ _ l0 t197 t199 _ ?side1 ?side2 A10.out).mono ?_); (case side1 => exact cb HR0 HB); (case side2 => exact HC0.out); rintro e w25 ⟨v200, rfl, ho0, hb⟩; refine ⟨_, rfl, ?_⟩; have HO201 := m0 (Kd.R_lower (Kd.R_newB (Kd.R_new' ho0 (Kd.R_lt (br HO_6.out))) (g := gb196) (o := .cells #[.int .i64 ((rd_T85 l0 x22_1).f0), .int .i64 ((rd_T85 l0 x22_1).f1), .int .i64 ((rd_T85 l0 x22_1).f2)] 85 (0, 0)) (bk BK196.out)) (below_size bz)); replace HO_6 := m0 (Kd.R_elder' (br HO_6.out) (Kd.R_base ho0) hb); replace BK189 := bb BK189 hb; replace BK196 := bb BK196 hb; replace HB := sb HB hb; (try clear hb); (try clear ho0); obtain ⟨Ao26, co26, eo26⟩ := Kd.R_slice HO201.out; subst eo26; obtain ⟨Ao27, co27, eo27⟩ := Kd.R_slice HO_6.out; subst eo27))
          go_roundg k1
          case measure => have := HK1.out; omega
          case rel => exact ⟨(t199), (t197), (wrap64 (x22_1 + 1)), rz, rz, H', ⟨by have := HK1.out; omega⟩, ⟨by (with_reducible repeat (first | apply Kd.R_alloc | apply Kd.R_drewN | apply Kd.R_drew)); exact Kd.R_mono HO201.out (fun _ hk => trivial)⟩, ⟨bk BK189.out⟩, ⟨bz⟩⟩
         ·rw [if_neg c20] at H; have c20b0 := decide_eq_false c20; clear c20; have H' := m0 H; clear H; have p195 : 0 ≤ (x22_1 : Int) := od; have q195 : x22_1 < (l0.length : Int) := od; obtain ⟨ad195, e195, hx195_0, hx195_1, hx195_2⟩ := at_T85 HR0.out x22_1 p195 q195
          cases e195
          replace hx195_0 := hc HB hx195_0; replace hx195_1 := hc HB hx195_1; replace hx195_2 := hc HB hx195_2; replace p195 := eq_true p195; replace q195 := eq_true q195
          go_wp2_with (first | ((with_reducible refine ga 9 rfl ?_); (try (refine gate_guard (by rfl) ?_; dsimp only)); refine be 9 85 #[.int .i64 0, .int .i64 0, .int .i64 0] ?_; intro gb196 hg w28 hbox hb; replace HO_6 := m0 (Kd.R_below (Kd.R_elderB (br HO_6.out) gb196 (Nat.le_of_eq hg.symm)) hb); have BK196 := m0 hbox; have GE196 := gw w hg; replace HB := sb HB hb; have NB189_196 := nl BK189 hg; have NB196_189 := ng (nl BK189 hg); replace BK189 := bb BK189 hb; clear hb hbox hg; have hnb29 := NB196_189.out; have hnc29 := NB189_196.out; obtain ⟨_, _, _, _, _, _⟩ := b3 BK196) | ((with_reducible refine gc 114 rfl ?_); refine gl (some 27) Try.func114 #[.agg #[.int .i64 ((rd_T85 l0 x22_1).f0), .int .i64 ((rd_T85 l0 x22_1).f1), .int .i64 ((rd_T85 l0 x22_1).f2)]] ?_; (with_reducible refine (L_offsets.calls ((rd_T85 l0 x22_1).f0) ((rd_T85 l0 x22_1).f1) ((rd_T85 l0 x22_1).f2) t197 t198 _ A9.out).mono ?_); rintro e w31 ⟨rfl, hb⟩; refine ⟨_, rfl, ?_⟩; replace HO_6 := m0 (Kd.R_below (by (with_reducible repeat (first | apply Kd.R_alloc | apply Kd.R_drewN | apply Kd.R_drew)); exact (Kd.R_mono (rf (rf (rf (rn gb196 HO_6.out (·.2)) (·.2)) (·.2)) (·.2)) (fun _ h_ => h_.1))) hb); replace BK189 := m0 (blk_below (g := gb189) (o := .cells #[.int .i64 0, .int .i64 0] 58 (0, 0)) (bq BK189.out) hb); replace BK196 := m0 (blk_below (g := gb196) (o := .cells #[.int .i64 ((rd_T85 l0 x22_1).f0), .int .i64 ((rd_T85 l0 x22_1).f1), .int .i64 ((rd_T85 l0 x22_1).f2)] 85 (0, 0)) (bq BK196.out) hb); replace HB := sb HB hb; (try clear hb)) | ((with_reducible refine gc 115 rfl ?_); refine gl (some 31) Try.func115 #[.slice (some ad195) l0.length c0, .int .i64 t197] ?_; (with_reducible refine (L_fitted.calls k1 _ _ l0 t197 t199 _ ?side1 ?side2 A10.out).mono ?_); (case side1 => exact cb HR0 HB); (case side2 => exact HC0.out); rintro e w32 ⟨v200, rfl, ho0, hb⟩; refine ⟨_, rfl, ?_⟩; have HO201 := m0 (Kd.R_lower (Kd.R_newB (Kd.R_new' ho0 (Kd.R_lt (br HO_6.out))) (g := gb196) (o := .cells #[.int .i64 ((rd_T85 l0 x22_1).f0), .int .i64 ((rd_T85 l0 x22_1).f1), .int .i64 ((rd_T85 l0 x22_1).f2)] 85 (0, 0)) (bk BK196.out)) (below_size bz)); replace HO_6 := m0 (Kd.R_elder' (br HO_6.out) (Kd.R_base ho0) hb); replace BK189 := bb BK189 hb; replace BK196 := bb BK196 hb; replace HB := sb HB hb; (try clear hb); (try clear ho0); obtain ⟨Ao33, co33, eo33⟩ := Kd.R_slice HO201.out; subst eo33; obtain ⟨Ao34, co34, eo34⟩ := Kd.R_slice HO_6.out; subst eo34))
          go_roundg k1
          case measure => have := HK1.out; omega
          case rel => exact ⟨(x6_1), (x7_1), (wrap64 (x22_1 + 1)), rz, rz, H', ⟨by have := HK1.out; omega⟩, ⟨by (with_reducible repeat (first | apply Kd.R_alloc | apply Kd.R_drewN | apply Kd.R_drew)); exact Kd.R_mono HO_6.out (fun _ hk => trivial)⟩, ⟨bk BK189.out⟩, ⟨bz⟩⟩
        ·rw [if_neg c19] at H; have c19b0 := beq_eq_false_iff_ne.mpr c19; have c19b1 := bne_iff_ne.mpr c19; have c19b2 : (t199.length == x6_1.length) = false := by first | simpa using c19 | (simp at c19 ⊢; omega)
         have H' := m0 H; clear H; have p195 : 0 ≤ (x22_1 : Int) := od; have q195 : x22_1 < (l0.length : Int) := od; obtain ⟨ad195, e195, hx195_0, hx195_1, hx195_2⟩ := at_T85 HR0.out x22_1 p195 q195
         cases e195
         replace hx195_0 := hc HB hx195_0; replace hx195_1 := hc HB hx195_1; replace hx195_2 := hc HB hx195_2; replace p195 := eq_true p195; replace q195 := eq_true q195
         go_wp2_with (first | ((with_reducible refine ga 9 rfl ?_); (try (refine gate_guard (by rfl) ?_; dsimp only)); refine be 9 85 #[.int .i64 0, .int .i64 0, .int .i64 0] ?_; intro gb196 hg w35 hbox hb; replace HO_6 := m0 (Kd.R_below (Kd.R_elderB (br HO_6.out) gb196 (Nat.le_of_eq hg.symm)) hb); have BK196 := m0 hbox; have GE196 := gw w hg; replace HB := sb HB hb; have NB189_196 := nl BK189 hg; have NB196_189 := ng (nl BK189 hg); replace BK189 := bb BK189 hb; clear hb hbox hg; have hnb36 := NB196_189.out; have hnc36 := NB189_196.out; obtain ⟨_, _, _, _, _, _⟩ := b3 BK196) | ((with_reducible refine gc 114 rfl ?_); refine gl (some 27) Try.func114 #[.agg #[.int .i64 ((rd_T85 l0 x22_1).f0), .int .i64 ((rd_T85 l0 x22_1).f1), .int .i64 ((rd_T85 l0 x22_1).f2)]] ?_; (with_reducible refine (L_offsets.calls ((rd_T85 l0 x22_1).f0) ((rd_T85 l0 x22_1).f1) ((rd_T85 l0 x22_1).f2) t197 t198 _ A9.out).mono ?_); rintro e w38 ⟨rfl, hb⟩; refine ⟨_, rfl, ?_⟩; replace HO_6 := m0 (Kd.R_below (by (with_reducible repeat (first | apply Kd.R_alloc | apply Kd.R_drewN | apply Kd.R_drew)); exact (Kd.R_mono (rf (rf (rf (rn gb196 HO_6.out (·.2)) (·.2)) (·.2)) (·.2)) (fun _ h_ => h_.1))) hb); replace BK189 := m0 (blk_below (g := gb189) (o := .cells #[.int .i64 0, .int .i64 0] 58 (0, 0)) (bq BK189.out) hb); replace BK196 := m0 (blk_below (g := gb196) (o := .cells #[.int .i64 ((rd_T85 l0 x22_1).f0), .int .i64 ((rd_T85 l0 x22_1).f1), .int .i64 ((rd_T85 l0 x22_1).f2)] 85 (0, 0)) (bq BK196.out) hb); replace HB := sb HB hb; (try clear hb)) | ((with_reducible refine gc 115 rfl ?_); refine gl (some 31) Try.func115 #[.slice (some ad195) l0.length c0, .int .i64 t197] ?_; (with_reducible refine (L_fitted.calls k1 _ _ l0 t197 t199 _ ?side1 ?side2 A10.out).mono ?_); (case side1 => exact cb HR0 HB); (case side2 => exact HC0.out); rintro e w39 ⟨v200, rfl, ho0, hb⟩; refine ⟨_, rfl, ?_⟩; have HO201 := m0 (Kd.R_lower (Kd.R_newB (Kd.R_new' ho0 (Kd.R_lt (br HO_6.out))) (g := gb196) (o := .cells #[.int .i64 ((rd_T85 l0 x22_1).f0), .int .i64 ((rd_T85 l0 x22_1).f1), .int .i64 ((rd_T85 l0 x22_1).f2)] 85 (0, 0)) (bk BK196.out)) (below_size bz)); replace HO_6 := m0 (Kd.R_elder' (br HO_6.out) (Kd.R_base ho0) hb); replace BK189 := bb BK189 hb; replace BK196 := bb BK196 hb; replace HB := sb HB hb; (try clear hb); (try clear ho0); obtain ⟨Ao40, co40, eo40⟩ := Kd.R_slice HO201.out; subst eo40; obtain ⟨Ao41, co41, eo41⟩ := Kd.R_slice HO_6.out; subst eo41))
         go_roundg k1
         case measure => have := HK1.out; omega
         case rel => exact ⟨(x6_1), (x7_1), (wrap64 (x22_1 + 1)), rz, rz, H', ⟨by have := HK1.out; omega⟩, ⟨by (with_reducible repeat (first | apply Kd.R_alloc | apply Kd.R_drewN | apply Kd.R_drew)); exact Kd.R_mono HO_6.out (fun _ hk => trivial)⟩, ⟨bk BK189.out⟩, ⟨bz⟩⟩
      ·rw [if_neg c8] at H; exact absurd H (by simp)
     ·rw [if_neg c7] at H; exact absurd H (by simp)
    ·rw [if_neg c6] at H; have c6b0 := decide_eq_false c6; clear c6; replace H := oa H; obtain ⟨⟨t191, t192, t193⟩, A42, H⟩ := H; (try dsimp only at H); simp only [Option.some.injEq, Prod.mk.injEq] at H; obtain ⟨rfl, rfl, rfl, rfl⟩ := H; obtain ⟨Ao43, co43, eo43⟩ := Kd.R_slice HO_6.out; subst eo43
     go_wp2_with (first | ((with_reducible refine gc 113 rfl ?_); refine gl (some 54) Try.func113 #[.slice Ao43 x6_1.length co43] ?_; (with_reducible refine (L_common.calls k1 _ _ x6_1 t191 t192 t193 _ ?side1 ?side2 A42.out).mono ?_); (case side1 => exact bc (Kd.R_reads' HO_6.out).2.2); (case side2 => exact (Kd.R_reads' HO_6.out).2.1); rintro e w44 ⟨rfl, hb⟩; refine ⟨_, rfl, ?_⟩; replace HO_6 := rb HO_6 hb; replace BK189 := bb BK189 hb; replace HB := sb HB hb; (try clear hb)) | ((with_reducible refine ga 12 rfl ?_); (try (refine gate_guard (by rfl) ?_; dsimp only)); refine be 12 58 #[.int .i64 0, .int .i64 0] ?_; intro gb194 hg w45 hbox hb; replace HO_6 := rb HO_6 hb; have BK194 := m0 hbox; have GE194 := gw w hg; replace HB := sb HB hb; have NB189_194 := nl BK189 hg; have NB194_189 := ng (nl BK189 hg); replace BK189 := bb BK189 hb; clear hb hbox hg; have hnb46 := NB194_189.out; have hnc46 := NB189_194.out; obtain ⟨_, _, _, _⟩ := b2 BK194; obtain ⟨_, _, _, _⟩ := b2 BK189))
     refine bodyPost_ret (results_ctt rfl _ _ gb189 58 #[.int .i64 t191, .int .i64 t192] (0, 0) _ rfl (by (with_reducible repeat (first | refine blk_drewN ?_ _ | refine blk_drew ?_ | refine blk_alloc ?_ _)); refine blk_put (cs := #[.int .i64 t191, .int .i64 0]) ?_ 1 _ rfl; (with_reducible repeat (first | refine blk_drewN ?_ _ | refine blk_drew ?_ | refine blk_alloc ?_ _)); refine blk_put (cs := #[.int .i64 0, .int .i64 0]) ?_ 0 _ rfl; (with_reducible repeat (first | refine blk_drewN ?_ _ | refine blk_drew ?_ | refine blk_alloc ?_ _)); refine blk_far ?_ NB189_194.out _; (with_reducible repeat (first | refine blk_drewN ?_ _ | refine blk_drew ?_ | refine blk_alloc ?_ _)); refine blk_far ?_ NB189_194.out _; (with_reducible repeat (first | refine blk_drewN ?_ _ | refine blk_drew ?_ | refine blk_alloc ?_ _)); exact BK189.out) Try.underlying58 rfl (by kernel_rfl)) rfl ?_; exact ez
 ·rw [if_neg c3] at H; exact absurd H (by simp)
end
section
theorem eqA44 (d : Nat) (w : World) (x0 y0 : Int) (x1 y1 : Int) (x2 y2 : Int) :
  (Op.equalIn (d + 2) 44 (.agg #[.int .i64 x0, .int .i64 x1, .int .i64 x2]) (.agg #[.int .i64 y0, .int .i64 y1, .int .i64 y2])).run Try.prog w = .ok (x0 == y0 && (x1 == y1 && (x2 == y2))) w := by
 refine (run_equalIn_array Try.underlying44 Try.sizeOf3).trans ?_; have hue_ := Try.underlying3; refine eqe_cons (by go_simp; rfl) (by go_simp; rfl) (by go_simp) ?_; refine eqe_cons (by go_simp; rfl) (by go_simp; rfl) (by go_simp) ?_; exact eqe_last (by go_simp; rfl) (by go_simp; rfl) (by go_simp)
end
section
def L_isSized.f (a0 : Int) (a1 : Int) : Option (Bool) := (L_within.f a0 (wrap64 (-a1)) a1).bind fun t202 => (some t202)
theorem L_isSized.calls (a0 : Int) (a1 : Int) (r : Bool) (w : World) (H : L_isSized.f a0 a1 = some r) :
  Calls Try.prog 107 #[.int .i64 a0, .int .i64 a1] w fun e w' => e = .returned (.bool r) ∧ Drawn0 w w' := by
 unfold L_isSized.f at H; replace H := oa H; obtain ⟨t202, A3, H⟩ := H; (try dsimp only at H); obtain rfl := Option.some.inj H; go_enter Try.func107, Try.ntmps107
 go_wp2_with (first | ((with_reducible refine gc 78 rfl ?_); refine gl (some 9) Try.func78 #[.int .i64 a0, .int .i64 (wrap64 (-a1)), .int .i64 a1] ?_; (with_reducible refine (L_within.calls a0 (wrap64 (-a1)) a1 t202 _ A3.out).mono ?_); rintro e w' ⟨rfl, ⟨nd, rfl⟩⟩; refine ⟨_, rfl, ?_⟩))
 go_ret
 exact ⟨rz, by repeat (first | exact Drawn0.refl _ | apply Drawn0.step)⟩
end
section
theorem slices_IndexFunc_int_int.own (g : Nat) (lb : Array Value) (eg : ∀ args w, (callFunc g args).run Try.prog w = .ok (.enter g args) w) (p : Int → Bool) (A0 : Option Addr) (c0 : Nat) (l0 : List Int) (w : World) (hp : PredI g lb p w) (hr0 : Kd.C (Kd.int .i64) w A0 l0.length l0) :
  Calls Try.prog 148 #[.slice A0 l0.length c0, .func (.func g) #[] lb] w fun e w' => e = .returned (.int .i64 (idxF p l0)) ∧ Drawn0 w w' := by
 have HR0 := m0 hr0; have HL := m0 (show (l0.length : Int) ≤ 9223372036854775807 from by have := hr0.2.1; omega); clear hr0; have hpAt : ∀ (x : Int) (q : Nat), Calls Try.prog g (#[.int .i64 x] ++ lb) (w.drewN q) fun e w' => e = .returned (.bool (p x)) ∧ ∃ q', w' = (w.drewN q).drewN q' := fun x q => hp _ x (pw_below_drewN (Below.refl _ w) q); have HP := m0 hpAt; clear hpAt hp; go_enter Try.func148, Try.ntmps148
 go_wp2
 go_loopg [5, 8] l0.length (fun gg _ s8 wr => ∃ x : Int, s8 = .int .i64 x ∧ Aside0 (0 ≤ x ∧ x ≤ l0.length ∧ (l0.length : Int) - x ≤ gg ∧ ∀ j : Nat, (j : Int) < x → p (rd l0 j) = false) ∧ Drawn0 w wr)
 case atStart => exact ⟨0, rfl, ⟨by omega, by omega, by omega, fun j hj => by omega⟩, Drawn0.refl _⟩
 case round =>
  obtain ⟨x, rfl, HA, ⟨q, rfl⟩⟩ := hrel
  by_cases hlt : x < (l0.length : Int)
  ·obtain ⟨ad, e, hx⟩ := Kd.at_int HR0.out x HA.out.1 hlt
   cases e
   have c1 : decide (x < (l0.length : Int)) = true := decide_eq_true hlt; have p1 := eq_true HA.out.1; have q1 := eq_true hlt; clear hlt; have hcall := HP.out (rd l0 x)
   cases hq : p (rd l0 x) with
   | true =>
    rw [hq] at hcall; have HQ := m0 hq; have HC := m0 hcall; clear hq hcall
    go_wp2_with (go_at_fn g; refine (HC.out _).mono ?_; rintro e w' ⟨rfl, q', rfl⟩)
    go_ret
    refine ⟨?_, ⟨⟨_, rfl⟩⟩⟩; obtain ⟨h0, h1, h2, h3⟩ := HA.out; have hc := of_decide_eq_true c1; have hn : ((x.toNat : Nat) : Int) = x := by omega
    exact ret_int (by rw [idxF_hit p l0 x.toNat (by omega) (by rw [hn]; exact HQ.out) (fun j hj => h3 j (by omega)), hn])
   | false =>
    rw [hq] at hcall; have HQ := m0 hq; have HC := m0 hcall; clear hq hcall
    go_wp2_with (go_at_fn g; refine (HC.out _).mono ?_; rintro e w' ⟨rfl, q', rfl⟩)
    obtain ⟨h0, h1, h2, h3⟩ := HA.out; have hc := of_decide_eq_true c1; have hL := HL.out
    go_roundg (l0.length - (x + 1)).toNat
    case measure => omega
    case rel =>
     refine ⟨wrap64 (x + 1), rfl, ⟨?_⟩, ⟨⟨_, rfl⟩⟩⟩; have e1 : wrap64 (x + 1) = x + 1 := by unfold wrap64; omega
     rw [e1]; refine ⟨by omega, by omega, by omega, fun j hj => ?_⟩
     by_cases e : (j : Int) = x
     ·rw [e]; exact HQ.out
     ·exact h3 j (by omega)
  ·have c1 : decide (x < (l0.length : Int)) = false := decide_eq_false hlt; have HN := m0 hlt; clear hlt
   go_wp2
   go_ret
   refine ⟨?_, ⟨⟨q, rfl⟩⟩⟩; obtain ⟨h0, h1, h2, h3⟩ := HA.out; have := HN.out; exact ret_int (idxF_miss p l0 (fun j hj => h3 j (by omega))).symm
end
section
theorem slices_ContainsFunc_int_int.own (g : Nat) (lb : Array Value) (eg : ∀ args w, (callFunc g args).run Try.prog w = .ok (.enter g args) w) (p : Int → Bool) (A0 : Option Addr) (c0 : Nat) (l0 : List Int) (w : World) (hp : PredI g lb p w) (hr0 : Kd.C (Kd.int .i64) w A0 l0.length l0) :
  Calls Try.prog 132 #[.slice A0 l0.length c0, .func (.func g) #[] lb] w fun e w' => e = .returned (.bool (l0.any p)) ∧ Drawn0 w w' := by
 have HC := m0 ((slices_IndexFunc_int_int.own g lb eg p A0 c0 l0 w hp hr0).mono fun e w' h => (⟨h.1, h.2.out⟩ : e = .returned (.int .i64 (idxF p l0)) ∧ ∃ q, w' = w.drewN q)); rw [← idxF_any]; clear hp hr0; go_enter Try.func132, Try.ntmps132
 go_wp2_with (first | (go_at_call 148; refine HC.out.mono ?_; rintro e w' ⟨rfl, q, rfl⟩))
 go_ret
 exact ⟨rfl, ⟨⟨q, rfl⟩⟩⟩
end
section
/-- A direction's numbers: each from -20 to 20. -/
def L_isDirection.f (a0_0 a0_1 a0_2 : Int) : Option Bool := some (!([a0_0, a0_1, a0_2].any fun n => !(decide (-20 ≤ n ∧ n ≤ 20))))
theorem isdir_within (a b c : Int) : L_within.f a b c = some (decide (b ≤ a ∧ a ≤ c)) := by
 unfold L_within.f
 by_cases h : b ≤ a <;> simp [h]
theorem isdir_pred (w : World) : PredI 133 #[] (fun n => !(decide (-20 ≤ n ∧ n ≤ 20))) w := by
 intro W x hb; have hc := L_isSized.calls x 20 (decide (-20 ≤ x ∧ x ≤ 20)) W (by
  unfold L_isSized.f; rw [show wrap64 (-20) = -20 by unfold wrap64; omega, isdir_within]; rfl)
 dsimp only; generalize decide (-20 ≤ x ∧ x ≤ 20) = b at hc ⊢; clear hb; go_enter Try.func133, Try.ntmps133
 go_wp2_with (first | (go_at_call 107; refine hc.mono ?_; rintro e w' ⟨rfl, ⟨⟨q, rfl⟩⟩⟩))
 go_ret
 exact ⟨rfl, q, rfl⟩
theorem isdir_C {w : World} {b : Nat} {x y z : Int} {t : TypeId} (h : w.heap[b]? = some (.cells #[.int .i64 x, .int .i64 y, .int .i64 z] t (0, 0))) : Kd.C (Kd.int .i64) w (some ⟨b, 0, none⟩) [x, y, z].length [x, y, z] := by
 refine ⟨rfl, by simp, fun _ => ⟨_, rfl, ?_⟩⟩; intro j p hp
 match j, hp with
 | 0, hp => exact ⟨[.int .i64 x], rfl, by cases hp; rfl, fun i u hu => by match i, hu with | 0, hu => cases hu; show w.cell? ((⟨b, 0, none⟩ : Addr).add 0) = _; rw [add_plain]; exact (blk_cell h 0).trans rfl | (k + 1), hu => simp at hu⟩
 | 1, hp => exact ⟨[.int .i64 y], rfl, by cases hp; rfl, fun i u hu => by match i, hu with | 0, hu => cases hu; show w.cell? ((⟨b, 0, none⟩ : Addr).add 1) = _; rw [add_plain]; exact (blk_cell h 1).trans rfl | (k + 1), hu => simp at hu⟩
 | 2, hp => exact ⟨[.int .i64 z], rfl, by cases hp; rfl, fun i u hu => by match i, hu with | 0, hu => cases hu; show w.cell? ((⟨b, 0, none⟩ : Addr).add 2) = _; rw [add_plain]; exact (blk_cell h 2).trans rfl | (k + 1), hu => simp at hu⟩
 | (k + 3), hp => simp at hp
theorem L_isDirection.calls (a0_0 a0_1 a0_2 : Int) (r : Bool) (w : World) (h : L_isDirection.f a0_0 a0_1 a0_2 = some r) :
  Calls Try.prog 85 #[.agg #[.int .i64 a0_0, .int .i64 a0_1, .int .i64 a0_2]] w fun e w' => e = .returned (.bool r) ∧ Below w.heap.size w w' := by
 obtain rfl := Option.some.inj h; clear h; have hcall : ∀ W : World, W.heap[w.heap.size]? = some (.cells #[.int .i64 a0_0, .int .i64 a0_1, .int .i64 a0_2] 137 (0, 0)) → Calls Try.prog 132 #[.slice (some ⟨w.heap.size, 0, none⟩) 3 3, .func (.func 133) #[] #[]] W fun e w' => e = .returned (.bool ([a0_0, a0_1, a0_2].any fun n => !(decide (-20 ≤ n ∧ n ≤ 20)))) ∧ ∃ q, w' = W.drewN q := fun W hW =>
  (slices_ContainsFunc_int_int.own _ _ (enters_of Try.func133 (by kernel_rfl) rfl) _ (some ⟨w.heap.size, 0, none⟩) 3 [a0_0, a0_1, a0_2] W (isdir_pred W) (isdir_C hW)).mono fun e w' h => ⟨h.1, h.2.out⟩
 generalize ([a0_0, a0_1, a0_2].any fun n => !(decide (-20 ≤ n ∧ n ≤ 20))) = b at hcall ⊢; have HC := m0 hcall; clear hcall; have hu := Try.underlying137; go_enter Try.func85, Try.ntmps85
 go_wp2_with (first | (go_at_call 132; refine (HC.out _ (by exact (show ∀ (w : World) (o : Obj), (w.alloc o).heap[w.heap.size]? = some o from fun w o => by simp only [World.alloc, Array.getElem?_push, if_true]) _ _)).mono ?_; rintro e w' ⟨rfl, q, rfl⟩))
 go_ret
 exact ⟨rfl, by repeat (first | exact Below.refl _ _ | apply below_alloc | apply pw_below_drewN | apply below_drew)⟩
end
section
attribute [local go_sem high] eqA44
def L_sightsErr.l0 : Nat → Int → List (S126) → Int → Int → Option (Int)
 | 0, _, _, _, _ => none
 | k + 1, x3, x16, x17, x18 => if x18 < x17 then (if 0 ≤ x18 then (if x18 < (x16.length : Int) then ((L_isDirection.f ((rd_T126 x16 x18).f0.f0) ((rd_T126 x16 x18).f0.f1) ((rd_T126 x16 x18).f0.f2)).bind fun t212 => (if t212 = true then ((L_isDirection.f ((rd_T126 x16 x18).f1.f0) ((rd_T126 x16 x18).f1.f1) ((rd_T126 x16 x18).f1.f2)).bind fun t213 => ((L_unless.f t213 2).bind fun t214 => (if (!(((rd_T126 x16 x18).f0.f0) == 0) || (!(((rd_T126 x16 x18).f0.f1) == 0) || (!(((rd_T126 x16 x18).f0.f2) == 0)))) = true then ((L_unless.f (!(((rd_T126 x16 x18).f1.f0) == 0) || (!(((rd_T126 x16 x18).f1.f1) == 0) || (!(((rd_T126 x16 x18).f1.f2) == 0)))) 11).bind fun t215 => ((L_first.f k (([x3, t214, t215] : List Int))).bind fun t219 => (L_sightsErr.l0 k t219 x16 x17 (wrap64 (x18 + 1))))) else (none)))) else (none))) else (none)) else (none)) else (some x3)
def L_sightsErr.f (k : Nat) (l0 : List (S126)) : Option (Int) := (L_unless.f (decide ((l0.length : Int) > 0)) 10).bind fun t204 => ((L_unless.f (decide ((l0.length : Int) ≤ 8)) 8).bind fun t205 => ((L_first.f k (([t204, t205] : List Int))).bind fun t209 => (L_sightsErr.l0 k t209 l0 (l0.length : Int) 0)))
theorem L_sightsErr.mono_l : ∀ k, (∀ y0 y1 y2 y3, LeO (L_sightsErr.l0 k y0 y1 y2 y3) (L_sightsErr.l0 (k + 1) y0 y1 y2 y3))
 | 0 => fun _ _ _ _ r h => by simp [L_sightsErr.l0] at h
 | k + 1 => by
  have ih0 := L_sightsErr.mono_l k
  ·intro y0 y1 y2 y3; unfold L_sightsErr.l0
   repeat' with_reducible first
    | exact ih0 ..
    | exact L_first.mono ..
    | exact LeO.refl ..
    | exact LeO.none ..
    | refine LeO.ite ?_ ?_
    | refine LeO.bind ?_ (fun _ => ?_)
theorem L_sightsErr.mono : ∀ a0 k, LeO (L_sightsErr.f k a0) (L_sightsErr.f (k + 1) a0) := by
 intro a0 k; have ih0 := L_sightsErr.mono_l k; unfold L_sightsErr.f
 repeat' with_reducible first
  | exact ih0 ..
  | exact L_first.mono ..
  | exact LeO.refl ..
  | exact LeO.none ..
  | refine LeO.ite ?_ ?_
  | refine LeO.bind ?_ (fun _ => ?_)
def L_sightsErr.T5 : Bool × List (List Nat × List Nat) := (true, [([], []), ([], []), ([1], [1]), ([2], [2]), ([3, 3], [3]), ([4], [4]), ([5, 4], [4, 5]), ([6, 4, 4], [4, 6]), ([4, 7], [4, 7]), ([8, 7], [8]), ([], []), ([10], [10]), ([], []), ([11, 12], [11, 12]), ([13, 9], [13]), ([14], [14]), ([15, 14], [14, 15]), ([14], [14]), ([16, 17, 14], [14, 16, 17]), ([14, 18], [14, 18]), ([19, 14], [19]), ([0, 9, 20], [0, 9, 20]), ([21, 20], [21]), ([22, 22, 0, 1, 2, 3, 4, 5, 6, 7, 8, 9, 10, 11, 12, 13, 14, 15, 16, 17, 18, 19, 20, 21, 22], [0, 22])])
def L_sightsErr.B5 : List Nat := [0, 0, 2, 6, 14, 30, 62, 126, 254, 510, 0, 1024, 0, 7168, 16382, 32766, 65534, 32766, 262142, 524286, 1048574, 2097151, 4194303, 8388607]
theorem L_sightsErr.tab5 : rtab .any (opsOf Try.f123 5) = L_sightsErr.T5 := by kernel_rfl
theorem L_sightsErr.bits5 : waitsOk L_sightsErr.T5.2 L_sightsErr.B5 = true := by kernel_rfl
theorem L_sightsErr.calls (k : Nat) (A0 : Option Addr) (c0 : Nat) (l0 : List (S126)) (r : Int) (w : World) (hr0 : Kd.C k126 w A0 l0.length l0) (hc0 : l0.length ≤ c0) (H : L_sightsErr.f k l0 = some r) :
  Calls Try.prog 123 #[.slice A0 l0.length c0] w fun e w' => e = .returned (.int .i64 r) ∧ Below w.heap.size w w' := by
 have hu126 := Try.underlying126; have hu44 := Try.underlying44; have HR0 := m0 hr0; have HC0 := m0 hc0; clear hr0 hc0; have HB := m0 (Below.refl w.heap.size w); unfold L_sightsErr.f at H; replace H := oa H; obtain ⟨t204, A2, H⟩ := H; (try dsimp only at H); replace H := oa H; obtain ⟨t205, A3, H⟩ := H; (try dsimp only at H); obtain ⟨y206, hy206⟩ : ∃ y_ : List Int, y_ = (([t204, t205] : List Int)) := ⟨_, rfl⟩; replace H : ((L_first.f k y206).bind fun t209 => (L_sightsErr.l0 k t209 l0 (l0.length : Int) 0)) = some r := by first | (rw [hy206]; with_reducible exact H) | (have H2_ := (Option.bind_some _ _).symm.trans H; rw [hy206]; with_reducible exact H2_) | (have H2_ := (Option.bind_some _ _).symm.trans H; with_reducible exact H2_) | with_reducible exact H | (rw [hy206]; exact H) | exact H
 have Ny206 := m0 hy206; clear hy206; replace H := oa H; obtain ⟨t209, A4, H⟩ := H; (try dsimp only at H); have H' := m0 H; clear H; go_enter Try.func123, Try.ntmps123
 go_wp2_with (first | ((with_reducible refine gc 76 rfl ?_); refine goesL_ (some 9) rfl rfl Try.func76 (by kernel_rfl) rfl #[.bool (decide ((l0.length : Int) > 0)), .int .i64 10] rfl (by (try simp only [List.map_toArray, List.map_cons, List.map_nil]); first | done | rfl | (simp only [List.length_drop, List.length_take]; rfl) | (simp; first | done | exact ⟨rfl, rfl⟩)) ?_; (with_reducible refine (L_unless.calls (decide ((l0.length : Int) > 0)) 10 t204 _ A2.out).mono ?_); rintro e w' ⟨rfl, ⟨nd, rfl⟩⟩; refine ⟨_, rfl, ?_⟩) | ((with_reducible refine gc 76 rfl ?_); refine gl (some 13) Try.func76 #[.bool (decide ((l0.length : Int) ≤ 8)), .int .i64 8] ?_; (with_reducible refine (L_unless.calls (decide ((l0.length : Int) ≤ 8)) 8 t205 _ A3.out).mono ?_); rintro e w' ⟨rfl, ⟨nd, rfl⟩⟩; refine ⟨_, rfl, ?_⟩) | ((with_reducible refine ga 14 rfl ?_); refine Kd.R_lit (Kd.int .i64) _ 24 ?hg (N := 14) ?hd (xs := ([t204, t205] : List Int)) (inner := [.int .i64 t204, .int .i64 t205]) (ok := fun _ => True) (okp := fun _ => True) ?hr ?hp (fun _ hk => hk) trivial (Below.refl _ _) (Nat.le_refl _) (by simp) ?_; (case hd => rfl); (case hg => rfl); (case hr => first | (go_simp; done) | (go_simp; rfl)); (case hp => exact (Reps.one (ki t204) (Reps.one (ki t205) (Reps.none _ _)))); intro v207 w5 ho6 hb hg_ hnew_; clear hg_ hnew_; (first | rw [← Ny206.out] at ho6 | (simp only [Int.reduceToNat] at ho6; rw [← Ny206.out] at ho6)); have HO208 := m0 (Kd.R_lower ho6 (below_size bz)); replace HB := sb HB hb; clear hb ho6; obtain ⟨Ao7, co7, eo7⟩ := Kd.R_slice HO208.out; subst eo7) | ((with_reducible refine gc 75 rfl ?_); refine gl (some 15) Try.func75 #[.slice Ao7 y206.length co7] ?_; (with_reducible refine (L_first.calls k _ _ y206 t209 _ ?side1 ?side2 A4.out).mono ?_); (case side1 => exact bc (Kd.R_reads' HO208.out).2.2); (case side2 => exact (Kd.R_reads' HO208.out).2.1); rintro e w' ⟨rfl, ⟨nd, rfl⟩⟩; refine ⟨_, rfl, ?_⟩))
 go_loopg [3, 18] k (fun kq v3 v18 w' => ∃ (x3_1 : Int) (x18_1 : Int), v3 = .int .i64 x3_1 ∧ v18 = .int .i64 x18_1 ∧ Aside0 (L_sightsErr.l0 kq x3_1 l0 (l0.length : Int) x18_1 = some r) ∧ Aside0 (kq ≤ k) ∧ Aside0 (Below w.heap.size w w'))
 case atStart => exact ⟨(t209), (0), rz, rz, H', ⟨Nat.le_refl _⟩, ⟨bz⟩⟩
 case round =>
  clear H'; obtain ⟨x3_1, x18_1, rfl, rfl, HA, HK1, HB⟩ := hrel
  cases gk with
  | zero => exact absurd HA.out (by simp [L_sightsErr.l0])
  | succ k1 =>
   have H := HA.out; clear HA; simp only [L_sightsErr.l0] at H
   by_cases c8 : x18_1 < (l0.length : Int)
   ·rw [if_pos c8] at H; have c8b0 := decide_eq_true c8; clear c8
    by_cases c9 : 0 ≤ x18_1
    ·rw [if_pos c9] at H; have c9b0 := decide_eq_true c9; clear c9
     by_cases c10 : x18_1 < (l0.length : Int)
     ·rw [if_pos c10] at H; have c10b0 := decide_eq_true c10; clear c10; replace H := oa H; obtain ⟨t212, A11, H⟩ := H; (try dsimp only at H)
      by_cases c12 : t212 = true
      ·subst c12; rw [if_pos rfl] at H; replace H := oa H; obtain ⟨t213, A13, H⟩ := H; (try dsimp only at H); replace H := oa H; obtain ⟨t214, A14, H⟩ := H; (try dsimp only at H)
       by_cases c15 : (!(((rd_T126 l0 x18_1).f0.f0) == 0) || (!(((rd_T126 l0 x18_1).f0.f1) == 0) || (!(((rd_T126 l0 x18_1).f0.f2) == 0)))) = true
       ·rw [if_pos c15] at H; have c15b0 : (!(((rd_T126 l0 x18_1).f0.f0) == 0) || (!(((rd_T126 l0 x18_1).f0.f1) == 0) || (!(((rd_T126 l0 x18_1).f0.f2) == 0)))) = true := c15; clear c15; replace H := oa H; obtain ⟨t215, A16, H⟩ := H; (try dsimp only at H); obtain ⟨y216, hy216⟩ : ∃ y_ : List Int, y_ = (([x3_1, t214, t215] : List Int)) := ⟨_, rfl⟩; replace H : ((L_first.f k1 y216).bind fun t219 => (L_sightsErr.l0 k1 t219 l0 (l0.length : Int) (wrap64 (x18_1 + 1)))) = some r := by first | (rw [hy216]; with_reducible exact H) | (have H2_ := (Option.bind_some _ _).symm.trans H; rw [hy216]; with_reducible exact H2_) | (have H2_ := (Option.bind_some _ _).symm.trans H; with_reducible exact H2_) | with_reducible exact H | (rw [hy216]; exact H) | exact H
        have Ny216 := m0 hy216; clear hy216; replace H := oa H; obtain ⟨t219, A17, H⟩ := H; (try dsimp only at H); have H' := m0 H; clear H; have p210 : 0 ≤ (x18_1 : Int) := od; have q210 : x18_1 < (l0.length : Int) := od; obtain ⟨ad210, e210, hx210_0, hx210_1, hx210_2, hx210_3, hx210_4, hx210_5⟩ := at_T126 HR0.out x18_1 p210 q210
        cases e210
        replace hx210_0 := hc HB hx210_0; replace hx210_1 := hc HB hx210_1; replace hx210_2 := hc HB hx210_2; replace hx210_3 := hc HB hx210_3; replace hx210_4 := hc HB hx210_4; replace hx210_5 := hc HB hx210_5; replace p210 := eq_true p210; replace q210 := eq_true q210
        try go_wp2_with (first | ((with_reducible refine ga 5 rfl ?_); refine be 5 126 #[.int .i64 0, .int .i64 0, .int .i64 0, .int .i64 0, .int .i64 0, .int .i64 0] ?_; intro gb211 hg w18 hbox hb; have BK211 := m0 hbox; have GE211 := gw w hg; replace HB := sb HB hb; clear hb hbox hg; obtain ⟨_, _, _, _, _, _, _, _, _, _, _, _⟩ := b6 BK211))
        replace BK211 : Aside0 (((((((w18.setCell ⟨gb211, 0, none⟩ (.int .i64 ((rd_T126 l0 x18_1).f0.f0))).setCell ⟨gb211, 1, none⟩ (.int .i64 ((rd_T126 l0 x18_1).f0.f1))).setCell ⟨gb211, 2, none⟩ (.int .i64 ((rd_T126 l0 x18_1).f0.f2))).setCell ⟨gb211, 3, none⟩ (.int .i64 ((rd_T126 l0 x18_1).f1.f0))).setCell ⟨gb211, 4, none⟩ (.int .i64 ((rd_T126 l0 x18_1).f1.f1))).setCell ⟨gb211, 5, none⟩ (.int .i64 ((rd_T126 l0 x18_1).f1.f2))).heap[gb211]? = some (.cells #[.int .i64 ((rd_T126 l0 x18_1).f0.f0), .int .i64 ((rd_T126 l0 x18_1).f0.f1), .int .i64 ((rd_T126 l0 x18_1).f0.f2), .int .i64 ((rd_T126 l0 x18_1).f1.f0), .int .i64 ((rd_T126 l0 x18_1).f1.f1), .int .i64 ((rd_T126 l0 x18_1).f1.f2)] 126 (0, 0))) := ⟨bq BK211.out⟩; replace HB : Aside0 (Below w.heap.size w ((((((w18.setCell ⟨gb211, 0, none⟩ (.int .i64 ((rd_T126 l0 x18_1).f0.f0))).setCell ⟨gb211, 1, none⟩ (.int .i64 ((rd_T126 l0 x18_1).f0.f1))).setCell ⟨gb211, 2, none⟩ (.int .i64 ((rd_T126 l0 x18_1).f0.f2))).setCell ⟨gb211, 3, none⟩ (.int .i64 ((rd_T126 l0 x18_1).f1.f0))).setCell ⟨gb211, 4, none⟩ (.int .i64 ((rd_T126 l0 x18_1).f1.f1))).setCell ⟨gb211, 5, none⟩ (.int .i64 ((rd_T126 l0 x18_1).f1.f2)))) := ⟨bz⟩; generalize ((((((w18.setCell ⟨gb211, 0, none⟩ (.int .i64 ((rd_T126 l0 x18_1).f0.f0))).setCell ⟨gb211, 1, none⟩ (.int .i64 ((rd_T126 l0 x18_1).f0.f1))).setCell ⟨gb211, 2, none⟩ (.int .i64 ((rd_T126 l0 x18_1).f0.f2))).setCell ⟨gb211, 3, none⟩ (.int .i64 ((rd_T126 l0 x18_1).f1.f0))).setCell ⟨gb211, 4, none⟩ (.int .i64 ((rd_T126 l0 x18_1).f1.f1))).setCell ⟨gb211, 5, none⟩ (.int .i64 ((rd_T126 l0 x18_1).f1.f2))) = w20 at BK211 HB ⊢; replace BK211 := bd BK211; replace HB := sd HB; refine start_ (n := 24) (S := fun w' => w'.cell? ⟨gb211, 0, none⟩ = some (.int .i64 ((rd_T126 l0 x18_1).f0.f0)) ∧ w'.cell? ⟨gb211, 1, none⟩ = some (.int .i64 ((rd_T126 l0 x18_1).f0.f1)) ∧ w'.cell? ⟨gb211, 2, none⟩ = some (.int .i64 ((rd_T126 l0 x18_1).f0.f2)) ∧ w'.cell? ⟨gb211, 3, none⟩ = some (.int .i64 ((rd_T126 l0 x18_1).f1.f0)) ∧ w'.cell? ⟨gb211, 4, none⟩ = some (.int .i64 ((rd_T126 l0 x18_1).f1.f1)) ∧ w'.cell? ⟨gb211, 5, none⟩ = some (.int .i64 ((rd_T126 l0 x18_1).f1.f2))) (ds := []) _ (by kernel_rfl) rfl rfl cz (fun hH => ?_); refine with_tabW L_sightsErr.tab5 L_sightsErr.bits5 (fun HT_ HW_ => ?_); generalize w20.drew = w21 at BK211 HB hH ⊢; refine pZ 0 (some 22) (bs 24 1) HT_ ?_; refine pZ 1 (some 23) (bs 24 3) HT_ ?_; refine pZ 10 (some 32) (bs 24 1027) HT_ ?_; refine pZ 12 (some 34) (bs 24 5123) HT_ ?_; refine takeZ 2 (some 24) (bs 24 5127) (tw HT_ HW_) hH ?_; refine takeZ 11 (some 33) (bs 24 7175) (tw HT_ HW_) hH ?_; refine pZ 13 (some 35) (bs 24 15367) HT_ ?_; refine oneZ 3 (some 25) (bs 24 15375) (o1 HT_) fun K hK => ?_; refine gz Try.func85 #[.agg #[.int .i64 ((rd_T126 l0 x18_1).f0.f0), .int .i64 ((rd_T126 l0 x18_1).f0.f1), .int .i64 ((rd_T126 l0 x18_1).f0.f2)]] ?_
        with_reducible refine (L_isDirection.calls ((rd_T126 l0 x18_1).f0.f0) ((rd_T126 l0 x18_1).f0.f1) ((rd_T126 l0 x18_1).f0.f2) true _ A11.out).mono ?_
        rintro e w22 ⟨rfl, hb⟩; refine ⟨_, rfl, ?_⟩; replace BK211 := bb BK211 hb; replace HB := sb HB hb; (try clear hb); refine hK.out _ _ cz (fun hH => ?_); clear hK K; refine nz 25 ?_; refine pZ 4 (some 26) (bs 24 15391) HT_ ?_; refine pZ 5 (some 27) (bs 24 15423) HT_ ?_; refine takeZ 6 (some 28) (bs 24 15487) (tw HT_ HW_) hH ?_; refine oneZ 7 (some 29) (bs 24 15615) (o1 HT_) fun K hK => ?_; refine gz Try.func85 #[.agg #[.int .i64 ((rd_T126 l0 x18_1).f1.f0), .int .i64 ((rd_T126 l0 x18_1).f1.f1), .int .i64 ((rd_T126 l0 x18_1).f1.f2)]] ?_
        with_reducible refine (L_isDirection.calls ((rd_T126 l0 x18_1).f1.f0) ((rd_T126 l0 x18_1).f1.f1) ((rd_T126 l0 x18_1).f1.f2) t213 _ A13.out).mono ?_
        rintro e w23 ⟨rfl, hb⟩; refine ⟨_, rfl, ?_⟩; replace BK211 := bb BK211 hb; replace HB := sb HB hb; (try clear hb); refine hK.out _ _ cz (fun hH => ?_); clear hK K; refine nz 29 ?_; refine pZ 8 (some 30) (bs 24 15871) HT_ ?_; refine oneZ 9 (some 31) (bs 24 16383) (o1 HT_) fun K hK => ?_; refine gz Try.func76 #[.bool t213, .int .i64 2] ?_
        with_reducible refine (L_unless.calls t213 2 t214 _ A14.out).mono ?_
        rintro e w' ⟨rfl, ⟨nd, rfl⟩⟩; refine ⟨_, rfl, ?_⟩; refine hK.out _ _ cz (fun hH => ?_); clear hK K; refine nz 31 ?_; refine pZ 14 (some 36) (bs 24 32767) HT_ ?_; refine pZ 15 (some 37) (bs 24 65535) HT_ ?_; refine pZ 17 (some 39) (bs 24 196607) HT_ ?_; refine takeZ 16 (some 38) (bs 24 262143) (tw HT_ HW_) hH ?_; refine pZ 18 (some 40) (bs 24 524287) HT_ ?_; refine pZ 19 (some 41) (bs 24 1048575) HT_ ?_; refine oneZ 20 (some 42) (bs 24 2097151) (o1 HT_) fun K hK => ?_; refine gz Try.func76 #[.bool (!(((rd_T126 l0 x18_1).f1.f0) == 0) || (!(((rd_T126 l0 x18_1).f1.f1) == 0) || (!(((rd_T126 l0 x18_1).f1.f2) == 0)))), .int .i64 11] ?_
        with_reducible refine (L_unless.calls (!(((rd_T126 l0 x18_1).f1.f0) == 0) || (!(((rd_T126 l0 x18_1).f1.f1) == 0) || (!(((rd_T126 l0 x18_1).f1.f2) == 0)))) 11 t215 _ A16.out).mono ?_
        rintro e w' ⟨rfl, ⟨nd, rfl⟩⟩; refine ⟨_, rfl, ?_⟩; refine hK.out _ _ cz (fun hH => ?_); clear hK K; refine nz 42 ?_; refine oneZ 21 (some 43) (bs 24 4194303) (o1 HT_) fun K hK => ?_; refine Kd.R_lit_step (Kd.int .i64) _ 24 ?hg (N := 43) ?hd (xs := ([x3_1, t214, t215] : List Int)) (inner := [.int .i64 x3_1, .int .i64 t214, .int .i64 t215]) (ok := fun _ => True) (okp := fun _ => True) ?hr ?hp (fun _ hk => hk) trivial (Below.refl _ _) (Nat.le_refl _) (by simp) ?_; (case hd => rfl); (case hg => rfl); (case hr => first | (go_simp; done) | (go_simp; rfl)); (case hp => exact (Reps.one (ki x3_1) (Reps.one (ki t214) (Reps.one (ki t215) (Reps.none _ _)))))
        intro v217 w24 ho25 hb hg_ hnew_; clear hg_ hnew_
        (first | rw [← Ny216.out] at ho25 | (simp only [Int.reduceToNat] at ho25; rw [← Ny216.out] at ho25))
        have HO218 := m0 (Kd.R_lower ho25 (below_size bz)); replace BK211 := bb BK211 hb; replace HB := sb HB hb; clear hb ho25; obtain ⟨Ao26, co26, eo26⟩ := Kd.R_slice HO218.out; subst eo26; refine hK.out _ _ cz (fun hH => ?_); clear hK K; refine nz 43 ?_; refine oneZ 22 (some 44) (bs 24 8388607) (o1 HT_) fun K hK => ?_; refine gz Try.func75 #[.slice Ao26 y216.length co26] ?_
        with_reducible refine (L_first.calls k1 _ _ y216 t219 _ ?side1 ?side2 A17.out).mono ?_
        (case side1 => exact bc (Kd.R_reads' HO218.out).2.2)
        (case side2 => exact (Kd.R_reads' HO218.out).2.1)
        rintro e w' ⟨rfl, ⟨nd, rfl⟩⟩; refine ⟨_, rfl, ?_⟩; refine hK.out _ _ cz (fun hH => ?_); clear hK K; refine nz 44 ?_; refine pZ 23 (some 3) (bs 24 16777215) HT_ ?_; refine done_ (done_of HT_.out (by kernel_rfl)) ?_
        try go_wp2
        go_roundg k1
        case measure => have := HK1.out; omega
        case rel => exact ⟨(t219), (wrap64 (x18_1 + 1)), rz, rz, H', ⟨by have := HK1.out; omega⟩, ⟨bz⟩⟩
       ·rw [if_neg c15] at H; exact absurd H (by simp)
      ·replace c12 := Bool.eq_false_iff.mpr c12; subst c12; rw [if_neg (show ¬ (false = true) by decide)] at H; exact absurd H (by simp)
     ·rw [if_neg c10] at H; exact absurd H (by simp)
    ·rw [if_neg c9] at H; exact absurd H (by simp)
   ·rw [if_neg c8] at H; have c8b0 := decide_eq_false c8; clear c8; obtain rfl := Option.some.inj H
    go_wp2
    go_ret
    exact ez
end
section
def L_vector_dot.f (a0_0 : Int) (a0_1 : Int) (a0_2 : Int) (a1_0 : Int) (a1_1 : Int) (a1_2 : Int) : Option (Int) := some (wrap64 ((wrap64 ((wrap64 (a0_0 * a1_0)) + (wrap64 (a0_1 * a1_1)))) + (wrap64 (a0_2 * a1_2))))
theorem L_vector_dot.calls (a0_0 : Int) (a0_1 : Int) (a0_2 : Int) (a1_0 : Int) (a1_1 : Int) (a1_2 : Int) (r : Int) (w : World) (H : L_vector_dot.f a0_0 a0_1 a0_2 a1_0 a1_1 a1_2 = some r) :
  Calls Try.prog 130 #[.agg #[.int .i64 a0_0, .int .i64 a0_1, .int .i64 a0_2], .agg #[.int .i64 a1_0, .int .i64 a1_1, .int .i64 a1_2]] w fun e w' => e = .returned (.int .i64 r) ∧ Below w.heap.size w w' := by
 have hu137 := Try.underlying137; have hix137_0 : ∀ (g_ : Nat) (W_ : World), (Instr.indexAt 137 (.pointer (some ⟨g_, 0, none⟩)) (.int .i64 0)).run Try.prog W_ = .ok (.pointer (some ⟨g_, 0, none⟩)) W_ := fun _ _ => by kernel_rfl
 have hix137_1 : ∀ (g_ : Nat) (W_ : World), (Instr.indexAt 137 (.pointer (some ⟨g_, 0, none⟩)) (.int .i64 1)).run Try.prog W_ = .ok (.pointer (some ⟨g_, 1, none⟩)) W_ := fun _ _ => by kernel_rfl
 have hix137_2 : ∀ (g_ : Nat) (W_ : World), (Instr.indexAt 137 (.pointer (some ⟨g_, 0, none⟩)) (.int .i64 2)).run Try.prog W_ = .ok (.pointer (some ⟨g_, 2, none⟩)) W_ := fun _ _ => by kernel_rfl
 have HB := m0 (Below.refl w.heap.size w); unfold L_vector_dot.f at H; obtain rfl := Option.some.inj H; go_enter Try.func130, Try.ntmps130
 go_wp2_with (first | ((with_reducible refine ga 2 rfl ?_); refine be 2 137 #[.int .i64 a0_0, .int .i64 a0_1, .int .i64 a0_2] ?_; intro gb220 hg w3 hbox hb; have BK220 := m0 hbox; have GE220 := gw w hg; replace HB := sb HB hb; clear hb hbox hg) | ((with_reducible refine ga 3 rfl ?_); refine be 3 137 #[.int .i64 a1_0, .int .i64 a1_1, .int .i64 a1_2] ?_; intro gb221 hg w4 hbox hb; have BK221 := m0 hbox; have GE221 := gw w hg; replace HB := sb HB hb; have NB220_221 := nl BK220 hg; have NB221_220 := ng (nl BK220 hg); replace BK220 := bb BK220 hb; clear hb hbox hg; have hnb5 := NB220_221.out; have hnc5 := NB221_220.out; obtain ⟨_, _, _, _, _, _⟩ := b3 BK220; obtain ⟨_, _, _, _, _, _⟩ := b3 BK221))
 go_ret
 exact ez
end
section
def L_vector_cross.f (a0_0 : Int) (a0_1 : Int) (a0_2 : Int) (a1_0 : Int) (a1_1 : Int) (a1_2 : Int) : Option (Int × Int × Int) := some (wrap64 ((wrap64 (a0_1 * a1_2)) - (wrap64 (a0_2 * a1_1))), wrap64 ((wrap64 (a0_2 * a1_0)) - (wrap64 (a0_0 * a1_2))), wrap64 ((wrap64 (a0_0 * a1_1)) - (wrap64 (a0_1 * a1_0))))
theorem L_vector_cross.calls (a0_0 : Int) (a0_1 : Int) (a0_2 : Int) (a1_0 : Int) (a1_1 : Int) (a1_2 : Int) (r1 : Int) (r2 : Int) (r3 : Int) (w : World) (H : L_vector_cross.f a0_0 a0_1 a0_2 a1_0 a1_1 a1_2 = some (r1, r2, r3)) :
  Calls Try.prog 131 #[.agg #[.int .i64 a0_0, .int .i64 a0_1, .int .i64 a0_2], .agg #[.int .i64 a1_0, .int .i64 a1_1, .int .i64 a1_2]] w fun e w' => e = .returned (.agg #[.int .i64 r1, .int .i64 r2, .int .i64 r3]) ∧ Below w.heap.size w w' := by
 have hu137 := Try.underlying137; have hix137_0 : ∀ (g_ : Nat) (W_ : World), (Instr.indexAt 137 (.pointer (some ⟨g_, 0, none⟩)) (.int .i64 0)).run Try.prog W_ = .ok (.pointer (some ⟨g_, 0, none⟩)) W_ := fun _ _ => by kernel_rfl
 have hix137_1 : ∀ (g_ : Nat) (W_ : World), (Instr.indexAt 137 (.pointer (some ⟨g_, 0, none⟩)) (.int .i64 1)).run Try.prog W_ = .ok (.pointer (some ⟨g_, 1, none⟩)) W_ := fun _ _ => by kernel_rfl
 have hix137_2 : ∀ (g_ : Nat) (W_ : World), (Instr.indexAt 137 (.pointer (some ⟨g_, 0, none⟩)) (.int .i64 2)).run Try.prog W_ = .ok (.pointer (some ⟨g_, 2, none⟩)) W_ := fun _ _ => by kernel_rfl
 have HB := m0 (Below.refl w.heap.size w); unfold L_vector_cross.f at H; simp only [Option.some.injEq, Prod.mk.injEq] at H; obtain ⟨rfl, rfl, rfl⟩ := H; go_enter Try.func131, Try.ntmps131
 go_wp2_with (first | ((with_reducible refine ga 2 rfl ?_); refine be 2 137 #[.int .i64 a0_0, .int .i64 a0_1, .int .i64 a0_2] ?_; intro gb222 hg w3 hbox hb; have BK222 := m0 hbox; have GE222 := gw w hg; replace HB := sb HB hb; clear hb hbox hg) | ((with_reducible refine ga 3 rfl ?_); refine be 3 137 #[.int .i64 a1_0, .int .i64 a1_1, .int .i64 a1_2] ?_; intro gb223 hg w4 hbox hb; have BK223 := m0 hbox; have GE223 := gw w hg; replace HB := sb HB hb; have NB222_223 := nl BK222 hg; have NB223_222 := ng (nl BK222 hg); replace BK222 := bb BK222 hb; clear hb hbox hg) | ((with_reducible refine ga 4 rfl ?_); refine be 4 137 #[.int .i64 0, .int .i64 0, .int .i64 0] ?_; intro gb224 hg w5 hbox hb; have BK224 := m0 hbox; have GE224 := gw w hg; replace HB := sb HB hb; have NB222_224 := nl BK222 hg; have NB224_222 := ng (nl BK222 hg); replace BK222 := bb BK222 hb; have NB223_224 := nl BK223 hg; have NB224_223 := ng (nl BK223 hg); replace BK223 := bb BK223 hb; clear hb hbox hg; have hnb6 := NB222_223.out; have hnc6 := NB223_222.out; have hnb7 := NB222_224.out; have hnc7 := NB224_222.out; obtain ⟨_, _, _, _, _, _⟩ := b3 BK222; have hnb9 := NB223_224.out; have hnc9 := NB224_223.out; obtain ⟨_, _, _, _, _, _⟩ := b3 BK223; obtain ⟨_, _, _, _, _, _⟩ := b3 BK224))
 refine bodyPost_ret (results_cell_row rfl _ _ gb224 137 #[.int .i64 (wrap64 ((wrap64 (a0_1 * a1_2)) - (wrap64 (a0_2 * a1_1)))), .int .i64 (wrap64 ((wrap64 (a0_2 * a1_0)) - (wrap64 (a0_0 * a1_2)))), .int .i64 (wrap64 ((wrap64 (a0_0 * a1_1)) - (wrap64 (a0_1 * a1_0))))] (0, 0) _ rfl (bq BK224.out) Try.underlying137 rfl (by kernel_rfl)) rfl ?_; exact ez
end
end Go.Proofs.Ytibhfahbabgbaaa.A
