/- Walks of the program's functions (printed, made shorter), each with what it computes. -/
import Derived.Test.YteiafijbgjgiaaaB13
namespace Go.Proofs.Yteiafijbgjgiaaa.A
set_option maxHeartbeats 8000000
set_option maxRecDepth 100000
open Go.RowKit Go.Proofs.YteiafijbgjgiaaaW.PrintWords Go.Proofs.YteiafijbgjgiaaaW.PrintLast Go.Proofs.YteiafijbgjgiaaaW.PrintMore
attribute [local go_sem] max2_int min2_int max_two min_two max_three min_three max_four min_four
set_option linter.unusedVariables false
set_option linter.unusedSimpArgs false
section
def L_SegmentsOf.f (k : Nat) (l0 : List Int) (a1 : Int) : Option (List Int × Int × Int) := (L_openDivision.f k l0 a1).bind fun bt303 => (if bt303.2 = 0 then ((L_profile_divisions.f k bt303.1 a1).bind fun t307 => (if 0 ≤ (bt303.1.length : Int) then (if (bt303.1.length : Int) < (t307.length : Int) then (some ((rd_T132 t307 (bt303.1.length : Int)).f1, (rd_T132 t307 (bt303.1.length : Int)).f0, 0)) else (none)) else (none))) else (some (([] : List Int), 0, bt303.2)))
theorem L_SegmentsOf.mono : ∀ a0 a1 k, LeO (L_SegmentsOf.f k a0 a1) (L_SegmentsOf.f (k + 1) a0 a1) := by
 intro a0 a1 k; unfold L_SegmentsOf.f
 repeat' with_reducible first
  | exact L_openDivision.mono ..
  | exact L_profile_divisions.mono ..
  | exact LeO.refl ..
  | exact LeO.none ..
  | refine LeO.ite ?_ ?_
  | refine LeO.bind ?_ (fun _ => ?_)
theorem L_SegmentsOf.calls (k : Nat) (P0_ : Nat → Prop) (A0 : Option Addr) (c0 : Nat) (l0 : List Int) (a1 : Int) (r1 : List Int) (r2 : Int) (r3 : Int) (w : World) (hs0 : Kd.V (Kd.int .i64) 3 w w.heap.size (fun k_ => P0_ k_) (.slice A0 l0.length c0) l0) (H : L_SegmentsOf.f k l0 a1 = some (r1, r2, r3)) :
  Calls Try.prog 33 #[.slice A0 l0.length c0, .int .i64 a1] w fun e w' => ∃ v0_ : Value, e = .returned (.tuple #[v0_, .int .i64 r2, .int .i64 r3]) ∧ Kd.V (Kd.int .i64) 3 w' w.heap.size (fun k_ => (P0_ k_ ∨ w.heap.size ≤ k_)) v0_ r1 ∧ Below w.heap.size w w' := by
 have hu132 := Try.underlying132; have HO0 := m0 (show Kd.V (Kd.int .i64) 3 w w.heap.size (fun k_ => (P0_ k_ ∨ w.heap.size ≤ k_)) (.slice A0 l0.length c0) l0 from Kd.V_mono hs0 (fun k_ hk => .inl hk)); have HB := m0 (Below.refl w.heap.size w); unfold L_SegmentsOf.f at H; replace H := oa H; obtain ⟨⟨t303, t306⟩, A3, H⟩ := H; (try dsimp only at H)
 by_cases c4 : t306 = 0
 ·rw [if_pos c4] at H; have c4b0 := beq_iff_eq.mpr c4; have c4b1 := bne_eq_false_iff_eq.mpr c4; clear c4; replace H := oa H; obtain ⟨t307, A5, H⟩ := H; (try dsimp only at H)
  by_cases c6 : 0 ≤ (t303.length : Int)
  ·rw [if_pos c6] at H; have c6b0 := decide_eq_true c6; have c6b1 : decide (0 ≤ t303.length) = true := decide_eq_true (by omega); clear c6
   by_cases c7 : (t303.length : Int) < (t307.length : Int)
   ·rw [if_pos c7] at H; have c7b0 := decide_eq_true c7; have c7b1 : decide (t303.length < t307.length) = true := decide_eq_true (Int.ofNat_lt.mp c7); clear c7; simp only [Option.some.injEq, Prod.mk.injEq] at H; obtain ⟨rfl, rfl, rfl⟩ := H; go_enter Try.func33, Try.ntmps33
    go_wp2_with (first | (go_at_call 86; (with_reducible refine (L_openDivision.calls k (fun k_ => (P0_ k_ ∨ w.heap.size ≤ k_)) _ _ l0 a1 t303 t306 _ ?side1 A3.out).mono ?_); (case side1 => exact HO0.out); rintro e w8 ⟨v304, rfl, ho0, hb⟩; replace HO0 := vb HO0 hb; have HO305 := hv w (fun k_ => (P0_ k_ ∨ w.heap.size ≤ k_)) ho0 (fun k_ hk_ => Or.elim hk_ (fun hs_ => hs_) (fs ·)); replace HB := sb HB hb; (try clear hb); (try clear ho0); obtain ⟨Ao9, co9, eo9⟩ := Kd.V_slice HO305.out; subst eo9) | (go_at_call 87; (with_reducible refine (L_profile_divisions.calls k _ _ t303 a1 t307 _ ?side1 ?side2 A5.out).mono ?_); (case side1 => exact bc (Kd.V_reads' HO305.out).2.2); (case side2 => exact (Kd.V_reads' HO305.out).2.1); rintro e w10 ⟨v308, rfl, ho0, hb⟩; replace HO0 := m0 (Kd.V_elder' (by (with_reducible repeat (first | apply Kd.V_alloc | apply Kd.V_drewN | apply Kd.V_drew)); exact HO0.out) (Kd.N_base ho0) hb); replace HO305 := m0 (Kd.V_elder' (by (with_reducible repeat (first | apply Kd.V_alloc | apply Kd.V_drewN | apply Kd.V_drew)); exact HO305.out) (Kd.N_base ho0) hb); have HO309 := m0 (Kd.N_lower (Kd.N_mono (ok' := fun k_ => (P0_ k_ ∨ w.heap.size ≤ k_)) ho0 (fun k_ hk_ => (.inr (Nat.le_trans (below_size bz) hk_)))) (below_size bz)); replace HB := sb HB hb; (try clear hb); (try clear ho0); obtain ⟨Ao11, co11, eo11⟩ := Kd.N_slice HO309.out; subst eo11; have p310 : 0 ≤ ((t303.length : Int) : Int) := od; have q310 : (t303.length : Int) < (t307.length : Int) := od; obtain ⟨ad310, A310_1, c310_1, e310, hx310_0, hx310_1, hl310_1, hi310_1⟩ := at_T132 (Kd.N_reads' HO309.out).2.2 (t303.length : Int) p310 q310; cases e310; obtain ⟨ce310, hce310, hMe310, hcc310⟩ := Kd.N_get HO309.out z132 (t303.length : Int) p310 (by first | exact q310 | exact od | (have e_ := (Kd.N_reads' HO309.out).1; omega)); obtain ⟨ua310_1, uc310_1, rfl, ul310_1, ge310_1⟩ := k132_openF hMe310; have hv310_1 := hcc310 1 _ rfl; rw [add_field _ _ 1 (by omega)] at hv310_1; replace hv310_1 := Option.some.inj (hv310_1.symm.trans hx310_1); injection hv310_1 with hva_ hvn_ hvc_; rw [hva_] at ge310_1; rw [hvc_] at ul310_1; have HL310_1 := m0 (show Kd.V (Kd.int .i64) 3 _ w.heap.size _ _ ((rd_T132 t307 (t303.length : Int)).f1) from Kd.V_mk ul310_1 ge310_1); clear hva_ hvn_ hvc_ ge310_1 ul310_1; clear hcc310 hce310; have HR310_1 := m0 hi310_1; have HC310_1 := m0 hl310_1; clear hi310_1 hl310_1; (try simp only [Go.IntWalk.toNatUp] at hx310_0); (try simp only [Go.IntWalk.toNatUp] at hx310_1); replace p310 := eq_true p310; replace q310 := eq_true q310) | ((with_reducible refine ga 9 rfl ?_); refine be 9 132 #[.int .i64 0, .slice none 0 0] ?_; intro gb311 hg w12 hbox hb; replace HO0 := ve HO0 hg hb; replace HO305 := ve HO305 hg hb; replace HO309 := m0 (Kd.N_below (Kd.N_elderB (by (with_reducible repeat (first | apply Kd.N_alloc | apply Kd.N_drewN | apply Kd.N_drew)); exact HO309.out) gb311 (Nat.le_of_eq hg.symm)) hb); replace HL310_1 := ve HL310_1 hg hb; replace HR310_1 := m0 (Kd.C_below (by repeat (first | (with_reducible exact HR310_1.out) | (with_reducible refine Kd.C_alloc ?_ _) | (with_reducible refine Kd.C_drewN ?_ _) | (with_reducible refine Kd.C_drew ?_) | exact HR310_1.out)) hb); have BK311 := m0 hbox; have GE311 := gw w hg; replace HB := sb HB hb; clear hb hbox hg; obtain ⟨hcz13_0, hcz13_1, hfz13_0, hfz13_1⟩ := b2 BK311))
    repeat (go_quiet (first | (go_at_call 86; (with_reducible refine (L_openDivision.calls k (fun k_ => (P0_ k_ ∨ w.heap.size ≤ k_)) _ _ l0 a1 t303 t306 _ ?side1 A3.out).mono ?_); (case side1 => exact HO0.out); rintro e w8 ⟨v304, rfl, ho0, hb⟩; replace HO0 := vb HO0 hb; have HO305 := hv w (fun k_ => (P0_ k_ ∨ w.heap.size ≤ k_)) ho0 (fun k_ hk_ => Or.elim hk_ (fun hs_ => hs_) (fs ·)); replace HB := sb HB hb; (try clear hb); (try clear ho0); obtain ⟨Ao9, co9, eo9⟩ := Kd.V_slice HO305.out; subst eo9) | (go_at_call 87; (with_reducible refine (L_profile_divisions.calls k _ _ t303 a1 t307 _ ?side1 ?side2 A5.out).mono ?_); (case side1 => exact bc (Kd.V_reads' HO305.out).2.2); (case side2 => exact (Kd.V_reads' HO305.out).2.1); rintro e w10 ⟨v308, rfl, ho0, hb⟩; replace HO0 := m0 (Kd.V_elder' (by (with_reducible repeat (first | apply Kd.V_alloc | apply Kd.V_drewN | apply Kd.V_drew)); exact HO0.out) (Kd.N_base ho0) hb); replace HO305 := m0 (Kd.V_elder' (by (with_reducible repeat (first | apply Kd.V_alloc | apply Kd.V_drewN | apply Kd.V_drew)); exact HO305.out) (Kd.N_base ho0) hb); have HO309 := m0 (Kd.N_lower (Kd.N_mono (ok' := fun k_ => (P0_ k_ ∨ w.heap.size ≤ k_)) ho0 (fun k_ hk_ => (.inr (Nat.le_trans (below_size bz) hk_)))) (below_size bz)); replace HB := sb HB hb; (try clear hb); (try clear ho0); obtain ⟨Ao11, co11, eo11⟩ := Kd.N_slice HO309.out; subst eo11; have p310 : 0 ≤ ((t303.length : Int) : Int) := od; have q310 : (t303.length : Int) < (t307.length : Int) := od; obtain ⟨ad310, A310_1, c310_1, e310, hx310_0, hx310_1, hl310_1, hi310_1⟩ := at_T132 (Kd.N_reads' HO309.out).2.2 (t303.length : Int) p310 q310; cases e310; obtain ⟨ce310, hce310, hMe310, hcc310⟩ := Kd.N_get HO309.out z132 (t303.length : Int) p310 (by first | exact q310 | exact od | (have e_ := (Kd.N_reads' HO309.out).1; omega)); obtain ⟨ua310_1, uc310_1, rfl, ul310_1, ge310_1⟩ := k132_openF hMe310; have hv310_1 := hcc310 1 _ rfl; rw [add_field _ _ 1 (by omega)] at hv310_1; replace hv310_1 := Option.some.inj (hv310_1.symm.trans hx310_1); injection hv310_1 with hva_ hvn_ hvc_; rw [hva_] at ge310_1; rw [hvc_] at ul310_1; have HL310_1 := m0 (show Kd.V (Kd.int .i64) 3 _ w.heap.size _ _ ((rd_T132 t307 (t303.length : Int)).f1) from Kd.V_mk ul310_1 ge310_1); clear hva_ hvn_ hvc_ ge310_1 ul310_1; clear hcc310 hce310; have HR310_1 := m0 hi310_1; have HC310_1 := m0 hl310_1; clear hi310_1 hl310_1; (try simp only [Go.IntWalk.toNatUp] at hx310_0); (try simp only [Go.IntWalk.toNatUp] at hx310_1); replace p310 := eq_true p310; replace q310 := eq_true q310) | ((with_reducible refine ga 9 rfl ?_); refine be 9 132 #[.int .i64 0, .slice none 0 0] ?_; intro gb311 hg w12 hbox hb; replace HO0 := ve HO0 hg hb; replace HO305 := ve HO305 hg hb; replace HO309 := m0 (Kd.N_below (Kd.N_elderB (by (with_reducible repeat (first | apply Kd.N_alloc | apply Kd.N_drewN | apply Kd.N_drew)); exact HO309.out) gb311 (Nat.le_of_eq hg.symm)) hb); replace HL310_1 := ve HL310_1 hg hb; replace HR310_1 := m0 (Kd.C_below (by repeat (first | (with_reducible exact HR310_1.out) | (with_reducible refine Kd.C_alloc ?_ _) | (with_reducible refine Kd.C_drewN ?_ _) | (with_reducible refine Kd.C_drew ?_) | exact HR310_1.out)) hb); have BK311 := m0 hbox; have GE311 := gw w hg; replace HB := sb HB hb; clear hb hbox hg; obtain ⟨hcz13_0, hcz13_1, hfz13_0, hfz13_1⟩ := b2 BK311)); try go_wp2_with (first | (go_at_call 86; (with_reducible refine (L_openDivision.calls k (fun k_ => (P0_ k_ ∨ w.heap.size ≤ k_)) _ _ l0 a1 t303 t306 _ ?side1 A3.out).mono ?_); (case side1 => exact HO0.out); rintro e w8 ⟨v304, rfl, ho0, hb⟩; replace HO0 := vb HO0 hb; have HO305 := hv w (fun k_ => (P0_ k_ ∨ w.heap.size ≤ k_)) ho0 (fun k_ hk_ => Or.elim hk_ (fun hs_ => hs_) (fs ·)); replace HB := sb HB hb; (try clear hb); (try clear ho0); obtain ⟨Ao9, co9, eo9⟩ := Kd.V_slice HO305.out; subst eo9) | (go_at_call 87; (with_reducible refine (L_profile_divisions.calls k _ _ t303 a1 t307 _ ?side1 ?side2 A5.out).mono ?_); (case side1 => exact bc (Kd.V_reads' HO305.out).2.2); (case side2 => exact (Kd.V_reads' HO305.out).2.1); rintro e w10 ⟨v308, rfl, ho0, hb⟩; replace HO0 := m0 (Kd.V_elder' (by (with_reducible repeat (first | apply Kd.V_alloc | apply Kd.V_drewN | apply Kd.V_drew)); exact HO0.out) (Kd.N_base ho0) hb); replace HO305 := m0 (Kd.V_elder' (by (with_reducible repeat (first | apply Kd.V_alloc | apply Kd.V_drewN | apply Kd.V_drew)); exact HO305.out) (Kd.N_base ho0) hb); have HO309 := m0 (Kd.N_lower (Kd.N_mono (ok' := fun k_ => (P0_ k_ ∨ w.heap.size ≤ k_)) ho0 (fun k_ hk_ => (.inr (Nat.le_trans (below_size bz) hk_)))) (below_size bz)); replace HB := sb HB hb; (try clear hb); (try clear ho0); obtain ⟨Ao11, co11, eo11⟩ := Kd.N_slice HO309.out; subst eo11; have p310 : 0 ≤ ((t303.length : Int) : Int) := od; have q310 : (t303.length : Int) < (t307.length : Int) := od; obtain ⟨ad310, A310_1, c310_1, e310, hx310_0, hx310_1, hl310_1, hi310_1⟩ := at_T132 (Kd.N_reads' HO309.out).2.2 (t303.length : Int) p310 q310; cases e310; obtain ⟨ce310, hce310, hMe310, hcc310⟩ := Kd.N_get HO309.out z132 (t303.length : Int) p310 (by first | exact q310 | exact od | (have e_ := (Kd.N_reads' HO309.out).1; omega)); obtain ⟨ua310_1, uc310_1, rfl, ul310_1, ge310_1⟩ := k132_openF hMe310; have hv310_1 := hcc310 1 _ rfl; rw [add_field _ _ 1 (by omega)] at hv310_1; replace hv310_1 := Option.some.inj (hv310_1.symm.trans hx310_1); injection hv310_1 with hva_ hvn_ hvc_; rw [hva_] at ge310_1; rw [hvc_] at ul310_1; have HL310_1 := m0 (show Kd.V (Kd.int .i64) 3 _ w.heap.size _ _ ((rd_T132 t307 (t303.length : Int)).f1) from Kd.V_mk ul310_1 ge310_1); clear hva_ hvn_ hvc_ ge310_1 ul310_1; clear hcc310 hce310; have HR310_1 := m0 hi310_1; have HC310_1 := m0 hl310_1; clear hi310_1 hl310_1; (try simp only [Go.IntWalk.toNatUp] at hx310_0); (try simp only [Go.IntWalk.toNatUp] at hx310_1); replace p310 := eq_true p310; replace q310 := eq_true q310) | ((with_reducible refine ga 9 rfl ?_); refine be 9 132 #[.int .i64 0, .slice none 0 0] ?_; intro gb311 hg w12 hbox hb; replace HO0 := ve HO0 hg hb; replace HO305 := ve HO305 hg hb; replace HO309 := m0 (Kd.N_below (Kd.N_elderB (by (with_reducible repeat (first | apply Kd.N_alloc | apply Kd.N_drewN | apply Kd.N_drew)); exact HO309.out) gb311 (Nat.le_of_eq hg.symm)) hb); replace HL310_1 := ve HL310_1 hg hb; replace HR310_1 := m0 (Kd.C_below (by repeat (first | (with_reducible exact HR310_1.out) | (with_reducible refine Kd.C_alloc ?_ _) | (with_reducible refine Kd.C_drewN ?_ _) | (with_reducible refine Kd.C_drew ?_) | exact HR310_1.out)) hb); have BK311 := m0 hbox; have GE311 := gw w hg; replace HB := sb HB hb; clear hb hbox hg; obtain ⟨hcz13_0, hcz13_1, hfz13_0, hfz13_1⟩ := b2 BK311)))
    go_ret3
    exact ⟨_, by first | rfl | (simp [errW_none, errW_some] <;> rfl) | (simp [*, errW_none, errW_some] <;> rfl), by (with_reducible repeat (first | apply Kd.V_alloc | apply Kd.V_drewN | apply Kd.V_drew)); exact Kd.V_mono (vf (vf (vn gb311 HL310_1.out (·.2)) (·.2)) (·.2)) (fun _ hk => hk.1.1.1), by repeat (first | (with_reducible first | exact HB.out | apply below_alloc | apply pw_below_drewN | apply below_drew1 | refine below_set ?_ GE311.out) | exact HB.out)⟩
   ·rw [if_neg c7] at H; exact absurd H (by simp)
  ·rw [if_neg c6] at H; exact absurd H (by simp)
 ·rw [if_neg c4] at H; have c4b0 := beq_eq_false_iff_ne.mpr c4; have c4b1 := bne_iff_ne.mpr c4; simp only [Option.some.injEq, Prod.mk.injEq] at H; obtain ⟨rfl, rfl, rfl⟩ := H; go_enter Try.func33, Try.ntmps33
  go_wp2_with (first | (go_at_call 86; (with_reducible refine (L_openDivision.calls k (fun k_ => (P0_ k_ ∨ w.heap.size ≤ k_)) _ _ l0 a1 t303 t306 _ ?side1 A3.out).mono ?_); (case side1 => exact HO0.out); rintro e w14 ⟨v304, rfl, ho0, hb⟩; replace HO0 := vb HO0 hb; have HO305 := hv w (fun k_ => (P0_ k_ ∨ w.heap.size ≤ k_)) ho0 (fun k_ hk_ => Or.elim hk_ (fun hs_ => hs_) (fs ·)); replace HB := sb HB hb; (try clear hb); (try clear ho0)))
  repeat (go_quiet (first | (go_at_call 86; (with_reducible refine (L_openDivision.calls k (fun k_ => (P0_ k_ ∨ w.heap.size ≤ k_)) _ _ l0 a1 t303 t306 _ ?side1 A3.out).mono ?_); (case side1 => exact HO0.out); rintro e w14 ⟨v304, rfl, ho0, hb⟩; replace HO0 := vb HO0 hb; have HO305 := hv w (fun k_ => (P0_ k_ ∨ w.heap.size ≤ k_)) ho0 (fun k_ hk_ => Or.elim hk_ (fun hs_ => hs_) (fs ·)); replace HB := sb HB hb; (try clear hb); (try clear ho0))); try go_wp2_with (first | (go_at_call 86; (with_reducible refine (L_openDivision.calls k (fun k_ => (P0_ k_ ∨ w.heap.size ≤ k_)) _ _ l0 a1 t303 t306 _ ?side1 A3.out).mono ?_); (case side1 => exact HO0.out); rintro e w14 ⟨v304, rfl, ho0, hb⟩; replace HO0 := vb HO0 hb; have HO305 := hv w (fun k_ => (P0_ k_ ∨ w.heap.size ≤ k_)) ho0 (fun k_ hk_ => Or.elim hk_ (fun hs_ => hs_) (fs ·)); replace HB := sb HB hb; (try clear hb); (try clear ho0))))
  go_ret3
  exact ⟨_, by first | rfl | (simp [errW_none, errW_some] <;> rfl) | (simp [*, errW_none, errW_some] <;> rfl), Kd.V_nil _ _ _ _ _, by repeat (first | (with_reducible first | exact HB.out | apply below_alloc | apply pw_below_drewN | apply below_drew1) | exact HB.out)⟩
end
section
def Bs_Ints.l0 : Nat → List Int → List Int → Int → Option (Bool)
 | 0, _, _, _ => none
 | k + 1, x0, x1, x5 => if x5 < (x0.length : Int) then (if 0 ≤ x5 then (if x5 < (x1.length : Int) then (if (rd x0 x5) = (rd x1 x5) then (Bs_Ints.l0 k x0 x1 (wrap64 (x5 + 1))) else (some false)) else (none)) else (none)) else (some true)
def Bs_Ints.f (k : Nat) (l0 : List Int) (l1 : List Int) : Option (Bool) := if (l0.length : Int) = (l1.length : Int) then (Bs_Ints.l0 k l0 l1 0) else (some false)
theorem Bs_Ints.mono_l : ∀ k, (∀ y0 y1 y2, LeO (Bs_Ints.l0 k y0 y1 y2) (Bs_Ints.l0 (k + 1) y0 y1 y2))
 | 0 => fun _ _ _ r h => by simp [Bs_Ints.l0] at h
 | k + 1 => by
  have ih0 := Bs_Ints.mono_l k
  ·intro y0 y1 y2; unfold Bs_Ints.l0
   repeat' with_reducible first
    | exact ih0 ..
    | exact LeO.refl ..
    | exact LeO.none ..
    | refine LeO.ite ?_ ?_
    | refine LeO.bind ?_ (fun _ => ?_)
theorem Bs_Ints.mono : ∀ a0 a1 k, LeO (Bs_Ints.f k a0 a1) (Bs_Ints.f (k + 1) a0 a1) := by
 intro a0 a1 k; have ih0 := Bs_Ints.mono_l k; unfold Bs_Ints.f
 repeat' with_reducible first
  | exact ih0 ..
  | exact LeO.refl ..
  | exact LeO.none ..
  | refine LeO.ite ?_ ?_
  | refine LeO.bind ?_ (fun _ => ?_)
theorem Bs_Ints.calls (k : Nat) (A0 : Option Addr) (c0 : Nat) (l0 : List Int) (A1 : Option Addr) (c1 : Nat) (l1 : List Int) (r : Bool) (w : World) (hr0 : Kd.C (Kd.int .i64) w A0 l0.length l0) (hc0 : l0.length ≤ c0) (hr1 : Kd.C (Kd.int .i64) w A1 l1.length l1) (hc1 : l1.length ≤ c1) (H : Bs_Ints.f k l0 l1 = some r) :
  Calls Try.prog 40 #[.slice A0 l0.length c0, .slice A1 l1.length c1] w fun e w' => e = .returned (.bool r) ∧ Drawn0 w w' := by
 have HR0 := m0 hr0; have HC0 := m0 hc0; clear hr0 hc0; have HR1 := m0 hr1; have HC1 := m0 hc1; clear hr1 hc1; unfold Bs_Ints.f at H
 by_cases c3 : (l0.length : Int) = (l1.length : Int)
 ·rw [if_pos c3] at H; have c3b0 := beq_iff_eq.mpr c3; have c3b1 := bne_eq_false_iff_eq.mpr c3; have c3b2 : (l0.length == l1.length) = true := by first | simpa using c3 | (simp at c3 ⊢; omega)
  clear c3; have H' := m0 H; clear H; go_enter Try.func40, Try.ntmps40
  go_wp2
  repeat (go_quiet (fail); try go_wp2)
  go_loopg [5] k (fun kq v5 w' => ∃ (x5_1 : Int), v5 = .int .i64 x5_1 ∧ Aside0 (Bs_Ints.l0 kq l0 l1 x5_1 = some r) ∧ Aside0 (kq ≤ k) ∧ Drawn0 w w')
  case atStart => exact ⟨(0), rz, H', ⟨Nat.le_refl _⟩, by repeat (first | exact Drawn0.refl _ | apply Drawn0.step)⟩
  case round =>
   clear H'; obtain ⟨x5_1, rfl, HA, HK1, ⟨m1, rfl⟩⟩ := hrel
   cases gk with
   | zero => exact absurd HA.out (by simp [Bs_Ints.l0])
   | succ k1 =>
    have H := HA.out; clear HA; simp only [Bs_Ints.l0] at H
    by_cases c4 : x5_1 < (l0.length : Int)
    ·rw [if_pos c4] at H; have c4b0 := decide_eq_true c4; clear c4
     by_cases c5 : 0 ≤ x5_1
     ·rw [if_pos c5] at H; have c5b0 := decide_eq_true c5; clear c5
      by_cases c6 : x5_1 < (l1.length : Int)
      ·rw [if_pos c6] at H; have c6b0 := decide_eq_true c6; clear c6
       by_cases c7 : (rd l0 x5_1) = (rd l1 x5_1)
       ·rw [if_pos c7] at H; have c7b0 := beq_iff_eq.mpr c7; have c7b1 := bne_eq_false_iff_eq.mpr c7; clear c7; have H' := m0 H; clear H; have p312 : 0 ≤ (x5_1 : Int) := od; have q312 : x5_1 < (l0.length : Int) := od; obtain ⟨ad312, e312, hx312_0⟩ := Kd.at_int HR0.out x5_1 p312 q312
        cases e312
        replace p312 := eq_true p312; replace q312 := eq_true q312; have p313 : 0 ≤ (x5_1 : Int) := od; have q313 : x5_1 < (l1.length : Int) := od; obtain ⟨ad313, e313, hx313_0⟩ := Kd.at_int HR1.out x5_1 p313 q313
        cases e313
        replace p313 := eq_true p313; replace q313 := eq_true q313
        go_wp2
        repeat (go_quiet (fail); try go_wp2)
        go_roundg k1
        case measure => have := HK1.out; omega
        case rel => exact ⟨(wrap64 (x5_1 + 1)), rz, H', ⟨by have := HK1.out; omega⟩, by repeat (first | exact Drawn0.refl _ | apply Drawn0.step)⟩
       ·rw [if_neg c7] at H; have c7b0 := beq_eq_false_iff_ne.mpr c7; have c7b1 := bne_iff_ne.mpr c7; obtain rfl := Option.some.inj H; have p312 : 0 ≤ (x5_1 : Int) := od; have q312 : x5_1 < (l0.length : Int) := od; obtain ⟨ad312, e312, hx312_0⟩ := Kd.at_int HR0.out x5_1 p312 q312
        cases e312
        replace p312 := eq_true p312; replace q312 := eq_true q312; have p313 : 0 ≤ (x5_1 : Int) := od; have q313 : x5_1 < (l1.length : Int) := od; obtain ⟨ad313, e313, hx313_0⟩ := Kd.at_int HR1.out x5_1 p313 q313
        cases e313
        replace p313 := eq_true p313; replace q313 := eq_true q313
        go_wp2
        repeat (go_quiet (fail); try go_wp2)
        go_ret
        exact ⟨rz, by repeat (first | exact Drawn0.refl _ | apply Drawn0.step)⟩
      ·rw [if_neg c6] at H; exact absurd H (by simp)
     ·rw [if_neg c5] at H; exact absurd H (by simp)
    ·rw [if_neg c4] at H; have c4b0 := decide_eq_false c4; clear c4; obtain rfl := Option.some.inj H
     go_wp2
     repeat (go_quiet (fail); try go_wp2)
     go_ret
     exact ⟨rz, by repeat (first | exact Drawn0.refl _ | apply Drawn0.step)⟩
 ·rw [if_neg c3] at H; have c3b0 := beq_eq_false_iff_ne.mpr c3; have c3b1 := bne_iff_ne.mpr c3; have c3b2 : (l0.length == l1.length) = false := by first | simpa using c3 | (simp at c3 ⊢; omega)
  obtain rfl := Option.some.inj H; go_enter Try.func40, Try.ntmps40
  go_wp2
  repeat (go_quiet (fail); try go_wp2)
  go_ret
  exact ⟨rz, by repeat (first | exact Drawn0.refl _ | apply Drawn0.step)⟩
end
section
def L_isConstant.f (a0 : Int) : Option (Bool) := (L_within.f a0 1 1000000).bind fun t314 => (some t314)
theorem L_isConstant.calls (a0 : Int) (r : Bool) (w : World) (H : L_isConstant.f a0 = some r) :
  Calls Try.prog 95 #[.int .i64 a0] w fun e w' => e = .returned (.bool r) ∧ Drawn0 w w' := by
 unfold L_isConstant.f at H; replace H := oa H; obtain ⟨t314, A2, H⟩ := H; (try dsimp only at H); obtain rfl := Option.some.inj H; go_enter Try.func95, Try.ntmps95
 go_wp2_with (first | ((with_reducible refine gc 70 rfl ?_); refine gl (some 4) Try.func70 #[.int .i64 a0, .int .i64 1, .int .i64 1000000] ?_; (with_reducible refine (L_within.calls a0 1 1000000 t314 _ A2.out).mono ?_); rintro e w' ⟨rfl, ⟨nd, rfl⟩⟩; refine ⟨_, rfl, ?_⟩))
 go_ret
 exact ⟨rz, by repeat (first | exact Drawn0.refl _ | apply Drawn0.step)⟩
end
section
def L_constantErr.f (a0 : Int) : Option (Int) := (L_isConstant.f a0).bind fun t315 => ((L_unless.f t315 2).bind fun t316 => (some t316))
theorem L_constantErr.calls (a0 : Int) (r : Int) (w : World) (H : L_constantErr.f a0 = some r) :
  Calls Try.prog 91 #[.int .i64 a0] w fun e w' => e = .returned (.int .i64 r) ∧ Drawn0 w w' := by
 unfold L_constantErr.f at H; replace H := oa H; obtain ⟨t315, A2, H⟩ := H; (try dsimp only at H); replace H := oa H; obtain ⟨t316, A3, H⟩ := H; (try dsimp only at H); obtain rfl := Option.some.inj H; go_enter Try.func91, Try.ntmps91
 go_wp2_with (first | ((with_reducible refine gc 95 rfl ?_); refine gl (some 4) Try.func95 #[.int .i64 a0] ?_; (with_reducible refine (L_isConstant.calls a0 t315 _ A2.out).mono ?_); rintro e w' ⟨rfl, ⟨nd, rfl⟩⟩; refine ⟨_, rfl, ?_⟩) | ((with_reducible refine gc 69 rfl ?_); refine gl (some 5) Try.func69 #[.bool t315, .int .i64 2] ?_; (with_reducible refine (L_unless.calls t315 2 t316 _ A3.out).mono ?_); rintro e w' ⟨rfl, ⟨nd, rfl⟩⟩; refine ⟨_, rfl, ?_⟩))
 go_ret
 exact ⟨rz, by repeat (first | exact Drawn0.refl _ | apply Drawn0.step)⟩
end
section
def L_profile_sum.l0 : Nat → Int → List Int → Int → Int → Option (Int)
 | 0, _, _, _, _ => none
 | k + 1, x3, x6, x7, x8 => if x8 < x7 then (if 0 ≤ x8 then (if x8 < (x6.length : Int) then (L_profile_sum.l0 k (wrap64 (x3 + (rd x6 x8))) x6 x7 (wrap64 (x8 + 1))) else (none)) else (none)) else (some x3)
def L_profile_sum.f (k : Nat) (l0 : List Int) : Option (Int) := L_profile_sum.l0 k 0 l0 (l0.length : Int) 0
theorem L_profile_sum.mono_l : ∀ k, (∀ y0 y1 y2 y3, LeO (L_profile_sum.l0 k y0 y1 y2 y3) (L_profile_sum.l0 (k + 1) y0 y1 y2 y3))
 | 0 => fun _ _ _ _ r h => by simp [L_profile_sum.l0] at h
 | k + 1 => by
  have ih0 := L_profile_sum.mono_l k
  ·intro y0 y1 y2 y3; unfold L_profile_sum.l0
   repeat' with_reducible first
    | exact ih0 ..
    | exact LeO.refl ..
    | exact LeO.none ..
    | refine LeO.ite ?_ ?_
    | refine LeO.bind ?_ (fun _ => ?_)
theorem L_profile_sum.mono : ∀ a0 k, LeO (L_profile_sum.f k a0) (L_profile_sum.f (k + 1) a0) := by
 intro a0 k; have ih0 := L_profile_sum.mono_l k; unfold L_profile_sum.f
 repeat' with_reducible first
  | exact ih0 ..
  | exact LeO.refl ..
  | exact LeO.none ..
  | refine LeO.ite ?_ ?_
  | refine LeO.bind ?_ (fun _ => ?_)
theorem L_profile_sum.calls (k : Nat) (A0 : Option Addr) (c0 : Nat) (l0 : List Int) (r : Int) (w : World) (hr0 : Kd.C (Kd.int .i64) w A0 l0.length l0) (hc0 : l0.length ≤ c0) (H : L_profile_sum.f k l0 = some r) :
  Calls Try.prog 117 #[.slice A0 l0.length c0] w fun e w' => e = .returned (.int .i64 r) ∧ Drawn0 w w' := by
 have HR0 := m0 hr0; have HC0 := m0 hc0; clear hr0 hc0; unfold L_profile_sum.f at H; have H' := m0 H; clear H; go_enter Try.func117, Try.ntmps117
 go_wp2
 go_loopg [3, 8] k (fun kq v3 v8 w' => ∃ (x3_1 : Int) (x8_1 : Int), v3 = .int .i64 x3_1 ∧ v8 = .int .i64 x8_1 ∧ Aside0 (L_profile_sum.l0 kq x3_1 l0 (l0.length : Int) x8_1 = some r) ∧ Aside0 (kq ≤ k) ∧ Drawn0 w w')
 case atStart => exact ⟨(0), (0), rz, rz, H', ⟨Nat.le_refl _⟩, by repeat (first | exact Drawn0.refl _ | apply Drawn0.step)⟩
 case round =>
  clear H'; obtain ⟨x3_1, x8_1, rfl, rfl, HA, HK1, ⟨m1, rfl⟩⟩ := hrel
  cases gk with
  | zero => exact absurd HA.out (by simp [L_profile_sum.l0])
  | succ k1 =>
   have H := HA.out; clear HA; simp only [L_profile_sum.l0] at H
   by_cases c2 : x8_1 < (l0.length : Int)
   ·rw [if_pos c2] at H; have c2b0 := decide_eq_true c2; clear c2
    by_cases c3 : 0 ≤ x8_1
    ·rw [if_pos c3] at H; have c3b0 := decide_eq_true c3; clear c3
     by_cases c4 : x8_1 < (l0.length : Int)
     ·rw [if_pos c4] at H; have c4b0 := decide_eq_true c4; clear c4; have H' := m0 H; clear H; have p317 : 0 ≤ (x8_1 : Int) := od; have q317 : x8_1 < (l0.length : Int) := od; obtain ⟨ad317, e317, hx317_0⟩ := Kd.at_int HR0.out x8_1 p317 q317
      cases e317
      replace p317 := eq_true p317; replace q317 := eq_true q317
      go_wp2
      go_roundg k1
      case measure => have := HK1.out; omega
      case rel => exact ⟨(wrap64 (x3_1 + (rd l0 x8_1))), (wrap64 (x8_1 + 1)), rz, rz, H', ⟨by have := HK1.out; omega⟩, by repeat (first | exact Drawn0.refl _ | apply Drawn0.step)⟩
     ·rw [if_neg c4] at H; exact absurd H (by simp)
    ·rw [if_neg c3] at H; exact absurd H (by simp)
   ·rw [if_neg c2] at H; have c2b0 := decide_eq_false c2; clear c2; obtain rfl := Option.some.inj H
    go_wp2
    go_ret
    exact ⟨rz, by repeat (first | exact Drawn0.refl _ | apply Drawn0.step)⟩
end
section
def L_divisor.l0 : Nat → Int → Int → Option (Int)
 | 0, _, _ => none
 | k + 1, x0, x1 => if x1 = 0 then (some (mx x0 (wrap64 (-x0)))) else (L_divisor.l0 k x1 (Int.tmod x0 x1))
def L_divisor.f (k : Nat) (a0 : Int) (a1 : Int) : Option (Int) := L_divisor.l0 k a0 a1
theorem L_divisor.mono_l : ∀ k, (∀ y0 y1, LeO (L_divisor.l0 k y0 y1) (L_divisor.l0 (k + 1) y0 y1))
 | 0 => fun _ _ r h => by simp [L_divisor.l0] at h
 | k + 1 => by
  have ih0 := L_divisor.mono_l k
  ·intro y0 y1; unfold L_divisor.l0
   repeat' with_reducible first
    | exact ih0 ..
    | exact LeO.refl ..
    | exact LeO.none ..
    | refine LeO.ite ?_ ?_
    | refine LeO.bind ?_ (fun _ => ?_)
theorem L_divisor.mono : ∀ a0 a1 k, LeO (L_divisor.f k a0 a1) (L_divisor.f (k + 1) a0 a1) := by
 intro a0 a1 k; have ih0 := L_divisor.mono_l k; unfold L_divisor.f
 repeat' with_reducible first
  | exact ih0 ..
  | exact LeO.refl ..
  | exact LeO.none ..
  | refine LeO.ite ?_ ?_
  | refine LeO.bind ?_ (fun _ => ?_)
theorem L_divisor.calls (k : Nat) (a0 : Int) (a1 : Int) (r : Int) (w : World) (H : L_divisor.f k a0 a1 = some r) :
  Calls Try.prog 130 #[.int .i64 a0, .int .i64 a1] w fun e w' => e = .returned (.int .i64 r) ∧ Below w.heap.size w w' := by
 have HB := m0 (Below.refl w.heap.size w); unfold L_divisor.f at H; have H' := m0 H; clear H; go_enter Try.func130, Try.ntmps130
 go_wp2
 repeat (go_quiet (fail); try go_wp2)
 go_loopg [0, 1] k (fun kq v0 v1 w' => ∃ (x0_1 : Int) (x1_1 : Int), v0 = .int .i64 x0_1 ∧ v1 = .int .i64 x1_1 ∧ Aside0 (L_divisor.l0 kq x0_1 x1_1 = some r) ∧ Aside0 (kq ≤ k) ∧ Aside0 (Below w.heap.size w w'))
 case atStart => exact ⟨(a0), (a1), rz, rz, H', ⟨Nat.le_refl _⟩, ⟨bz⟩⟩
 case round =>
  clear H'; obtain ⟨x0_1, x1_1, rfl, rfl, HA, HK1, HB⟩ := hrel
  cases gk with
  | zero => exact absurd HA.out (by simp [L_divisor.l0])
  | succ k1 =>
   have H := HA.out; clear HA; simp only [L_divisor.l0] at H
   by_cases c3 : x1_1 = 0
   ·rw [if_pos c3] at H; have c3b0 := beq_iff_eq.mpr c3; have c3b1 := bne_eq_false_iff_eq.mpr c3; clear c3; obtain ⟨ji4, hji4⟩ : ∃ j_ : Int, (mx x0_1 (wrap64 (-x0_1))) = j_ := ⟨_, rfl⟩; replace H : (some ji4) = some r := by first | (rw [hji4] at H; exact H) | (simp only [hji4] at H ⊢; exact H)
    have hji4_ : (if x0_1 < (wrap64 (-x0_1)) then (wrap64 (-x0_1)) else x0_1) = ji4 := hji4; obtain rfl := Option.some.inj H
    go_wp2
    repeat (go_quiet (fail); try go_wp2)
    go_ret
    exact ⟨by first | rfl | (simp [errW_none, errW_some] <;> rfl) | (simp only [← hji4]; first | rfl | (simp [errW_none, errW_some] <;> rfl)) | (simp [*, errW_none, errW_some] <;> rfl), by repeat (first | (with_reducible first | exact HB.out | apply below_alloc | apply pw_below_drewN | apply below_drew1) | exact HB.out)⟩
   ·rw [if_neg c3] at H; have c3b0 := beq_eq_false_iff_ne.mpr c3; have c3b1 := bne_iff_ne.mpr c3; have H' := m0 H; clear H
    go_wp2
    repeat (go_quiet (fail); try go_wp2)
    go_roundg k1
    case measure => have := HK1.out; omega
    case rel => exact ⟨(x1_1), (Int.tmod x0_1 x1_1), rz, rz, H', ⟨by have := HK1.out; omega⟩, ⟨bz⟩⟩
end
section
def L_fraction.f (k : Nat) (a0 : Int) (a1 : Int) : Option (Int × Int) := (L_divisor.f k a0 a1).bind fun t319 => (if t319 = 0 then (none) else (some (wrap64 (Int.tdiv a0 t319), wrap64 (Int.tdiv a1 t319))))
theorem L_fraction.mono : ∀ a0 a1 k, LeO (L_fraction.f k a0 a1) (L_fraction.f (k + 1) a0 a1) := by
 intro a0 a1 k; unfold L_fraction.f
 repeat' with_reducible first
  | exact L_divisor.mono ..
  | exact LeO.refl ..
  | exact LeO.none ..
  | refine LeO.ite ?_ ?_
  | refine LeO.bind ?_ (fun _ => ?_)
def L_fraction.T2 : Bool × List (List Nat × List Nat) := (true, [([], []), ([], []), ([0, 1], [0, 1]), ([], []), ([], []), ([3, 4], [3, 4]), ([2, 5], [2, 5]), ([6, 0, 1, 2, 3, 4, 5, 6], [6])])
def L_fraction.B2 : List Nat := [0, 0, 3, 0, 0, 24, 63, 127]
theorem L_fraction.tab2 : rtab .any (opsOf Try.f118 2) = L_fraction.T2 := by kernel_rfl
theorem L_fraction.bits2 : waitsOk L_fraction.T2.2 L_fraction.B2 = true := by kernel_rfl
theorem L_fraction.calls (k : Nat) (a0 : Int) (a1 : Int) (r1 : Int) (r2 : Int) (w : World) (H : L_fraction.f k a0 a1 = some (r1, r2)) :
  Calls Try.prog 118 #[.int .i64 a0, .int .i64 a1] w fun e w' => e = .returned (.agg #[.int .i64 r1, .int .i64 r2]) ∧ Below w.heap.size w w' := by
 have hu100 := Try.underlying100; have HB := m0 (Below.refl w.heap.size w); unfold L_fraction.f at H; replace H := oa H; obtain ⟨t319, A3, H⟩ := H; (try dsimp only at H)
 by_cases c4 : t319 = 0
 ·rw [if_pos c4] at H; exact absurd H (by simp)
 ·rw [if_neg c4] at H; have c4b0 := beq_eq_false_iff_ne.mpr c4; have c4b1 := bne_iff_ne.mpr c4; simp only [Option.some.injEq, Prod.mk.injEq] at H; obtain ⟨rfl, rfl⟩ := H; go_enter Try.func118, Try.ntmps118
  try go_wp2_with (first | ((with_reducible refine ga 4 rfl ?_); refine be 4 100 #[.int .i64 0, .int .i64 0] ?_; intro gb318 hg w5 hbox hb; have BK318 := m0 hbox; have GE318 := gw w hg; replace HB := sb HB hb; clear hb hbox hg) | ((with_reducible refine gc 130 rfl ?_); refine gl (some 8) Try.func130 #[.int .i64 a0, .int .i64 a1] ?_; (with_reducible refine (L_divisor.calls k a0 a1 t319 _ A3.out).mono ?_); rintro e w6 ⟨rfl, hb⟩; refine ⟨_, rfl, ?_⟩; replace BK318 := bb BK318 hb; replace HB := sb HB hb; (try clear hb)))
  replace BK318 := bd BK318; replace HB := sd HB; refine start_ (n := 8) (S := fun w' => True) (ds := []) _ (by kernel_rfl) rfl rfl trivial (fun hH => ?_); refine with_tabW L_fraction.tab2 L_fraction.bits2 (fun HT_ HW_ => ?_); generalize w6.drew = w7 at BK318 HB hH ⊢; refine pZ 0 (some 9) #[true, false, false, false, false, false, false, false] HT_ ?_; refine pZ 1 (some 10) #[true, true, false, false, false, false, false, false] HT_ ?_; refine pZ 2 (some 11) #[true, true, true, false, false, false, false, false] HT_ ?_; refine pZ 3 (some 12) #[true, true, true, true, false, false, false, false] HT_ ?_; refine pZ 4 (some 13) #[true, true, true, true, true, false, false, false] HT_ ?_; refine pZ 5 (some 14) #[true, true, true, true, true, true, false, false] HT_ ?_; refine pZ 6 (some 15) #[true, true, true, true, true, true, true, false] HT_ ?_; refine oneZ 7 (none) #[true, true, true, true, true, true, true, true] (o1 HT_) fun K hK => ?_; obtain ⟨hs8, hfs8⟩ := q0 BK318; obtain ⟨hs9, hfs9⟩ := q1 BK318; refine skip_ (w1 := ?_) (by rfl) rfl ?_ ?_; rotate_left
  ·go_simp
   rfl
  refine hK.out _ _ trivial (fun hH => ?_); clear hK K; refine done_ (done_of HT_.out (by kernel_rfl)) ?_
  try go_wp2
  refine bodyPost_ret (results_cell_row rfl _ _ gb318 100 #[.int .i64 (wrap64 (Int.tdiv a0 t319)), .int .i64 (wrap64 (Int.tdiv a1 t319))] (0, 0) _ rfl (bq BK318.out) Try.underlying100 rfl (by kernel_rfl)) rfl ?_; exact ez
end
section
def L_profile_shares.l0 : Nat → List (S100) → Int → List Int → Int → Int → Option ((List (S100)) × Int)
 | 0, _, _, _, _, _ => none
 | k + 1, x6, x7, x15, x16, x17 => if x17 < x16 then (if 0 ≤ x17 then (if x17 < (x15.length : Int) then (if x7 = 0 then (some (([] : List (S100)), 20)) else ((L_fraction.f k (rd x15 x17) x7).bind fun bt322 => (if x6.length < 8796093022208 then (L_profile_shares.l0 k (x6 ++ [(⟨bt322.1, bt322.2⟩ : S100)]) (wrap64 (x7 - (rd x15 x17))) x15 x16 (wrap64 (x17 + 1))) else (none)))) else (none)) else (none)) else (some (x6, 0))
def L_profile_shares.f (k : Nat) (l0 : List Int) (a1 : Int) : Option ((List (S100)) × Int) := (L_profile_sum.f k l0).bind fun t320 => (if t320 > a1 then (some (([] : List (S100)), 20)) else (L_profile_shares.l0 k ([] : List (S100)) a1 l0 (l0.length : Int) 0))
theorem L_profile_shares.mono_l : ∀ k, (∀ y0 y1 y2 y3 y4, LeO (L_profile_shares.l0 k y0 y1 y2 y3 y4) (L_profile_shares.l0 (k + 1) y0 y1 y2 y3 y4))
 | 0 => fun _ _ _ _ _ r h => by simp [L_profile_shares.l0] at h
 | k + 1 => by
  have ih0 := L_profile_shares.mono_l k
  ·intro y0 y1 y2 y3 y4; unfold L_profile_shares.l0
   repeat' with_reducible first
    | exact ih0 ..
    | exact L_fraction.mono ..
    | exact L_profile_sum.mono ..
    | exact LeO.refl ..
    | exact LeO.none ..
    | refine LeO.ite ?_ ?_
    | refine LeO.bind ?_ (fun _ => ?_)
theorem L_profile_shares.mono : ∀ a0 a1 k, LeO (L_profile_shares.f k a0 a1) (L_profile_shares.f (k + 1) a0 a1) := by
 intro a0 a1 k; have ih0 := L_profile_shares.mono_l k; unfold L_profile_shares.f
 repeat' with_reducible first
  | exact ih0 ..
  | exact L_fraction.mono ..
  | exact L_profile_sum.mono ..
  | exact LeO.refl ..
  | exact LeO.none ..
  | refine LeO.ite ?_ ?_
  | refine LeO.bind ?_ (fun _ => ?_)
theorem L_profile_shares.calls (k : Nat) (A0 : Option Addr) (c0 : Nat) (l0 : List Int) (a1 : Int) (r1 : List (S100)) (r2 : Int) (w : World) (hr0 : Kd.C (Kd.int .i64) w A0 l0.length l0) (hc0 : l0.length ≤ c0) (H : L_profile_shares.f k l0 a1 = some (r1, r2)) :
  Calls Try.prog 92 #[.slice A0 l0.length c0, .int .i64 a1] w fun e w' => ∃ v0_ : Value, e = .returned (.tuple #[v0_, .int .i64 r2]) ∧ Kd.R k100 100 w' w.heap.size (fun _ => True) v0_ r1 ∧ Below w.heap.size w w' := by
 have HR0 := m0 hr0; have HC0 := m0 hc0; clear hr0 hc0; have HB := m0 (Below.refl w.heap.size w); unfold L_profile_shares.f at H; replace H := oa H; obtain ⟨t320, A3, H⟩ := H; (try dsimp only at H)
 by_cases c4 : t320 > a1
 ·rw [if_pos c4] at H; have c4b0 := decide_eq_true c4; clear c4; simp only [Option.some.injEq, Prod.mk.injEq] at H; obtain ⟨rfl, rfl⟩ := H; go_enter Try.func92, Try.ntmps92
  go_wp2_with (first | ((with_reducible refine gc 117 rfl ?_); refine gl (some 11) Try.func117 #[.slice A0 l0.length c0] ?_; (with_reducible refine (L_profile_sum.calls k _ _ l0 t320 _ ?side1 ?side2 A3.out).mono ?_); (case side1 => repeat (first | exact HR0.out | (with_reducible refine Kd.C_alloc ?_ _) | (with_reducible refine Kd.C_drewN ?_ _) | (with_reducible refine Kd.C_drew ?_))); (case side2 => exact HC0.out); rintro e w' ⟨rfl, ⟨nd, rfl⟩⟩; refine ⟨_, rfl, ?_⟩))
  go_ret2
  exact ⟨_, by first | rfl | (simp [errW_none, errW_some] <;> rfl) | (simp [*, errW_none, errW_some] <;> rfl), by first | exact Kd.R_nil _ _ _ _ _ | exact Kd.N_nil _ _ _ _ _ | exact Kd.V_nil _ _ _ _ _ | exact Kd.Q_nil _ _ _ _ _ | exact Kd.S_nil _ _ _ _ _, by repeat (first | (with_reducible first | exact HB.out | apply below_alloc | apply pw_below_drewN | apply below_drew1) | exact HB.out)⟩
 ·rw [if_neg c4] at H; have c4b0 := decide_eq_false c4; clear c4; have H' := m0 H; clear H; go_enter Try.func92, Try.ntmps92
  go_wp2_with (first | ((with_reducible refine gc 117 rfl ?_); refine gl (some 11) Try.func117 #[.slice A0 l0.length c0] ?_; (with_reducible refine (L_profile_sum.calls k _ _ l0 t320 _ ?side1 ?side2 A3.out).mono ?_); (case side1 => repeat (first | exact HR0.out | (with_reducible refine Kd.C_alloc ?_ _) | (with_reducible refine Kd.C_drewN ?_ _) | (with_reducible refine Kd.C_drew ?_))); (case side2 => exact HC0.out); rintro e w' ⟨rfl, ⟨nd, rfl⟩⟩; refine ⟨_, rfl, ?_⟩))
  go_loopg [6, 7, 17] k (fun kq v6 v7 v17 w' => ∃ (x6_1 : List (S100)) (x7_1 : Int) (x17_1 : Int), v7 = .int .i64 x7_1 ∧ v17 = .int .i64 x17_1 ∧ Aside0 (L_profile_shares.l0 kq x6_1 x7_1 l0 (l0.length : Int) x17_1 = some (r1, r2)) ∧ Aside0 (kq ≤ k) ∧ Aside0 (Kd.R k100 100 w' w.heap.size (fun _ => True) v6 x6_1) ∧ Aside0 (Below w.heap.size w w'))
  case atStart => exact ⟨(([] : List (S100))), (a1), (0), rz, rz, H', ⟨Nat.le_refl _⟩, ⟨by first | exact Kd.R_nil _ _ _ _ _ | exact Kd.N_nil _ _ _ _ _ | exact Kd.V_nil _ _ _ _ _ | exact Kd.Q_nil _ _ _ _ _ | exact Kd.S_nil _ _ _ _ _⟩, ⟨bz⟩⟩
  case round =>
   clear H'; obtain ⟨x6_1, x7_1, x17_1, rfl, rfl, HA, HK1, HO_6, HB⟩ := hrel
   cases gk with
   | zero => exact absurd HA.out (by simp [L_profile_shares.l0])
   | succ k1 =>
    have H := HA.out; clear HA; simp only [L_profile_shares.l0] at H
    by_cases c5 : x17_1 < (l0.length : Int)
    ·rw [if_pos c5] at H; have c5b0 := decide_eq_true c5; clear c5
     by_cases c6 : 0 ≤ x17_1
     ·rw [if_pos c6] at H; have c6b0 := decide_eq_true c6; clear c6
      by_cases c7 : x17_1 < (l0.length : Int)
      ·rw [if_pos c7] at H; have c7b0 := decide_eq_true c7; clear c7
       by_cases c8 : x7_1 = 0
       ·rw [if_pos c8] at H; have c8b0 := beq_iff_eq.mpr c8; have c8b1 := bne_eq_false_iff_eq.mpr c8; clear c8; simp only [Option.some.injEq, Prod.mk.injEq] at H; obtain ⟨rfl, rfl⟩ := H; have p321 : 0 ≤ (x17_1 : Int) := od; have q321 : x17_1 < (l0.length : Int) := od; obtain ⟨ad321, e321, hx321_0⟩ := Kd.at_int HR0.out x17_1 p321 q321
        cases e321
        replace hx321_0 := hc HB hx321_0; replace p321 := eq_true p321; replace q321 := eq_true q321
        go_wp2
        go_ret2
        exact ⟨_, by first | rfl | (simp [errW_none, errW_some] <;> rfl) | (simp [*, errW_none, errW_some] <;> rfl), by first | exact Kd.R_nil _ _ _ _ _ | exact Kd.N_nil _ _ _ _ _ | exact Kd.V_nil _ _ _ _ _ | exact Kd.Q_nil _ _ _ _ _ | exact Kd.S_nil _ _ _ _ _, by repeat (first | (with_reducible first | exact HB.out | apply below_alloc | apply pw_below_drewN | apply below_drew1) | exact HB.out)⟩
       ·rw [if_neg c8] at H; have c8b0 := beq_eq_false_iff_ne.mpr c8; have c8b1 := bne_iff_ne.mpr c8; replace H := oa H; obtain ⟨⟨t322, t323⟩, A9, H⟩ := H; (try dsimp only at H)
        by_cases c10 : x6_1.length < 8796093022208
        ·rw [if_pos c10] at H; have LMc10 := m0 c10; clear c10; obtain ⟨y324, hy324⟩ : ∃ y_ : List (S100), y_ = (x6_1 ++ [(⟨t322, t323⟩ : S100)]) := ⟨_, rfl⟩; replace H : (L_profile_shares.l0 k1 y324 (wrap64 (x7_1 - (rd l0 x17_1))) l0 (l0.length : Int) (wrap64 (x17_1 + 1))) = some (r1, r2) := by first | (rw [hy324]; with_reducible exact H) | (have H2_ := (Option.bind_some _ _).symm.trans H; rw [hy324]; with_reducible exact H2_) | (have H2_ := (Option.bind_some _ _).symm.trans H; with_reducible exact H2_) | with_reducible exact H | (rw [hy324]; exact H) | exact H
         have Ny324 := m0 hy324; clear hy324; have H' := m0 H; clear H; have p321 : 0 ≤ (x17_1 : Int) := od; have q321 : x17_1 < (l0.length : Int) := od; obtain ⟨ad321, e321, hx321_0⟩ := Kd.at_int HR0.out x17_1 p321 q321
         cases e321
         replace hx321_0 := hc HB hx321_0; replace p321 := eq_true p321; replace q321 := eq_true q321
         go_wp2_with (first | ((with_reducible refine gc 118 rfl ?_); refine gl (some 26) Try.func118 #[.int .i64 (rd l0 x17_1), .int .i64 x7_1] ?_; (with_reducible refine (L_fraction.calls k1 (rd l0 x17_1) x7_1 t322 t323 _ A9.out).mono ?_); rintro e w11 ⟨rfl, hb⟩; refine ⟨_, rfl, ?_⟩; replace HO_6 := rb HO_6 hb; replace HB := sb HB hb; (try clear hb)) | ((with_reducible refine gate_builtin (b := .append) (xs := #[.tmp 23, .tmp 27]) rfl ?_); at_builtin; refine Kd.R_append k100 (w0 := w) w.heap.size rfl (.tmp 23) (.tmp 27) 68 100 (.agg #[(.int .i64 0), (.int .i64 0)]) 16 rfl Try.underlying68 info100 rfl (by decide) (by omega) u6 x6_1 (⟨t322, t323⟩ : S100) [.int .i64 t322, .int .i64 t323] (fun _ => True) (fun _ => False) rfl rfl ?aP (fun _ hk => hk.elim) ?aF ?aO ?aB ?aS ?aL ?_; (case aP => exact k100_mkM _ _ _ (⟨t322, t323⟩ : S100)); (case aB => exact bz); (case aF => exact (fun _ _ => trivial)); (case aO => exact (br HO_6.out)); (case aS => exact (below_size bz)); (case aL => have := LMc10.out; omega); intro v325 w12 ho hb hg hat; rw [← Ny324.out] at ho; have n0_ := m0 (hb); have n1_ := m0 (ho); clear HB; clear HO_6; have HB := n0_; have HO326 := n1_; clear n0_ n1_; clear ho hb hg hat))
         go_roundg k1
         case measure => have := HK1.out; omega
         case rel => exact ⟨(y324), (wrap64 (x7_1 - (rd l0 x17_1))), (wrap64 (x17_1 + 1)), rz, rz, H', ⟨by have := HK1.out; omega⟩, ⟨br HO326.out⟩, ⟨bz⟩⟩
        ·rw [if_neg c10] at H; exact absurd H (by simp)
      ·rw [if_neg c7] at H; exact absurd H (by simp)
     ·rw [if_neg c6] at H; exact absurd H (by simp)
    ·rw [if_neg c5] at H; have c5b0 := decide_eq_false c5; clear c5; simp only [Option.some.injEq, Prod.mk.injEq] at H; obtain ⟨rfl, rfl⟩ := H
     go_wp2
     go_ret2
     exact ⟨_, by first | rfl | (simp [errW_none, errW_some] <;> rfl) | (simp [*, errW_none, errW_some] <;> rfl), by (with_reducible repeat (first | apply Kd.R_alloc | apply Kd.R_drewN | apply Kd.R_drew)); exact HO_6.out, by repeat (first | (with_reducible first | exact HB.out | apply below_alloc | apply pw_below_drewN | apply below_drew1) | exact HB.out)⟩
end
section
def L_Undone.f (k : Nat) (l0 : List Int) (a1 : Int) : Option ((List (S100)) × Int) := (L_open.f k l0).bind fun bt327 => ((L_constantErr.f a1).bind fun t331 => ((L_first.f k (([bt327.2, t331] : List Int))).bind fun t335 => (if t335 = 0 then ((L_profile_shares.f k bt327.1 a1).bind fun bt336 => (some (bt336.1, bt336.2))) else (some (([] : List (S100)), t335)))))
theorem L_Undone.mono : ∀ a0 a1 k, LeO (L_Undone.f k a0 a1) (L_Undone.f (k + 1) a0 a1) := by
 intro a0 a1 k; unfold L_Undone.f
 repeat' with_reducible first
  | exact L_first.mono ..
  | exact L_open.mono ..
  | exact L_profile_shares.mono ..
  | exact LeO.refl ..
  | exact LeO.none ..
  | refine LeO.ite ?_ ?_
  | refine LeO.bind ?_ (fun _ => ?_)
theorem L_Undone.calls (k : Nat) (A0 : Option Addr) (c0 : Nat) (l0 : List Int) (a1 : Int) (r1 : List (S100)) (r2 : Int) (w : World) (hr0 : Kd.C (Kd.int .i64) w A0 l0.length l0) (hc0 : l0.length ≤ c0) (H : L_Undone.f k l0 a1 = some (r1, r2)) :
  Calls Try.prog 43 #[.slice A0 l0.length c0, .int .i64 a1] w fun e w' => ∃ v0_ : Value, e = .returned (.tuple #[v0_, .int .i64 r2]) ∧ Kd.R k100 100 w' w.heap.size (fun _ => True) v0_ r1 ∧ Below w.heap.size w w' := by
 have HR0 := m0 hr0; have HC0 := m0 hc0; clear hr0 hc0; have HB := m0 (Below.refl w.heap.size w); unfold L_Undone.f at H; replace H := oa H; obtain ⟨⟨t327, t330⟩, A3, H⟩ := H; (try dsimp only at H); replace H := oa H; obtain ⟨t331, A4, H⟩ := H; (try dsimp only at H); obtain ⟨y332, hy332⟩ : ∃ y_ : List Int, y_ = (([t330, t331] : List Int)) := ⟨_, rfl⟩; replace H : ((L_first.f k y332).bind fun t335 => (if t335 = 0 then ((L_profile_shares.f k t327 a1).bind fun bt336 => (some (bt336.1, bt336.2))) else (some (([] : List (S100)), t335)))) = some (r1, r2) := by first | (rw [hy332]; with_reducible exact H) | (have H2_ := (Option.bind_some _ _).symm.trans H; rw [hy332]; with_reducible exact H2_) | (have H2_ := (Option.bind_some _ _).symm.trans H; with_reducible exact H2_) | with_reducible exact H | (rw [hy332]; exact H) | exact H
 have Ny332 := m0 hy332; clear hy332; replace H := oa H; obtain ⟨t335, A5, H⟩ := H; (try dsimp only at H)
 by_cases c6 : t335 = 0
 ·rw [if_pos c6] at H; have c6b0 := beq_iff_eq.mpr c6; have c6b1 := bne_eq_false_iff_eq.mpr c6; clear c6; replace H := oa H; obtain ⟨⟨t336, t337⟩, A7, H⟩ := H; (try dsimp only at H); simp only [Option.some.injEq, Prod.mk.injEq] at H; obtain ⟨rfl, rfl⟩ := H; go_enter Try.func43, Try.ntmps43
  go_wp2_with (first | ((with_reducible refine gc 84 rfl ?_); refine gl (some 10) Try.func84 #[.slice A0 l0.length c0] ?_; (with_reducible refine (L_open.calls k (fun k_ => k_ < w.heap.size) _ _ l0 t327 t330 _ ?side1 A3.out).mono ?_); (case side1 => exact Kd.V_mk HC0.out (Kd.F_below (Kd.C_F (Kd.heap_int .i64) HR0.out) bz)); rintro e w8 ⟨v328, rfl, ho0, hb⟩; refine ⟨_, rfl, ?_⟩; have HO329 := hv w (fun k_ => True) ho0 (fun k_ hk_ => trivial); replace HB := sb HB hb; (try clear hb); (try clear ho0)) | ((with_reducible refine gc 91 rfl ?_); refine gl (some 15) Try.func91 #[.int .i64 a1] ?_; (with_reducible refine (L_constantErr.calls a1 t331 _ A4.out).mono ?_); rintro e w' ⟨rfl, ⟨nd, rfl⟩⟩; refine ⟨_, rfl, ?_⟩) | ((with_reducible refine ga 16 rfl ?_); refine Kd.R_lit (Kd.int .i64) _ 26 ?hg (N := 16) ?hd (xs := ([t330, t331] : List Int)) (inner := [.int .i64 t330, .int .i64 t331]) (ok := fun _ => True) (okp := fun _ => True) ?hr ?hp (fun _ hk => hk) trivial (Below.refl _ _) (Nat.le_refl _) (by simp) ?_; (case hd => rfl); (case hg => rfl); (case hr => first | (go_simp; done) | (go_simp; rfl)); (case hp => exact (Reps.one (ki t330) (Reps.one (ki t331) (Reps.none _ _)))); intro v333 w9 ho10 hb hg_ hnew_; clear hg_ hnew_; (first | rw [← Ny332.out] at ho10 | (simp only [Int.reduceToNat] at ho10; rw [← Ny332.out] at ho10)); replace HO329 := m0 (Kd.V_elder' (by (with_reducible repeat (first | apply Kd.V_alloc | apply Kd.V_drewN | apply Kd.V_drew)); exact HO329.out) (Kd.R_base ho10) hb); have HO334 := m0 (Kd.R_lower ho10 (below_size bz)); replace HB := sb HB hb; clear hb ho10; obtain ⟨Ao11, co11, eo11⟩ := Kd.R_slice HO334.out; subst eo11) | ((with_reducible refine gc 68 rfl ?_); refine gl (some 17) Try.func68 #[.slice Ao11 y332.length co11] ?_; (with_reducible refine (L_first.calls k _ _ y332 t335 _ ?side1 ?side2 A5.out).mono ?_); (case side1 => exact bc (Kd.R_reads' HO334.out).2.2); (case side2 => exact (Kd.R_reads' HO334.out).2.1); rintro e w' ⟨rfl, ⟨nd, rfl⟩⟩; refine ⟨_, rfl, ?_⟩; obtain ⟨Ao12, co12, eo12⟩ := Kd.V_slice HO329.out; subst eo12) | ((with_reducible refine gc 92 rfl ?_); refine gl (some 23) Try.func92 #[.slice Ao12 t327.length co12, .int .i64 a1] ?_; (with_reducible refine (L_profile_shares.calls k _ _ t327 a1 t336 t337 _ ?side1 ?side2 A7.out).mono ?_); (case side1 => exact bc (Kd.V_reads' HO329.out).2.2); (case side2 => exact (Kd.V_reads' HO329.out).2.1); rintro e w13 ⟨v338, rfl, ho0, hb⟩; refine ⟨_, rfl, ?_⟩; replace HO329 := m0 (Kd.V_elder' (by (with_reducible repeat (first | apply Kd.V_alloc | apply Kd.V_drewN | apply Kd.V_drew)); exact HO329.out) (Kd.R_base ho0) hb); replace HO334 := rb HO334 hb; have HO339 := m0 (Kd.R_lower ho0 (below_size bz)); replace HB := sb HB hb; (try clear hb); (try clear ho0)))
  go_ret2
  exact ⟨_, by first | rfl | (simp [errW_none, errW_some] <;> rfl) | (simp [*, errW_none, errW_some] <;> rfl), by (with_reducible repeat (first | apply Kd.R_alloc | apply Kd.R_drewN | apply Kd.R_drew)); exact HO339.out, by repeat (first | (with_reducible first | exact HB.out | apply below_alloc | apply pw_below_drewN | apply below_drew1) | exact HB.out)⟩
 ·rw [if_neg c6] at H; have c6b0 := beq_eq_false_iff_ne.mpr c6; have c6b1 := bne_iff_ne.mpr c6; simp only [Option.some.injEq, Prod.mk.injEq] at H; obtain ⟨rfl, rfl⟩ := H; go_enter Try.func43, Try.ntmps43
  go_wp2_with (first | ((with_reducible refine gc 84 rfl ?_); refine gl (some 10) Try.func84 #[.slice A0 l0.length c0] ?_; (with_reducible refine (L_open.calls k (fun k_ => k_ < w.heap.size) _ _ l0 t327 t330 _ ?side1 A3.out).mono ?_); (case side1 => exact Kd.V_mk HC0.out (Kd.F_below (Kd.C_F (Kd.heap_int .i64) HR0.out) bz)); rintro e w14 ⟨v328, rfl, ho0, hb⟩; refine ⟨_, rfl, ?_⟩; have HO329 := hv w (fun k_ => True) ho0 (fun k_ hk_ => trivial); replace HB := sb HB hb; (try clear hb); (try clear ho0)) | ((with_reducible refine gc 91 rfl ?_); refine gl (some 15) Try.func91 #[.int .i64 a1] ?_; (with_reducible refine (L_constantErr.calls a1 t331 _ A4.out).mono ?_); rintro e w' ⟨rfl, ⟨nd, rfl⟩⟩; refine ⟨_, rfl, ?_⟩) | ((with_reducible refine ga 16 rfl ?_); refine Kd.R_lit (Kd.int .i64) _ 26 ?hg (N := 16) ?hd (xs := ([t330, t331] : List Int)) (inner := [.int .i64 t330, .int .i64 t331]) (ok := fun _ => True) (okp := fun _ => True) ?hr ?hp (fun _ hk => hk) trivial (Below.refl _ _) (Nat.le_refl _) (by simp) ?_; (case hd => rfl); (case hg => rfl); (case hr => first | (go_simp; done) | (go_simp; rfl)); (case hp => exact (Reps.one (ki t330) (Reps.one (ki t331) (Reps.none _ _)))); intro v333 w15 ho16 hb hg_ hnew_; clear hg_ hnew_; (first | rw [← Ny332.out] at ho16 | (simp only [Int.reduceToNat] at ho16; rw [← Ny332.out] at ho16)); replace HO329 := m0 (Kd.V_elder' (by (with_reducible repeat (first | apply Kd.V_alloc | apply Kd.V_drewN | apply Kd.V_drew)); exact HO329.out) (Kd.R_base ho16) hb); have HO334 := m0 (Kd.R_lower ho16 (below_size bz)); replace HB := sb HB hb; clear hb ho16; obtain ⟨Ao17, co17, eo17⟩ := Kd.R_slice HO334.out; subst eo17) | ((with_reducible refine gc 68 rfl ?_); refine gl (some 17) Try.func68 #[.slice Ao17 y332.length co17] ?_; (with_reducible refine (L_first.calls k _ _ y332 t335 _ ?side1 ?side2 A5.out).mono ?_); (case side1 => exact bc (Kd.R_reads' HO334.out).2.2); (case side2 => exact (Kd.R_reads' HO334.out).2.1); rintro e w' ⟨rfl, ⟨nd, rfl⟩⟩; refine ⟨_, rfl, ?_⟩))
  go_ret2
  exact ⟨_, by first | rfl | (simp [errW_none, errW_some] <;> rfl) | (simp [*, errW_none, errW_some] <;> rfl), by first | exact Kd.R_nil _ _ _ _ _ | exact Kd.N_nil _ _ _ _ _ | exact Kd.V_nil _ _ _ _ _ | exact Kd.Q_nil _ _ _ _ _ | exact Kd.S_nil _ _ _ _ _, by repeat (first | (with_reducible first | exact HB.out | apply below_alloc | apply pw_below_drewN | apply below_drew1) | exact HB.out)⟩
end
section
theorem eqA100 (d : Nat) (w : World) (x0 y0 : Int) (x1 y1 : Int) :
  (Op.equalIn (d + 2) 100 (.agg #[.int .i64 x0, .int .i64 x1]) (.agg #[.int .i64 y0, .int .i64 y1])).run Try.prog w = .ok (x0 == y0 && (x1 == y1)) w := by
 refine eqA_of Try.underlying100 (by kernel_rfl) ?_; refine eqf_cons (by rfl) (by go_simp; rfl) (by go_simp; rfl) (by go_simp) ?_; exact eqf_last (by rfl) (by go_simp; rfl) (by go_simp; rfl) (by go_simp)
end
section
attribute [local go_sem high] eqA100
def Bs_Fracs.l0 : Nat → List (S100) → List (S100) → Int → Option (Bool)
 | 0, _, _, _ => none
 | k + 1, x0, x1, x5 => if x5 < (x0.length : Int) then (if 0 ≤ x5 then (if x5 < (x1.length : Int) then (if (!(((rd_T100 x0 x5).f0) == ((rd_T100 x1 x5).f0)) || (!(((rd_T100 x0 x5).f1) == ((rd_T100 x1 x5).f1)))) = true then (some false) else (Bs_Fracs.l0 k x0 x1 (wrap64 (x5 + 1)))) else (none)) else (none)) else (some true)
def Bs_Fracs.f (k : Nat) (l0 : List (S100)) (l1 : List (S100)) : Option (Bool) := if (l0.length : Int) = (l1.length : Int) then (Bs_Fracs.l0 k l0 l1 0) else (some false)
theorem Bs_Fracs.mono_l : ∀ k, (∀ y0 y1 y2, LeO (Bs_Fracs.l0 k y0 y1 y2) (Bs_Fracs.l0 (k + 1) y0 y1 y2))
 | 0 => fun _ _ _ r h => by simp [Bs_Fracs.l0] at h
 | k + 1 => by
  have ih0 := Bs_Fracs.mono_l k
  ·intro y0 y1 y2; unfold Bs_Fracs.l0
   repeat' with_reducible first
    | exact ih0 ..
    | exact LeO.refl ..
    | exact LeO.none ..
    | refine LeO.ite ?_ ?_
    | refine LeO.bind ?_ (fun _ => ?_)
theorem Bs_Fracs.mono : ∀ a0 a1 k, LeO (Bs_Fracs.f k a0 a1) (Bs_Fracs.f (k + 1) a0 a1) := by
 intro a0 a1 k; have ih0 := Bs_Fracs.mono_l k; unfold Bs_Fracs.f
 repeat' with_reducible first
  | exact ih0 ..
  | exact LeO.refl ..
  | exact LeO.none ..
  | refine LeO.ite ?_ ?_
  | refine LeO.bind ?_ (fun _ => ?_)
theorem Bs_Fracs.calls (k : Nat) (A0 : Option Addr) (c0 : Nat) (l0 : List (S100)) (A1 : Option Addr) (c1 : Nat) (l1 : List (S100)) (r : Bool) (w : World) (hr0 : Kd.C k100 w A0 l0.length l0) (hc0 : l0.length ≤ c0) (hr1 : Kd.C k100 w A1 l1.length l1) (hc1 : l1.length ≤ c1) (H : Bs_Fracs.f k l0 l1 = some r) :
  Calls Try.prog 49 #[.slice A0 l0.length c0, .slice A1 l1.length c1] w fun e w' => e = .returned (.bool r) ∧ Drawn0 w w' := by
 have hu100 := Try.underlying100; have HR0 := m0 hr0; have HC0 := m0 hc0; clear hr0 hc0; have HR1 := m0 hr1; have HC1 := m0 hc1; clear hr1 hc1; unfold Bs_Fracs.f at H
 by_cases c3 : (l0.length : Int) = (l1.length : Int)
 ·rw [if_pos c3] at H; have c3b0 := beq_iff_eq.mpr c3; have c3b1 := bne_eq_false_iff_eq.mpr c3; have c3b2 : (l0.length == l1.length) = true := by first | simpa using c3 | (simp at c3 ⊢; omega)
  clear c3; have H' := m0 H; clear H; go_enter Try.func49, Try.ntmps49
  go_wp2
  repeat (go_quiet (fail); try go_wp2)
  go_loopg [5] k (fun kq v5 w' => ∃ (x5_1 : Int), v5 = .int .i64 x5_1 ∧ Aside0 (Bs_Fracs.l0 kq l0 l1 x5_1 = some r) ∧ Aside0 (kq ≤ k) ∧ Drawn0 w w')
  case atStart => exact ⟨(0), rz, H', ⟨Nat.le_refl _⟩, by repeat (first | exact Drawn0.refl _ | apply Drawn0.step)⟩
  case round =>
   clear H'; obtain ⟨x5_1, rfl, HA, HK1, ⟨m1, rfl⟩⟩ := hrel
   cases gk with
   | zero => exact absurd HA.out (by simp [Bs_Fracs.l0])
   | succ k1 =>
    have H := HA.out; clear HA; simp only [Bs_Fracs.l0] at H
    by_cases c4 : x5_1 < (l0.length : Int)
    ·rw [if_pos c4] at H; have c4b0 := decide_eq_true c4; clear c4
     by_cases c5 : 0 ≤ x5_1
     ·rw [if_pos c5] at H; have c5b0 := decide_eq_true c5; clear c5
      by_cases c6 : x5_1 < (l1.length : Int)
      ·rw [if_pos c6] at H; have c6b0 := decide_eq_true c6; clear c6
       by_cases c7 : (!(((rd_T100 l0 x5_1).f0) == ((rd_T100 l1 x5_1).f0)) || (!(((rd_T100 l0 x5_1).f1) == ((rd_T100 l1 x5_1).f1)))) = true
       ·rw [if_pos c7] at H; have c7b0 : (!(((rd_T100 l0 x5_1).f0) == ((rd_T100 l1 x5_1).f0)) || (!(((rd_T100 l0 x5_1).f1) == ((rd_T100 l1 x5_1).f1)))) = true := c7; clear c7; obtain rfl := Option.some.inj H; have p340 : 0 ≤ (x5_1 : Int) := od; have q340 : x5_1 < (l0.length : Int) := od; obtain ⟨ad340, e340, hx340_0, hx340_1⟩ := at_T100 HR0.out x5_1 p340 q340
        cases e340
        replace p340 := eq_true p340; replace q340 := eq_true q340; have p341 : 0 ≤ (x5_1 : Int) := od; have q341 : x5_1 < (l1.length : Int) := od; obtain ⟨ad341, e341, hx341_0, hx341_1⟩ := at_T100 HR1.out x5_1 p341 q341
        cases e341
        replace p341 := eq_true p341; replace q341 := eq_true q341
        go_wp2
        repeat (go_quiet (fail); try go_wp2)
        go_ret
        exact ⟨rz, by repeat (first | exact Drawn0.refl _ | apply Drawn0.step)⟩
       ·rw [if_neg c7] at H; have c7b0 : (!(((rd_T100 l0 x5_1).f0) == ((rd_T100 l1 x5_1).f0)) || (!(((rd_T100 l0 x5_1).f1) == ((rd_T100 l1 x5_1).f1)))) = false := by simpa using c7
        clear c7; have H' := m0 H; clear H; have p340 : 0 ≤ (x5_1 : Int) := od; have q340 : x5_1 < (l0.length : Int) := od; obtain ⟨ad340, e340, hx340_0, hx340_1⟩ := at_T100 HR0.out x5_1 p340 q340
        cases e340
        replace p340 := eq_true p340; replace q340 := eq_true q340; have p341 : 0 ≤ (x5_1 : Int) := od; have q341 : x5_1 < (l1.length : Int) := od; obtain ⟨ad341, e341, hx341_0, hx341_1⟩ := at_T100 HR1.out x5_1 p341 q341
        cases e341
        replace p341 := eq_true p341; replace q341 := eq_true q341
        go_wp2
        repeat (go_quiet (fail); try go_wp2)
        go_roundg k1
        case measure => have := HK1.out; omega
        case rel => exact ⟨(wrap64 (x5_1 + 1)), rz, H', ⟨by have := HK1.out; omega⟩, by repeat (first | exact Drawn0.refl _ | apply Drawn0.step)⟩
      ·rw [if_neg c6] at H; exact absurd H (by simp)
     ·rw [if_neg c5] at H; exact absurd H (by simp)
    ·rw [if_neg c4] at H; have c4b0 := decide_eq_false c4; clear c4; obtain rfl := Option.some.inj H
     go_wp2
     repeat (go_quiet (fail); try go_wp2)
     go_ret
     exact ⟨rz, by repeat (first | exact Drawn0.refl _ | apply Drawn0.step)⟩
 ·rw [if_neg c3] at H; have c3b0 := beq_eq_false_iff_ne.mpr c3; have c3b1 := bne_iff_ne.mpr c3; have c3b2 : (l0.length == l1.length) = false := by first | simpa using c3 | (simp at c3 ⊢; omega)
  obtain rfl := Option.some.inj H; go_enter Try.func49, Try.ntmps49
  go_wp2
  repeat (go_quiet (fail); try go_wp2)
  go_ret
  exact ⟨rz, by repeat (first | exact Drawn0.refl _ | apply Drawn0.step)⟩
end
section
def Lw_Layers.f  : Option ((List (S112))) := some (([(⟨500, 800, 3⟩ : S112), (⟨300, 400, 2⟩ : S112), (⟨900, 1000, 4⟩ : S112)] : List (S112)))
theorem Lw_Layers.calls  (r : List (S112)) (w : World) (H : Lw_Layers.f  = some r) :
  Calls Try.prog 63 #[] w fun e w' => ∃ v0_ : Value, e = .returned (v0_) ∧ Kd.R k112 112 w' w.heap.size (fun _ => True) v0_ r ∧ Below w.heap.size w w' := by
 have hu112 := Try.underlying112; have HB := m0 (Below.refl w.heap.size w); unfold Lw_Layers.f at H; obtain ⟨y342, hy342⟩ : ∃ y_ : List (S112), y_ = (([(⟨500, 800, 3⟩ : S112), (⟨300, 400, 2⟩ : S112), (⟨900, 1000, 4⟩ : S112)] : List (S112))) := ⟨_, rfl⟩; replace H : (some y342) = some r := by first | (rw [hy342]; with_reducible exact H) | (have H2_ := (Option.bind_some _ _).symm.trans H; rw [hy342]; with_reducible exact H2_) | (have H2_ := (Option.bind_some _ _).symm.trans H; with_reducible exact H2_) | with_reducible exact H | (rw [hy342]; exact H) | exact H
 have Ny342 := m0 hy342; clear hy342; obtain rfl := Option.some.inj H; go_enter Try.func63, Try.ntmps63
 go_wp2_with (first | ((with_reducible refine ga 4 rfl ?_); refine Kd.R_lit k112 _ 112 ?hg (N := 4) ?hd (xs := ([(⟨500, 800, 3⟩ : S112), (⟨300, 400, 2⟩ : S112), (⟨900, 1000, 4⟩ : S112)] : List (S112))) (inner := [.int .i64 500, .int .i64 800, .int .i64 3, .int .i64 300, .int .i64 400, .int .i64 2, .int .i64 900, .int .i64 1000, .int .i64 4]) (ok := fun _ => True) (okp := fun _ => True) ?hr ?hp (fun _ hk => hk) trivial (Below.refl _ _) (Nat.le_refl _) (by simp) ?_; (case hd => rfl); (case hg => rfl); (case hr => first | (go_simp; done) | (go_simp; rfl)); (case hp => exact (Reps.c3 (show Kd.M k112 _ _ _ (⟨500, 800, 3⟩ : S112) [.int .i64 500, .int .i64 800, .int .i64 3] from (k112_mkM _ _ _ (⟨500, 800, 3⟩ : S112) )) (Reps.c3 (show Kd.M k112 _ _ _ (⟨300, 400, 2⟩ : S112) [.int .i64 300, .int .i64 400, .int .i64 2] from (k112_mkM _ _ _ (⟨300, 400, 2⟩ : S112) )) (Reps.c3 (show Kd.M k112 _ _ _ (⟨900, 1000, 4⟩ : S112) [.int .i64 900, .int .i64 1000, .int .i64 4] from (k112_mkM _ _ _ (⟨900, 1000, 4⟩ : S112) )) (Reps.none _ _))))); intro v343 w1 ho2 hb hg_ hnew_; clear hg_ hnew_; (first | rw [← Ny342.out] at ho2 | (simp only [Int.reduceToNat] at ho2; rw [← Ny342.out] at ho2)); have HO344 := m0 (Kd.R_lower ho2 (below_size bz)); replace HB := sb HB hb; clear hb ho2))
 go_ret
 exact ⟨_, by first | rfl | (simp [errW_none, errW_some] <;> rfl) | (simp [*, errW_none, errW_some] <;> rfl), by (with_reducible repeat (first | apply Kd.R_alloc | apply Kd.R_drewN | apply Kd.R_drew)); exact HO344.out, by repeat (first | (with_reducible first | exact HB.out | apply below_alloc | apply pw_below_drewN | apply below_drew1) | exact HB.out)⟩
end
section
def Lw_Shots.f  : Option ((List (S108))) := some (([(⟨0, 3, 2⟩ : S108), (⟨2, 5, 4⟩ : S108)] : List (S108)))
theorem Lw_Shots.calls  (r : List (S108)) (w : World) (H : Lw_Shots.f  = some r) :
  Calls Try.prog 64 #[] w fun e w' => ∃ v0_ : Value, e = .returned (v0_) ∧ Kd.R k108 108 w' w.heap.size (fun _ => True) v0_ r ∧ Below w.heap.size w w' := by
 have hu108 := Try.underlying108; have HB := m0 (Below.refl w.heap.size w); unfold Lw_Shots.f at H; obtain ⟨y345, hy345⟩ : ∃ y_ : List (S108), y_ = (([(⟨0, 3, 2⟩ : S108), (⟨2, 5, 4⟩ : S108)] : List (S108))) := ⟨_, rfl⟩; replace H : (some y345) = some r := by first | (rw [hy345]; with_reducible exact H) | (have H2_ := (Option.bind_some _ _).symm.trans H; rw [hy345]; with_reducible exact H2_) | (have H2_ := (Option.bind_some _ _).symm.trans H; with_reducible exact H2_) | with_reducible exact H | (rw [hy345]; exact H) | exact H
 have Ny345 := m0 hy345; clear hy345; obtain rfl := Option.some.inj H; go_enter Try.func64, Try.ntmps64
 go_wp2_with (first | ((with_reducible refine ga 3 rfl ?_); refine Kd.R_lit k108 _ 108 ?hg (N := 3) ?hd (xs := ([(⟨0, 3, 2⟩ : S108), (⟨2, 5, 4⟩ : S108)] : List (S108))) (inner := [.int .i64 0, .int .i64 3, .int .i64 2, .int .i64 2, .int .i64 5, .int .i64 4]) (ok := fun _ => True) (okp := fun _ => True) ?hr ?hp (fun _ hk => hk) trivial (Below.refl _ _) (Nat.le_refl _) (by simp) ?_; (case hd => rfl); (case hg => rfl); (case hr => first | (go_simp; done) | (go_simp; rfl)); (case hp => exact (Reps.c3 (show Kd.M k108 _ _ _ (⟨0, 3, 2⟩ : S108) [.int .i64 0, .int .i64 3, .int .i64 2] from (k108_mkM _ _ _ (⟨0, 3, 2⟩ : S108) )) (Reps.c3 (show Kd.M k108 _ _ _ (⟨2, 5, 4⟩ : S108) [.int .i64 2, .int .i64 5, .int .i64 4] from (k108_mkM _ _ _ (⟨2, 5, 4⟩ : S108) )) (Reps.none _ _)))); intro v346 w1 ho2 hb hg_ hnew_; clear hg_ hnew_; (first | rw [← Ny345.out] at ho2 | (simp only [Int.reduceToNat] at ho2; rw [← Ny345.out] at ho2)); have HO347 := m0 (Kd.R_lower ho2 (below_size bz)); replace HB := sb HB hb; clear hb ho2))
 go_ret
 exact ⟨_, by first | rfl | (simp [errW_none, errW_some] <;> rfl) | (simp [*, errW_none, errW_some] <;> rfl), by (with_reducible repeat (first | apply Kd.R_alloc | apply Kd.R_drewN | apply Kd.R_drew)); exact HO347.out, by repeat (first | (with_reducible first | exact HB.out | apply below_alloc | apply pw_below_drewN | apply below_drew1) | exact HB.out)⟩
end
end Go.Proofs.Yteiafijbgjgiaaa.A
