/- Walks of the program's functions (printed, made shorter), each with what it computes. -/
import Derived.Test.YtjnkphmcndaijaaDoorBes04
import Derived.Test.YtjnkphmcndaijaaDoorBes03
import Derived.Test.YtjnkphmcndaijaaDoorBes06
import Derived.Test.YtjnkphmcndaijaaDoorBes09
import Derived.Test.YtjnkphmcndaijaaDoorBes10
import Derived.Test.YtjnkphmcndaijaaDoorBes15
namespace Go.Proofs.YtjnkphmcndaijaaDoor.A
set_option maxHeartbeats 8000000
set_option maxRecDepth 100000
open Go.RowKit Go.Proofs.YtjnkphmcndaijaaDoorW.PrintWords Go.Proofs.YtjnkphmcndaijaaDoorW.PrintLast Go.Proofs.YtjnkphmcndaijaaDoorW.PrintMore
attribute [local go_sem] max2_int min2_int max_two min_two max_three min_three max_four min_four
set_option linter.unusedVariables false
set_option linter.unusedSimpArgs false
section
mutual
def Rf_Peaks.l0 : Nat → List Int → List Int → Int → Option (List Int)
  | 0, _, _, _ => none
  | k + 1, x0, x3, x4 => if x4 < (x0.length : Int) then (Rf_Peaks.l1 k x0 x3 x4 true 0) else (some x3)
def Rf_Peaks.l1 : Nat → List Int → List Int → Int → Bool → Int → Option (List Int)
  | 0, _, _, _, _, _ => none
  | k + 1, x0, x3, x4, x5, x6 => if x6 < (x0.length : Int) then (if x5 = true then (if 0 ≤ x6 then (if 0 ≤ x4 then (if x4 < (x0.length : Int) then (Rf_Peaks.l1 k x0 x3 x4 (decide ((rd x0 x6) ≤ (rd x0 x4))) (wrap64 (x6 + 1))) else (none)) else (none)) else (none)) else (Rf_Peaks.l1 k x0 x3 x4 false (wrap64 (x6 + 1)))) else (if x5 = true then (if x3.length < 17592186044416 then (Rf_Peaks.l0 k x0 (x3 ++ [x4]) (wrap64 (x4 + 1))) else (none)) else (Rf_Peaks.l0 k x0 x3 (wrap64 (x4 + 1))))
end
def Rf_Peaks.f (k : Nat) (l0 : List Int) : Option (List Int) := Rf_Peaks.l0 k l0 ([] : List Int) 0
theorem Rf_Peaks.mono_l : ∀ k, (∀ y0 y1 y2, LeO (Rf_Peaks.l0 k y0 y1 y2) (Rf_Peaks.l0 (k + 1) y0 y1 y2)) ∧ (∀ y0 y1 y2 y3 y4, LeO (Rf_Peaks.l1 k y0 y1 y2 y3 y4) (Rf_Peaks.l1 (k + 1) y0 y1 y2 y3 y4))
  | 0 => ⟨fun _ _ _ r h => by simp [Rf_Peaks.l0] at h, fun _ _ _ _ _ r h => by simp [Rf_Peaks.l1] at h⟩
  | k + 1 => by
    obtain ⟨ih0, ih1⟩ := Rf_Peaks.mono_l k
    refine ⟨?_, ?_⟩
    · intro y0 y1 y2
      unfold Rf_Peaks.l0
      repeat' first
      | (with_reducible exact ih0 _ _ _)
      | (with_reducible exact ih1 _ _ _ _ _)
      | (with_reducible exact LeO.refl _)
      | (with_reducible exact LeO.none _)
      | (with_reducible refine LeO.ite ?_ ?_)
      | (with_reducible refine LeO.bind ?_ (fun _ => ?_))
      | exact ih0 _ _ _
      | exact ih1 _ _ _ _ _
      | exact LeO.none _
      | refine LeO.ite ?_ ?_
      | refine LeO.bind ?_ (fun _ => ?_)
    · intro y0 y1 y2 y3 y4
      unfold Rf_Peaks.l1
      repeat' first
      | (with_reducible exact ih0 _ _ _)
      | (with_reducible exact ih1 _ _ _ _ _)
      | (with_reducible exact LeO.refl _)
      | (with_reducible exact LeO.none _)
      | (with_reducible refine LeO.ite ?_ ?_)
      | (with_reducible refine LeO.bind ?_ (fun _ => ?_))
      | exact ih0 _ _ _
      | exact ih1 _ _ _ _ _
      | exact LeO.none _
      | refine LeO.ite ?_ ?_
      | refine LeO.bind ?_ (fun _ => ?_)
theorem Rf_Peaks.mono : ∀ a0 k, LeO (Rf_Peaks.f k a0) (Rf_Peaks.f (k + 1) a0) := by
  intro a0 k
  obtain ⟨ih0, ih1⟩ := Rf_Peaks.mono_l k
  unfold Rf_Peaks.f
  repeat' first
      | (with_reducible exact ih0 _ _ _)
      | (with_reducible exact ih1 _ _ _ _ _)
      | (with_reducible exact LeO.refl _)
      | (with_reducible exact LeO.none _)
      | (with_reducible refine LeO.ite ?_ ?_)
      | (with_reducible refine LeO.bind ?_ (fun _ => ?_))
      | exact ih0 _ _ _
      | exact ih1 _ _ _ _ _
      | exact LeO.none _
      | refine LeO.ite ?_ ?_
      | refine LeO.bind ?_ (fun _ => ?_)
theorem Rf_Peaks.calls (k : Nat) (A0 : Option Addr) (c0 : Nat) (l0 : List Int) (r : List Int) (w : World) (hr0 : Kd.C (Kd.int .i64) w A0 l0.length l0) (hc0 : l0.length ≤ c0) (h : Rf_Peaks.f k l0 = some r) :
    Calls Tryd.prog 79 #[.slice A0 l0.length c0] w fun e w' => ∃ v0_ : Value, e = .returned (v0_) ∧ Kd.R (Kd.int .i64) 3 w' w.heap.size (fun _ => True) v0_ r ∧ Below w.heap.size w w' := by
  have HR0 := m0 hr0
  have HC0 := m0 hc0
  clear hr0 hc0
  have HB := m0 (Below.refl w.heap.size w)
  have H : (Rf_Peaks.l0 k l0 ([] : List Int) 0) = some r := h
  clear h
  have H' := m0 H
  clear H
  go_enter Tryd.func79, Tryd.ntmps79
  go_wp2
  repeat (go_quiet (fail); try go_wp2)
  go_loopg [3, 4] k (fun kq v3 v4 w' => ∃ (x3_1 : List Int) (x4_1 : Int), v4 = .int .i64 x4_1 ∧ Aside0 (Rf_Peaks.l0 kq l0 x3_1 x4_1 = some r) ∧ Aside0 (kq ≤ k) ∧ Aside0 (Kd.R (Kd.int .i64) 3 w' w.heap.size (fun _ => True) v3 x3_1) ∧ Aside0 (Below w.heap.size w w'))
  case atStart => exact ⟨(([] : List Int)), (0), (by first | rfl | (simp; done) | (simp [*]; done)), H', ⟨Nat.le_refl _⟩, ⟨by first | exact Kd.R_nil _ _ _ _ _ | exact Kd.N_nil _ _ _ _ _ | exact Kd.V_nil _ _ _ _ _ | exact Kd.Q_nil _ _ _ _ _ | exact Kd.S_nil _ _ _ _ _⟩, ⟨bz⟩⟩
  case round =>
    clear H'
    obtain ⟨x3_1, x4_1, rfl, HA, HK1, HO_3, HB⟩ := hrel
    cases gk with
    | zero => exact absurd HA.out (by simp [Rf_Peaks.l0])
    | succ k1 =>
      have H := HA.out
      clear HA
      simp only [Rf_Peaks.l0] at H
      by_cases c2 : x4_1 < (l0.length : Int)
      · rw [if_pos c2] at H
        have c2b0 := decide_eq_true c2
        clear c2
        have H' := m0 H
        clear H
        go_wp2
        repeat (go_quiet (fail); try go_wp2)
        go_loopg [5, 6] k1 (fun kq v5 v6 w' => ∃ (x5_2 : Bool) (x6_2 : Int), v5 = .bool x5_2 ∧ v6 = .int .i64 x6_2 ∧ Aside0 (Rf_Peaks.l1 kq l0 x3_1 x4_1 x5_2 x6_2 = some r) ∧ Aside0 (kq ≤ k1) ∧ Aside0 (Kd.R (Kd.int .i64) 3 w' w.heap.size (fun _ => True) u3 x3_1) ∧ Aside0 (Below w.heap.size w w'))
        case atStart => exact ⟨(true), (0), (by first | rfl | (simp; done) | (simp [*]; done)), (by first | rfl | (simp; done) | (simp [*]; done)), H', ⟨Nat.le_refl _⟩, ⟨br HO_3.out⟩, ⟨bz⟩⟩
        case round =>
          clear H'
          try clear c2
          try clear c2b0
          try clear p2
          obtain ⟨x5_2, x6_2, rfl, rfl, HA, HK2, HO_3, HB⟩ := hrel
          cases gk with
          | zero => exact absurd HA.out (by simp [Rf_Peaks.l1])
          | succ k2 =>
            have H := HA.out
            clear HA
            simp only [Rf_Peaks.l1] at H
            by_cases c3 : x6_2 < (l0.length : Int)
            · rw [if_pos c3] at H
              have c3b0 := decide_eq_true c3
              clear c3
              by_cases c4 : x5_2 = true
              · subst c4
                rw [if_pos rfl] at H
                by_cases c5 : 0 ≤ x6_2
                · rw [if_pos c5] at H
                  have c5b0 := decide_eq_true c5
                  clear c5
                  by_cases c6 : 0 ≤ x4_1
                  · rw [if_pos c6] at H
                    have c6b0 := decide_eq_true c6
                    clear c6
                    by_cases c7 : x4_1 < (l0.length : Int)
                    · rw [if_pos c7] at H
                      have c7b0 := decide_eq_true c7
                      clear c7
                      have H' := m0 H
                      clear H
                      have p476 : 0 ≤ (x6_2 : Int) := of_decide_eq_true (by first | (with_reducible assumption) | assumption)
                      have q476 : x6_2 < (l0.length : Int) := of_decide_eq_true (by first | (with_reducible assumption) | assumption)
                      obtain ⟨ad476, e476, hx476_0⟩ := Kd.at_int HR0.out x6_2 p476 q476
                      cases e476
                      replace hx476_0 := (HB.out.cell (World.block_lt_of_cell? w _ hx476_0)).trans hx476_0
                      replace p476 := eq_true p476
                      replace q476 := eq_true q476
                      have p477 : 0 ≤ (x4_1 : Int) := of_decide_eq_true (by first | (with_reducible assumption) | assumption)
                      have q477 : x4_1 < (l0.length : Int) := of_decide_eq_true (by first | (with_reducible assumption) | assumption)
                      obtain ⟨ad477, e477, hx477_0⟩ := Kd.at_int HR0.out x4_1 p477 q477
                      obtain rfl : ad476 = ad477 := (by injection e477)
                      replace hx477_0 := (HB.out.cell (World.block_lt_of_cell? w _ hx477_0)).trans hx477_0
                      replace p477 := eq_true p477
                      replace q477 := eq_true q477
                      go_wp2
                      repeat (go_quiet (fail); try go_wp2)
                      go_roundg k2
                      case measure => have := HK1.out; have := HK2.out; omega
                      case rel => exact ⟨(decide ((rd l0 x6_2) ≤ (rd l0 x4_1))), (wrap64 (x6_2 + 1)), (by first | rfl | (simp; done) | (simp [*]; done)), (by first | rfl | (simp; done) | (simp [*]; done)), H', ⟨by have := HK1.out; have := HK2.out; omega⟩, ⟨br HO_3.out⟩, ⟨bz⟩⟩
                    · rw [if_neg c7] at H
                      exact absurd H (by simp)
                  · rw [if_neg c6] at H
                    exact absurd H (by simp)
                · rw [if_neg c5] at H
                  exact absurd H (by simp)
              · replace c4 := Bool.eq_false_iff.mpr c4
                subst c4
                rw [if_neg (show ¬ (false = true) by decide)] at H
                have H' := m0 H
                clear H
                go_wp2
                repeat (go_quiet (fail); try go_wp2)
                go_roundg k2
                case measure => have := HK1.out; have := HK2.out; omega
                case rel => exact ⟨(false), (wrap64 (x6_2 + 1)), (by first | rfl | (simp; done) | (simp [*]; done)), (by first | rfl | (simp; done) | (simp [*]; done)), H', ⟨by have := HK1.out; have := HK2.out; omega⟩, ⟨br HO_3.out⟩, ⟨bz⟩⟩
            · rw [if_neg c3] at H
              have c3b0 := decide_eq_false c3
              clear c3
              by_cases c8 : x5_2 = true
              · subst c8
                rw [if_pos rfl] at H
                by_cases c9 : x3_1.length < 17592186044416
                · rw [if_pos c9] at H
                  have LMc9 := m0 c9
                  clear c9
                  obtain ⟨y478, hy478⟩ : ∃ y_ : List Int, y_ = (x3_1 ++ [x4_1]) := ⟨_, rfl⟩
                  replace H : (Rf_Peaks.l0 k2 l0 y478 (wrap64 (x4_1 + 1))) = some r := by first | (rw [hy478]; with_reducible exact H) | (have H2_ := (Option.bind_some _ _).symm.trans H; rw [hy478]; with_reducible exact H2_) | (have H2_ := (Option.bind_some _ _).symm.trans H; with_reducible exact H2_) | with_reducible exact H | (rw [hy478]; exact H) | exact H
                  have Ny478 := m0 hy478
                  clear hy478
                  have H' := m0 H
                  clear H
                  go_wp2_with (first | ((with_reducible refine gate_builtin (b := .append) (xs := #[.tmp 32, .tmp 34]) rfl ?_); at_builtin; refine Kd.R_append (Kd.int .i64) (w0 := w) w.heap.size rfl (.tmp 32) (.tmp 34) 22 3 (.int .i64 0) 8 rfl Tryd.underlying22 info3 rfl (by decide) (by omega) u3 x3_1 x4_1 [.int .i64 x4_1] (fun _ => True) (fun _ => False) rfl rfl ?aP (fun _ hk => hk.elim) ?aF ?aO ?aB ?aS ?aL ?_; (case aP => exact rfl); (case aB => exact bz); (case aF => exact (fun _ _ => trivial)); (case aO => exact (br HO_3.out)); (case aS => exact (below_size bz)); (case aL => have := LMc9.out; omega); intro v479 w10 ho hb hg hat; rw [← Ny478.out] at ho; have n0_ := m0 (hb); have n1_ := m0 (ho); clear HB; clear HO_3; have HB := n0_; have HO480 := n1_; clear n0_ n1_; clear ho hb hg hat))
                  repeat (go_quiet (first | ((with_reducible refine gate_builtin (b := .append) (xs := #[.tmp 32, .tmp 34]) rfl ?_); at_builtin; refine Kd.R_append (Kd.int .i64) (w0 := w) w.heap.size rfl (.tmp 32) (.tmp 34) 22 3 (.int .i64 0) 8 rfl Tryd.underlying22 info3 rfl (by decide) (by omega) u3 x3_1 x4_1 [.int .i64 x4_1] (fun _ => True) (fun _ => False) rfl rfl ?aP (fun _ hk => hk.elim) ?aF ?aO ?aB ?aS ?aL ?_; (case aP => exact rfl); (case aB => exact bz); (case aF => exact (fun _ _ => trivial)); (case aO => exact (br HO_3.out)); (case aS => exact (below_size bz)); (case aL => have := LMc9.out; omega); intro v479 w10 ho hb hg hat; rw [← Ny478.out] at ho; have n0_ := m0 (hb); have n1_ := m0 (ho); clear HB; clear HO_3; have HB := n0_; have HO480 := n1_; clear n0_ n1_; clear ho hb hg hat)); try go_wp2_with (first | ((with_reducible refine gate_builtin (b := .append) (xs := #[.tmp 32, .tmp 34]) rfl ?_); at_builtin; refine Kd.R_append (Kd.int .i64) (w0 := w) w.heap.size rfl (.tmp 32) (.tmp 34) 22 3 (.int .i64 0) 8 rfl Tryd.underlying22 info3 rfl (by decide) (by omega) u3 x3_1 x4_1 [.int .i64 x4_1] (fun _ => True) (fun _ => False) rfl rfl ?aP (fun _ hk => hk.elim) ?aF ?aO ?aB ?aS ?aL ?_; (case aP => exact rfl); (case aB => exact bz); (case aF => exact (fun _ _ => trivial)); (case aO => exact (br HO_3.out)); (case aS => exact (below_size bz)); (case aL => have := LMc9.out; omega); intro v479 w10 ho hb hg hat; rw [← Ny478.out] at ho; have n0_ := m0 (hb); have n1_ := m0 (ho); clear HB; clear HO_3; have HB := n0_; have HO480 := n1_; clear n0_ n1_; clear ho hb hg hat)))
                  go_roundg k2
                  case measure => have := HK1.out; have := HK2.out; omega
                  case rel => exact ⟨(y478), (wrap64 (x4_1 + 1)), (by first | rfl | (simp; done) | (simp [*]; done)), H', ⟨by have := HK1.out; have := HK2.out; omega⟩, ⟨br HO480.out⟩, ⟨bz⟩⟩
                · rw [if_neg c9] at H
                  exact absurd H (by simp)
              · replace c8 := Bool.eq_false_iff.mpr c8
                subst c8
                rw [if_neg (show ¬ (false = true) by decide)] at H
                have H' := m0 H
                clear H
                go_wp2
                repeat (go_quiet (fail); try go_wp2)
                go_roundg k2
                case measure => have := HK1.out; have := HK2.out; omega
                case rel => exact ⟨(x3_1), (wrap64 (x4_1 + 1)), (by first | rfl | (simp; done) | (simp [*]; done)), H', ⟨by have := HK1.out; have := HK2.out; omega⟩, ⟨br HO_3.out⟩, ⟨bz⟩⟩
      · rw [if_neg c2] at H
        have c2b0 := decide_eq_false c2
        clear c2
        obtain rfl := Option.some.inj H
        go_wp2
        repeat (go_quiet (fail); try go_wp2)
        go_ret
        exact ⟨_, by first | rfl | (simp [errW_none, errW_some] <;> rfl) | (simp [*, errW_none, errW_some] <;> rfl), by (with_reducible repeat (first | apply Kd.R_alloc | apply Kd.R_drewN | apply Kd.R_drew)); exact HO_3.out, by repeat (first | (with_reducible first | exact HB.out | apply below_alloc | apply pw_below_drewN | apply below_drew1) | exact HB.out)⟩
end
section
def Rf_Peak.f (k : Nat) (l0 : List Int) : Option (Int) := (Rf_Peaks.f k l0).bind fun t481 => (if 0 < (t481.length : Int) then (some (rd t481 0)) else (none))
theorem Rf_Peak.mono : ∀ a0 k, LeO (Rf_Peak.f k a0) (Rf_Peak.f (k + 1) a0) := by
 intro a0 k
 unfold Rf_Peak.f
 repeat' first
   | (with_reducible exact Rf_Peaks.mono _ _)
   | (with_reducible exact LeO.refl _)
   | (with_reducible exact LeO.none _)
   | (with_reducible refine LeO.ite ?_ ?_)
   | (with_reducible refine LeO.bind ?_ (fun _ => ?_))
   | exact Rf_Peaks.mono _ _
   | exact LeO.none _
   | refine LeO.ite ?_ ?_
   | refine LeO.bind ?_ (fun _ => ?_)
theorem Rf_Peak.calls (k : Nat) (A0 : Option Addr) (c0 : Nat) (l0 : List Int) (r : Int) (w : World) (hr0 : Kd.C (Kd.int .i64) w A0 l0.length l0) (hc0 : l0.length ≤ c0) (h : Rf_Peak.f k l0 = some r) :
  Calls Tryd.prog 61 #[.slice A0 l0.length c0] w fun e w' => e = .returned (.int .i64 r) ∧ Below w.heap.size w w' := by
 have HR0 := m0 hr0
 have HC0 := m0 hc0
 clear hr0 hc0
 have HB := m0 (Below.refl w.heap.size w)
 have H : ((Rf_Peaks.f k l0).bind fun t481 => (if 0 < (t481.length : Int) then (some (rd t481 0)) else (none))) = some r := h
 clear h
 replace H := ob H
 obtain ⟨t481, A20, H⟩ := H
 (try dsimp only at H)
 have A2 := m0 A20
 clear A20
 by_cases c3 : 0 < (t481.length : Int)
 ·rw [if_pos c3] at H
  have c3b0 := decide_eq_true c3
  have c3b1 : decide (0 < t481.length) = true := decide_eq_true (by omega)
  clear c3
  obtain rfl := Option.some.inj H
  go_enter Tryd.func61, Tryd.ntmps61
  go_wp2_with (first | ((with_reducible refine gate_callee (f := 79) rfl ?_); refine gl (some 4) Tryd.func79 #[.slice A0 l0.length c0] ?_; (with_reducible refine (Rf_Peaks.calls k _ _ l0 t481 _ ?side1 ?side2 A2.out).mono ?_); (case side1 => repeat (first | exact HR0.out | (with_reducible refine Kd.C_alloc ?_ _) | (with_reducible refine Kd.C_drewN ?_ _) | (with_reducible refine Kd.C_drew ?_))); (case side2 => exact HC0.out); rintro e w4 ⟨v482, rfl, ho0, hb⟩; refine ⟨_, rfl, ?_⟩; have HO483 := m0 (Kd.R_lower ho0 (below_size bz)); replace HB := sb HB hb; (try clear hb); (try clear ho0); obtain ⟨Ao5, co5, eo5⟩ := Kd.R_slice HO483.out; subst eo5; have p484 : 0 ≤ (0 : Int) := (by omega); have q484 : 0 < (t481.length : Int) := of_decide_eq_true (by first | (with_reducible assumption) | assumption); obtain ⟨ad484, e484, hx484_0⟩ := Kd.at_int (Kd.R_reads' HO483.out).2.2 0 p484 q484; cases e484; have qi484 : (0 < t481.length) = True := eq_true (by omega); (try rw [show ((0 : Int)).toNat = 0 from rfl] at hx484_0); (try rw [Addr.add_zero'] at hx484_0); replace p484 := eq_true p484; replace q484 := eq_true q484))
  go_ret
  exact ez
 ·rw [if_neg c3] at H
  exact absurd H (by simp)
end
section
mutual
def Rf_Estimate.j0 : Nat → List Int → Int → Bool → Option (Int × Int)
  | 0, _, _, _ => none
  | k + 1, x0, x5, x38 => if x38 = true then ((Bs_Whole.f x5).bind fun bt494 => (some (bt494.1, bt494.2))) else (if 0 ≤ x5 then (if x5 < (x0.length : Int) then (if 0 ≤ (wrap64 (x5 - 1)) then (if (wrap64 (x5 - 1)) < (x0.length : Int) then (if 0 ≤ (wrap64 (x5 + 1)) then (if (wrap64 (x5 + 1)) < (x0.length : Int) then (if (wrap64 ((wrap64 ((wrap64 (2 * (rd x0 x5))) - (rd x0 (wrap64 (x5 - 1))))) - (rd x0 (wrap64 (x5 + 1))))) ≤ 0 then ((Bs_Whole.f x5).bind fun bt499 => (some (bt499.1, bt499.2))) else ((Bs_Lowest.f k (wrap64 ((wrap64 ((wrap64 ((wrap64 (2 * (wrap64 ((wrap64 ((wrap64 (2 * (rd x0 x5))) - (rd x0 (wrap64 (x5 - 1))))) - (rd x0 (wrap64 (x5 + 1))))))) * x5)) + (rd x0 (wrap64 (x5 + 1))))) - (rd x0 (wrap64 (x5 - 1))))) (wrap64 (2 * (wrap64 ((wrap64 ((wrap64 (2 * (rd x0 x5))) - (rd x0 (wrap64 (x5 - 1))))) - (rd x0 (wrap64 (x5 + 1)))))))).bind fun bt503 => (some (bt503.1, bt503.2)))) else (none)) else (none)) else (none)) else (none)) else (none)) else (none))
def Rf_Estimate.l0 : Nat → List Int → Int → Int → Option (Int × Int)
  | 0, _, _, _ => none
  | k + 1, x0, x5, x9 => if x9 < (x0.length : Int) then (if 0 ≤ (wrap64 (x9 + 1)) then (if (wrap64 (x9 + 1)) ≤ (x0.length : Int) then ((Rf_Sum.f k (x0.take ((wrap64 (x9 + 1)) : Int).toNat)).bind fun t508 => ((Rf_Sum.f k x0).bind fun t509 => (if (wrap64 (2 * t508)) ≥ t509 then ((Bs_Whole.f x9).bind fun bt510 => (some (bt510.1, bt510.2))) else (Rf_Estimate.l0 k x0 x5 (wrap64 (x9 + 1)))))) else (none)) else (none)) else ((Bs_Whole.f x5).bind fun bt505 => (some (bt505.1, bt505.2)))
end
def Rf_Estimate.f (k : Nat) (l0 : List Int) (a1 : Int) : Option (Int × Int) := (Rf_Sum.f k l0).bind fun t486 => (if t486 = 0 then ((Bs_Whole.f 0).bind fun bt487 => (some (bt487.1, bt487.2))) else ((Rf_Peak.f k l0).bind fun t489 => (if a1 = 1 then ((Rf_Centroid.f k l0 0 (wrap64 ((l0.length : Int) - 1))).bind fun bt490 => (some (bt490.1, bt490.2.1))) else (if a1 = 2 then (if t489 = 0 then (Rf_Estimate.j0 k l0 t489 true) else (Rf_Estimate.j0 k l0 t489 (t489 == (wrap64 ((l0.length : Int) - 1))))) else (if a1 = 3 then (Rf_Estimate.l0 k l0 t489 0) else ((Bs_Whole.f t489).bind fun bt512 => (some (bt512.1, bt512.2))))))))
theorem Rf_Estimate.mono_l : ∀ k, (∀ y0 y1 y2, LeO (Rf_Estimate.j0 k y0 y1 y2) (Rf_Estimate.j0 (k + 1) y0 y1 y2)) ∧ (∀ y0 y1 y2, LeO (Rf_Estimate.l0 k y0 y1 y2) (Rf_Estimate.l0 (k + 1) y0 y1 y2))
  | 0 => ⟨fun _ _ _ r h => by simp [Rf_Estimate.j0] at h, fun _ _ _ r h => by simp [Rf_Estimate.l0] at h⟩
  | k + 1 => by
    obtain ⟨ih0, ih1⟩ := Rf_Estimate.mono_l k
    refine ⟨?_, ?_⟩
    · intro y0 y1 y2
      unfold Rf_Estimate.j0
      repeat' first
      | (with_reducible exact ih0 _ _ _)
      | (with_reducible exact ih1 _ _ _)
      | (with_reducible exact Bs_Lowest.mono _ _ _)
      | (with_reducible exact Rf_Centroid.mono _ _ _ _)
      | (with_reducible exact Rf_Peak.mono _ _)
      | (with_reducible exact Rf_Sum.mono _ _)
      | (with_reducible exact LeO.refl _)
      | (with_reducible exact LeO.none _)
      | (with_reducible refine LeO.ite ?_ ?_)
      | (with_reducible refine LeO.bind ?_ (fun _ => ?_))
      | exact ih0 _ _ _
      | exact ih1 _ _ _
      | exact Bs_Lowest.mono _ _ _
      | exact Rf_Centroid.mono _ _ _ _
      | exact Rf_Peak.mono _ _
      | exact Rf_Sum.mono _ _
      | exact LeO.none _
      | refine LeO.ite ?_ ?_
      | refine LeO.bind ?_ (fun _ => ?_)
    · intro y0 y1 y2
      unfold Rf_Estimate.l0
      repeat' first
      | (with_reducible exact ih0 _ _ _)
      | (with_reducible exact ih1 _ _ _)
      | (with_reducible exact Bs_Lowest.mono _ _ _)
      | (with_reducible exact Rf_Centroid.mono _ _ _ _)
      | (with_reducible exact Rf_Peak.mono _ _)
      | (with_reducible exact Rf_Sum.mono _ _)
      | (with_reducible exact LeO.refl _)
      | (with_reducible exact LeO.none _)
      | (with_reducible refine LeO.ite ?_ ?_)
      | (with_reducible refine LeO.bind ?_ (fun _ => ?_))
      | exact ih0 _ _ _
      | exact ih1 _ _ _
      | exact Bs_Lowest.mono _ _ _
      | exact Rf_Centroid.mono _ _ _ _
      | exact Rf_Peak.mono _ _
      | exact Rf_Sum.mono _ _
      | exact LeO.none _
      | refine LeO.ite ?_ ?_
      | refine LeO.bind ?_ (fun _ => ?_)
theorem Rf_Estimate.mono : ∀ a0 a1 k, LeO (Rf_Estimate.f k a0 a1) (Rf_Estimate.f (k + 1) a0 a1) := by
  intro a0 a1 k
  obtain ⟨ih0, ih1⟩ := Rf_Estimate.mono_l k
  unfold Rf_Estimate.f
  repeat' first
      | (with_reducible exact ih0 _ _ _)
      | (with_reducible exact ih1 _ _ _)
      | (with_reducible exact Bs_Lowest.mono _ _ _)
      | (with_reducible exact Rf_Centroid.mono _ _ _ _)
      | (with_reducible exact Rf_Peak.mono _ _)
      | (with_reducible exact Rf_Sum.mono _ _)
      | (with_reducible exact LeO.refl _)
      | (with_reducible exact LeO.none _)
      | (with_reducible refine LeO.ite ?_ ?_)
      | (with_reducible refine LeO.bind ?_ (fun _ => ?_))
      | exact ih0 _ _ _
      | exact ih1 _ _ _
      | exact Bs_Lowest.mono _ _ _
      | exact Rf_Centroid.mono _ _ _ _
      | exact Rf_Peak.mono _ _
      | exact Rf_Sum.mono _ _
      | exact LeO.none _
      | refine LeO.ite ?_ ?_
      | refine LeO.bind ?_ (fun _ => ?_)
def Rf_Estimate.T11 : Bool × List (List Nat × List Nat) := (true, [([], []), ([], []), ([0, 1], [0, 1]), ([2], [2]), ([3], [3]), ([], []), ([], []), ([6], [6]), ([5, 7], [5, 7]), ([8], [8]), ([4, 9], [4, 9]), ([], []), ([], []), ([12], [12]), ([11, 13], [11, 13]), ([14], [14]), ([10, 15], [10, 15]), ([16, 0, 1, 2, 3, 4, 5, 6, 7, 8, 9, 10, 11, 12, 13, 14, 15, 16], [16])])
def Rf_Estimate.B11 : List Nat := [0, 0, 3, 7, 15, 0, 0, 64, 224, 480, 1023, 0, 0, 4096, 14336, 30720, 65535, 131071]
theorem Rf_Estimate.tab11 : rtab .any (opsOf Tryd.f62 11) = Rf_Estimate.T11 := by kernel_rfl
theorem Rf_Estimate.bits11 : waitsOk Rf_Estimate.T11.2 Rf_Estimate.B11 = true := by kernel_rfl
def Rf_Estimate.T14 : Bool × List (List Nat × List Nat) := (true, [([], []), ([0], [0]), ([], []), ([1, 2], [1, 2]), ([], []), ([], []), ([5], [5]), ([4, 6], [4, 6]), ([7], [7]), ([3, 8], [3, 8]), ([], []), ([], []), ([11], [11]), ([10, 12], [10, 12]), ([13], [13]), ([9, 14], [9, 14]), ([], []), ([16], [16]), ([15, 17], [15, 17]), ([18, 18, 0, 1, 2, 3, 4, 5, 6, 7, 8, 9, 10, 11, 12, 13, 14, 15, 16, 17, 18], [18])])
def Rf_Estimate.B14 : List Nat := [0, 1, 0, 7, 0, 0, 32, 112, 240, 511, 0, 0, 2048, 7168, 15360, 32767, 0, 65536, 262143, 524287]
theorem Rf_Estimate.tab14 : rtab .any (opsOf Tryd.f62 14) = Rf_Estimate.T14 := by kernel_rfl
theorem Rf_Estimate.bits14 : waitsOk Rf_Estimate.T14.2 Rf_Estimate.B14 = true := by kernel_rfl
theorem Rf_Estimate.calls (k : Nat) (A0 : Option Addr) (c0 : Nat) (l0 : List Int) (a1 : Int) (r1 : Int) (r2 : Int) (w : World) (hr0 : Kd.C (Kd.int .i64) w A0 l0.length l0) (hc0 : l0.length ≤ c0) (h : Rf_Estimate.f k l0 a1 = some (r1, r2)) :
    Calls Tryd.prog 62 #[.slice A0 l0.length c0, .int .i64 a1] w fun e w' => e = .returned (.agg #[.int .i64 r1, .int .i64 r2]) ∧ Below w.heap.size w w' := by
  have hu26 := Tryd.underlying26
  have HR0 := m0 hr0
  have HC0 := m0 hc0
  clear hr0 hc0
  have HB := m0 (Below.refl w.heap.size w)
  have H : ((Rf_Sum.f k l0).bind fun t486 => (if t486 = 0 then ((Bs_Whole.f 0).bind fun bt487 => (some (bt487.1, bt487.2))) else ((Rf_Peak.f k l0).bind fun t489 => (if a1 = 1 then ((Rf_Centroid.f k l0 0 (wrap64 ((l0.length : Int) - 1))).bind fun bt490 => (some (bt490.1, bt490.2.1))) else (if a1 = 2 then (if t489 = 0 then (Rf_Estimate.j0 k l0 t489 true) else (Rf_Estimate.j0 k l0 t489 (t489 == (wrap64 ((l0.length : Int) - 1))))) else (if a1 = 3 then (Rf_Estimate.l0 k l0 t489 0) else ((Bs_Whole.f t489).bind fun bt512 => (some (bt512.1, bt512.2))))))))) = some (r1, r2) := h
  clear h
  replace H := ob H
  obtain ⟨t486, A30, H⟩ := H
  (try dsimp only at H)
  have A3 := m0 A30
  clear A30
  by_cases c4 : t486 = 0
  · rw [if_pos c4] at H
    have c4b0 := beq_iff_eq.mpr c4
    have c4b1 := bne_eq_false_iff_eq.mpr c4
    clear c4
    replace H := ob H
    obtain ⟨⟨t487, t488⟩, A50, H⟩ := H
    (try dsimp only at H)
    have A5 := m0 A50
    clear A50
    simp only [Option.some.injEq, Prod.mk.injEq] at H
    obtain ⟨rfl, rfl⟩ := H
    go_enter Tryd.func62, Tryd.ntmps62
    go_wp2_with (first | ((with_reducible refine gate_dst (N := 4) rfl ?_); (try (refine gate_guard (by rfl) ?_; dsimp only)); refine be 4 26 #[.int .i64 0, .int .i64 0] ?_; intro gb485 hg w6 hbox hb; have BK485 := m0 hbox; have GW485 := m0 (bg (n := w.heap.size) hg); have GE485 := m0 (bg (n := w.heap.size) hg); replace HB := sb HB hb; clear hb hbox hg) | ((with_reducible refine gate_callee (f := 39) rfl ?_); refine gl (some 11) Tryd.func39 #[.slice A0 l0.length c0] ?_; (with_reducible refine (Rf_Sum.calls k _ _ l0 t486 _ ?side1 ?side2 A3.out).mono ?_); (case side1 => exact cb HR0 HB); (case side2 => exact HC0.out); rintro e w' ⟨rfl, ⟨nd, rfl⟩⟩; refine ⟨_, rfl, ?_⟩; (try (rw [drewN_self w6]; generalize hq_ : World.drewN w6 _ = w6; replace BK485 := gd BK485 hq_; replace HB := gs HB hq_; clear hq_))) | ((with_reducible refine gate_callee (f := 38) rfl ?_); refine gl (some 13) Tryd.func38 #[.int .i64 0] ?_; (with_reducible refine (Bs_Whole.calls 0 t487 t488 _ A5.out).mono ?_); rintro e w7 ⟨rfl, hb⟩; refine ⟨_, rfl, ?_⟩; replace BK485 := bb BK485 hb; replace HB := sb HB hb; (try clear hb); obtain ⟨hcz8_0, hcz8_1, hfz8_0, hfz8_1⟩ := b2 BK485))
    refine bodyPost_ret (results_cell_row rfl _ _ gb485 26 #[.int .i64 t487, .int .i64 t488] (0, 0) _ rfl (bq BK485.out) Tryd.underlying26 rfl (by kernel_rfl)) rfl ?_
    exact ez
  · rw [if_neg c4] at H
    have c4b0 := beq_eq_false_iff_ne.mpr c4
    have c4b1 := bne_iff_ne.mpr c4
    replace H := ob H
    obtain ⟨t489, A90, H⟩ := H
    (try dsimp only at H)
    have A9 := m0 A90
    clear A90
    by_cases c10 : a1 = 1
    · rw [if_pos c10] at H
      have c10b0 := beq_iff_eq.mpr c10
      have c10b1 := bne_eq_false_iff_eq.mpr c10
      clear c10
      replace H := ob H
      obtain ⟨⟨t490, t491, t492⟩, A110, H⟩ := H
      (try dsimp only at H)
      have A11 := m0 A110
      clear A110
      simp only [Option.some.injEq, Prod.mk.injEq] at H
      obtain ⟨rfl, rfl⟩ := H
      go_enter Tryd.func62, Tryd.ntmps62
      go_wp2_with (first | ((with_reducible refine gate_dst (N := 4) rfl ?_); (try (refine gate_guard (by rfl) ?_; dsimp only)); refine be 4 26 #[.int .i64 0, .int .i64 0] ?_; intro gb485 hg w12 hbox hb; have BK485 := m0 hbox; have GW485 := m0 (bg (n := w.heap.size) hg); have GE485 := m0 (bg (n := w.heap.size) hg); replace HB := sb HB hb; clear hb hbox hg) | ((with_reducible refine gate_callee (f := 39) rfl ?_); refine gl (some 11) Tryd.func39 #[.slice A0 l0.length c0] ?_; (with_reducible refine (Rf_Sum.calls k _ _ l0 t486 _ ?side1 ?side2 A3.out).mono ?_); (case side1 => exact cb HR0 HB); (case side2 => exact HC0.out); rintro e w' ⟨rfl, ⟨nd, rfl⟩⟩; refine ⟨_, rfl, ?_⟩; (try (rw [drewN_self w12]; generalize hq_ : World.drewN w12 _ = w12; replace BK485 := gd BK485 hq_; replace HB := gs HB hq_; clear hq_))) | ((with_reducible refine gate_callee (f := 61) rfl ?_); refine gl (some 15) Tryd.func61 #[.slice A0 l0.length c0] ?_; (with_reducible refine (Rf_Peak.calls k _ _ l0 t489 _ ?side1 ?side2 A9.out).mono ?_); (case side1 => exact cb HR0 HB); (case side2 => exact HC0.out); rintro e w13 ⟨rfl, hb⟩; refine ⟨_, rfl, ?_⟩; replace BK485 := bb BK485 hb; replace HB := sb HB hb; (try clear hb)) | ((with_reducible refine gate_callee (f := 60) rfl ?_); refine gl (some 24) Tryd.func60 #[.slice A0 l0.length c0, .int .i64 0, .int .i64 (wrap64 ((l0.length : Int) - 1))] ?_; (with_reducible refine (Rf_Centroid.calls k _ _ l0 0 (wrap64 ((l0.length : Int) - 1)) t490 t491 t492 _ ?side1 ?side2 A11.out).mono ?_); (case side1 => exact cb HR0 HB); (case side2 => exact HC0.out); rintro e w14 ⟨rfl, hb⟩; refine ⟨_, rfl, ?_⟩; replace BK485 := bb BK485 hb; replace HB := sb HB hb; (try clear hb)) | ((with_reducible refine gate_dst (N := 6) rfl ?_); (try (refine gate_guard (by rfl) ?_; dsimp only)); refine be 6 26 #[.int .i64 0, .int .i64 0] ?_; intro gb493 hg w15 hbox hb; have BK493 := m0 hbox; have GW493 := m0 (bg (n := w.heap.size) hg); have GE493 := m0 (bg (n := w.heap.size) hg); replace HB := sb HB hb; have NB485_493 := nl BK485 hg; have NB493_485 := ng (nl BK485 hg); replace BK485 := bb BK485 hb; clear hb hbox hg; have hnb16 := NB493_485.out; have hnc16 := NB485_493.out; obtain ⟨hcz17_0, hcz17_1, hfz17_0, hfz17_1⟩ := b2 BK493; obtain ⟨hcz18_0, hcz18_1, hfz18_0, hfz18_1⟩ := b2 BK485))
      refine bodyPost_ret (results_cell_row rfl _ _ gb485 26 #[.int .i64 t490, .int .i64 t491] (0, 0) _ rfl (by (with_reducible repeat (first | refine blk_drewN ?_ _ | refine blk_drew ?_ | refine blk_alloc ?_ _)); refine blk_put (cs := #[.int .i64 t490, .int .i64 0]) ?_ 1 _ rfl; (with_reducible repeat (first | refine blk_drewN ?_ _ | refine blk_drew ?_ | refine blk_alloc ?_ _)); refine blk_put (cs := #[.int .i64 0, .int .i64 0]) ?_ 0 _ rfl; (with_reducible repeat (first | refine blk_drewN ?_ _ | refine blk_drew ?_ | refine blk_alloc ?_ _)); refine blk_far ?_ NB485_493.out _; (with_reducible repeat (first | refine blk_drewN ?_ _ | refine blk_drew ?_ | refine blk_alloc ?_ _)); refine blk_far ?_ NB485_493.out _; (with_reducible repeat (first | refine blk_drewN ?_ _ | refine blk_drew ?_ | refine blk_alloc ?_ _)); exact BK485.out) Tryd.underlying26 rfl (by kernel_rfl)) rfl ?_
      exact ez
    · rw [if_neg c10] at H
      have c10b0 := beq_eq_false_iff_ne.mpr c10
      have c10b1 := bne_iff_ne.mpr c10
      by_cases c19 : a1 = 2
      · rw [if_pos c19] at H
        have c19b0 := beq_iff_eq.mpr c19
        have c19b1 := bne_eq_false_iff_eq.mpr c19
        clear c19
        have HC20 := m0 H
        clear H
        go_enter Tryd.func62, Tryd.ntmps62
        go_upto_region 9 with (first | ((with_reducible refine gate_dst (N := 4) rfl ?_); (try (refine gate_guard (by rfl) ?_; dsimp only)); refine be 4 26 #[.int .i64 0, .int .i64 0] ?_; intro gb485 hg w21 hbox hb; have BK485 := m0 hbox; have GW485 := m0 (bg (n := w.heap.size) hg); have GE485 := m0 (bg (n := w.heap.size) hg); replace HB := sb HB hb; clear hb hbox hg) | ((with_reducible refine gate_callee (f := 39) rfl ?_); refine gl (some 11) Tryd.func39 #[.slice A0 l0.length c0] ?_; (with_reducible refine (Rf_Sum.calls k _ _ l0 t486 _ ?side1 ?side2 A3.out).mono ?_); (case side1 => exact cb HR0 HB); (case side2 => exact HC0.out); rintro e w' ⟨rfl, ⟨nd, rfl⟩⟩; refine ⟨_, rfl, ?_⟩) | ((with_reducible refine gate_callee (f := 61) rfl ?_); refine gl (some 15) Tryd.func61 #[.slice A0 l0.length c0] ?_; (with_reducible refine (Rf_Peak.calls k _ _ l0 t489 _ ?side1 ?side2 A9.out).mono ?_); (case side1 => repeat (first | exact (Kd.C_below HR0.out bz) | (with_reducible refine Kd.C_alloc ?_ _) | (with_reducible refine Kd.C_drewN ?_ _) | (with_reducible refine Kd.C_drew ?_))); (case side2 => exact HC0.out); rintro e w22 ⟨rfl, hb⟩; refine ⟨_, rfl, ?_⟩; replace BK485 := bb BK485 hb; replace HB := sb HB hb; (try clear hb)))
        (try simp only [Act.put, List.setIfInBounds_toArray, List.set_cons_zero, List.set_cons_succ])
        go_cut [38] (fun v38 wc => ∃ (kq : Nat) (x38_19 : Bool), v38 = .bool x38_19 ∧ Aside0 (Rf_Estimate.j0 kq l0 t489 x38_19 = some (r1, r2)) ∧ Aside0 (kq ≤ k) ∧ Aside0 (wc.heap[gb485]? = some (.cells #[.int .i64 0, .int .i64 0] 26 (0, 0))) ∧ Aside0 (Below w.heap.size w wc))
        case first =>
          have H := HC20.out
          clear HC20
          by_cases c23 : t489 = 0
          · rw [if_pos c23] at H
            have c23b0 := beq_iff_eq.mpr c23
            have c23b1 := bne_eq_false_iff_eq.mpr c23
            clear c23
            (first | rw [c23b0] | (simp only [i64_w, i32_w]; rw [c23b0]) | skip)
            have H' := m0 H
            clear H
            go_wp2
            go_meet
            case rel => exact ⟨_, (true), (by first | rfl | (simp; done) | (simp [*]; done)), H', ⟨by first | omega | exact Nat.le_refl _⟩, ⟨bk BK485.out⟩, ⟨bz⟩⟩
          · rw [if_neg c23] at H
            have c23b0 := beq_eq_false_iff_ne.mpr c23
            have c23b1 := bne_iff_ne.mpr c23
            (first | rw [c23b0] | (simp only [i64_w, i32_w]; rw [c23b0]) | skip)
            have H' := m0 H
            clear H
            go_wp2
            go_meet
            case rel => exact ⟨_, ((t489 == (wrap64 ((l0.length : Int) - 1)))), (by first | rfl | (simp; done) | (simp [*]; done)), H', ⟨by first | omega | exact Nat.le_refl _⟩, ⟨bk BK485.out⟩, ⟨bz⟩⟩
        case rest =>
          clear HC20
          try clear c1
          try clear c2
          try clear p2
          try clear c3
          try clear c4
          try clear c4b0
          try clear c4b1
          try clear c6
          try clear p6
          try clear c10
          try clear c10b0
          try clear c10b1
          try clear c16
          try clear c19
          try clear c19b0
          try clear c19b1
          try clear c23
          try clear c23b0
          try clear c23b1
          try clear hcz17_0
          try clear hcz17_1
          try clear hcz18_0
          try clear hcz18_1
          try clear hcz8_0
          try clear hcz8_1
          try clear hfz17_0
          try clear hfz17_1
          try clear hfz18_0
          try clear hfz18_1
          try clear hfz8_0
          try clear hfz8_1
          obtain ⟨kq, x38_19, rfl, HA, HJ19, BK485, HB⟩ := hcut
          cases kq with
          | zero => exact absurd HA.out (by simp [Rf_Estimate.j0])
          | succ kj19 =>
            have H := HA.out
            clear HA
            simp only [Rf_Estimate.j0] at H
            by_cases c24 : x38_19 = true
            · subst c24
              rw [if_pos rfl] at H
              replace H := ob H
              obtain ⟨⟨t494, t495⟩, A250, H⟩ := H
              (try dsimp only at H)
              have A25 := m0 A250
              clear A250
              simp only [Option.some.injEq, Prod.mk.injEq] at H
              obtain ⟨rfl, rfl⟩ := H
              go_wp2_with (first | ((with_reducible refine gate_callee (f := 38) rfl ?_); refine gl (some 40) Tryd.func38 #[.int .i64 t489] ?_; (with_reducible refine (Bs_Whole.calls t489 t494 t495 _ A25.out).mono ?_); rintro e w26 ⟨rfl, hb⟩; refine ⟨_, rfl, ?_⟩; replace BK485 := bb BK485 hb; replace HB := sb HB hb; (try clear hb); obtain ⟨_, _, _, _⟩ := b2 BK485))
              refine bodyPost_ret (results_cell_row rfl _ _ gb485 26 #[.int .i64 t494, .int .i64 t495] (0, 0) _ rfl (bq BK485.out) Tryd.underlying26 rfl (by kernel_rfl)) rfl ?_
              exact ez
            · replace c24 := Bool.eq_false_iff.mpr c24
              subst c24
              rw [if_neg (show ¬ (false = true) by decide)] at H
              by_cases c28 : 0 ≤ t489
              · rw [if_pos c28] at H
                have c28b0 := decide_eq_true c28
                clear c28
                by_cases c29 : t489 < (l0.length : Int)
                · rw [if_pos c29] at H
                  have c29b0 := decide_eq_true c29
                  clear c29
                  obtain ⟨ji30, hji30⟩ : ∃ j_ : Int, (wrap64 (t489 - 1)) = j_ := ⟨_, rfl⟩
                  replace H : (if 0 ≤ (ji30) then (if (ji30) < (l0.length : Int) then (if 0 ≤ (wrap64 (t489 + 1)) then (if (wrap64 (t489 + 1)) < (l0.length : Int) then (if (wrap64 ((wrap64 ((wrap64 (2 * (rd l0 t489))) - (rd l0 (ji30)))) - (rd l0 (wrap64 (t489 + 1))))) ≤ 0 then ((Bs_Whole.f t489).bind fun bt499 => (some (bt499.1, bt499.2))) else ((Bs_Lowest.f kj19 (wrap64 ((wrap64 ((wrap64 ((wrap64 (2 * (wrap64 ((wrap64 ((wrap64 (2 * (rd l0 t489))) - (rd l0 (ji30)))) - (rd l0 (wrap64 (t489 + 1))))))) * t489)) + (rd l0 (wrap64 (t489 + 1))))) - (rd l0 (ji30)))) (wrap64 (2 * (wrap64 ((wrap64 ((wrap64 (2 * (rd l0 t489))) - (rd l0 (ji30)))) - (rd l0 (wrap64 (t489 + 1)))))))).bind fun bt503 => (some (bt503.1, bt503.2)))) else (none)) else (none)) else (none)) else (none)) = some (r1, r2) := by first | (rw [hji30] at H; exact H) | (simp only [hji30] at H ⊢; exact H)
                  have hji30w : (IntKind.i64.wrap (t489 - 1)) = ji30 := (i64_w _).trans hji30
                  by_cases c31 : 0 ≤ (ji30)
                  · rw [if_pos c31] at H
                    have c31b0 := decide_eq_true c31
                    clear c31
                    by_cases c32 : (ji30) < (l0.length : Int)
                    · rw [if_pos c32] at H
                      have c32b0 := decide_eq_true c32
                      clear c32
                      obtain ⟨ji33, hji33⟩ : ∃ j_ : Int, (wrap64 (t489 + 1)) = j_ := ⟨_, rfl⟩
                      replace H : (if 0 ≤ (ji33) then (if (ji33) < (l0.length : Int) then (if (wrap64 ((wrap64 ((wrap64 (2 * (rd l0 t489))) - (rd l0 (ji30)))) - (rd l0 (ji33)))) ≤ 0 then ((Bs_Whole.f t489).bind fun bt499 => (some (bt499.1, bt499.2))) else ((Bs_Lowest.f kj19 (wrap64 ((wrap64 ((wrap64 ((wrap64 (2 * (wrap64 ((wrap64 ((wrap64 (2 * (rd l0 t489))) - (rd l0 (ji30)))) - (rd l0 (ji33)))))) * t489)) + (rd l0 (ji33)))) - (rd l0 (ji30)))) (wrap64 (2 * (wrap64 ((wrap64 ((wrap64 (2 * (rd l0 t489))) - (rd l0 (ji30)))) - (rd l0 (ji33))))))).bind fun bt503 => (some (bt503.1, bt503.2)))) else (none)) else (none)) = some (r1, r2) := by first | (rw [hji33] at H; exact H) | (simp only [hji33] at H ⊢; exact H)
                      have hji33w : (IntKind.i64.wrap (t489 + 1)) = ji33 := (i64_w _).trans hji33
                      by_cases c34 : 0 ≤ (ji33)
                      · rw [if_pos c34] at H
                        have c34b0 := decide_eq_true c34
                        clear c34
                        by_cases c35 : (ji33) < (l0.length : Int)
                        · rw [if_pos c35] at H
                          have c35b0 := decide_eq_true c35
                          clear c35
                          by_cases c36 : (wrap64 ((wrap64 ((wrap64 (2 * (rd l0 t489))) - (rd l0 (ji30)))) - (rd l0 (ji33)))) ≤ 0
                          · rw [if_pos c36] at H
                            have c36b0 := decide_eq_true c36
                            clear c36
                            replace H := ob H
                            obtain ⟨⟨t499, t500⟩, A370, H⟩ := H
                            (try dsimp only at H)
                            have A37 := m0 A370
                            clear A370
                            simp only [Option.some.injEq, Prod.mk.injEq] at H
                            obtain ⟨rfl, rfl⟩ := H
                            try go_wp2
                            replace BK485 := bd BK485; replace HB := sd HB
                            have p496 : 0 ≤ (t489 : Int) := of_decide_eq_true (by first | (with_reducible assumption) | assumption)
                            have q496 : t489 < (l0.length : Int) := of_decide_eq_true (by first | (with_reducible assumption) | assumption)
                            obtain ⟨ad496, e496, hx496_0⟩ := Kd.at_int HR0.out t489 p496 q496
                            have hw496_0 := hx496_0
                            cases e496
                            replace hx496_0 := (HB.out.cell (World.block_lt_of_cell? w _ hx496_0)).trans hx496_0
                            replace p496 := eq_true p496
                            replace q496 := eq_true q496
                            have p497 : 0 ≤ ((ji30) : Int) := of_decide_eq_true (by first | (with_reducible assumption) | assumption)
                            have q497 : (ji30) < (l0.length : Int) := of_decide_eq_true (by first | (with_reducible assumption) | assumption)
                            obtain ⟨ad497, e497, hx497_0⟩ := Kd.at_int HR0.out (ji30) p497 q497
                            have hw497_0 := hx497_0
                            obtain rfl : ad496 = ad497 := (by injection e497)
                            replace hx497_0 := (HB.out.cell (World.block_lt_of_cell? w _ hx497_0)).trans hx497_0
                            replace p497 := eq_true p497
                            replace q497 := eq_true q497
                            have p498 : 0 ≤ ((ji33) : Int) := of_decide_eq_true (by first | (with_reducible assumption) | assumption)
                            have q498 : (ji33) < (l0.length : Int) := of_decide_eq_true (by first | (with_reducible assumption) | assumption)
                            obtain ⟨ad498, e498, hx498_0⟩ := Kd.at_int HR0.out (ji33) p498 q498
                            have hw498_0 := hx498_0
                            obtain rfl : ad496 = ad498 := (by injection e498)
                            replace hx498_0 := (HB.out.cell (World.block_lt_of_cell? w _ hx498_0)).trans hx498_0
                            replace p498 := eq_true p498
                            replace q498 := eq_true q498
                            refine start_ (n := 18) (S := fun w' => w'.cell? (ad496.add (t489).toNat) = some (.int .i64 (rd l0 t489)) ∧ w'.cell? (ad496.add ((ji30)).toNat) = some (.int .i64 (rd l0 (ji30))) ∧ w'.cell? (ad496.add ((ji33)).toNat) = some (.int .i64 (rd l0 (ji33)))) (ds := []) #[false, false, false, false, false, false, false, false, false, false, false, false, false, false, false, false, false, false] (by kernel_rfl) rfl rfl ⟨((HB.out.cell (World.block_lt_of_cell? w _ hw496_0)).trans hw496_0), ((HB.out.cell (World.block_lt_of_cell? w _ hw497_0)).trans hw497_0), ((HB.out.cell (World.block_lt_of_cell? w _ hw498_0)).trans hw498_0)⟩ (fun hHeld => ?_); refine with_tabW Rf_Estimate.tab11 Rf_Estimate.bits11 (fun HT_ HW_ => ?_)
                            generalize wc.drew = w38 at BK485 HB hx496_0 hx497_0 hx498_0 hHeld ⊢
                            refine pureZ (i := 0) (N := some 41) (bs 18 1) HT_ ?_
                            refine pureZ (i := 1) (N := some 42) (bs 18 3) HT_ ?_
                            refine pureZ (i := 2) (N := some 43) (bs 18 7) HT_ ?_
                            refine pureZ (i := 5) (N := some 46) (bs 18 39) HT_ ?_
                            refine pureZ (i := 6) (N := some 47) (bs 18 103) HT_ ?_
                            refine pureZ (i := 7) (N := some 48) (bs 18 231) HT_ ?_
                            refine pureZ (i := 8) (N := some 49) (bs 18 487) HT_ ?_
                            refine pureZ (i := 11) (N := some 52) (bs 18 2535) HT_ ?_
                            refine pureZ (i := 12) (N := some 53) (bs 18 6631) HT_ ?_
                            refine pureZ (i := 13) (N := some 54) (bs 18 14823) HT_ ?_
                            refine pureZ (i := 14) (N := some 55) (bs 18 31207) HT_ ?_
                            refine takeZ 3 (some 44) (bs 18 31215) (take_ofW HT_.out HW_.out (by kernel_rfl)) hHeld ?_
                            refine pureZ (i := 4) (N := some 45) (bs 18 31231) HT_ ?_
                            refine takeZ 9 (some 50) (bs 18 31743) (take_ofW HT_.out HW_.out (by kernel_rfl)) hHeld ?_
                            refine pureZ (i := 10) (N := some 51) (bs 18 32767) HT_ ?_
                            refine takeZ 15 (some 56) (bs 18 65535) (take_ofW HT_.out HW_.out (by kernel_rfl)) hHeld ?_
                            refine pureZ (i := 16) (N := some 57) (bs 18 131071) HT_ ?_
                            refine pureZ (i := 17) (N := some 8) (bs 18 262143) HT_ ?_
                            refine done_ (done_of HT_.out (by kernel_rfl)) ?_
                            try go_wp2_with (first | ((with_reducible refine gate_callee (f := 38) rfl ?_); refine gl (some 61) Tryd.func38 #[.int .i64 t489] ?_; (with_reducible refine (Bs_Whole.calls t489 t499 t500 _ A37.out).mono ?_); rintro e w39 ⟨rfl, hb⟩; refine ⟨_, rfl, ?_⟩; replace BK485 := bb BK485 hb; replace HB := sb HB hb; (try clear hb); obtain ⟨hcz40_0, hcz40_1, hfz40_0, hfz40_1⟩ := b2 BK485))
                            refine bodyPost_ret (results_cell_row rfl _ _ gb485 26 #[.int .i64 t499, .int .i64 t500] (0, 0) _ rfl (bq BK485.out) Tryd.underlying26 rfl (by kernel_rfl)) rfl ?_
                            exact ⟨by first | rfl | (simp [errW_none, errW_some] <;> rfl) | (simp only [← hji30, ← hji33]; first | rfl | (simp [errW_none, errW_some] <;> rfl)) | (simp [*, errW_none, errW_some] <;> rfl), by repeat (first | (with_reducible first | exact HB.out | apply below_alloc | apply pw_below_drewN | apply below_drew1 | refine below_set ?_ GE485.out) | exact HB.out)⟩
                          · rw [if_neg c36] at H
                            have c36b0 := decide_eq_false c36
                            clear c36
                            replace H := ob H
                            obtain ⟨⟨t503, t504⟩, A410, H⟩ := H
                            (try dsimp only at H)
                            have A41 := m0 A410
                            clear A410
                            simp only [Option.some.injEq, Prod.mk.injEq] at H
                            obtain ⟨rfl, rfl⟩ := H
                            try go_wp2
                            replace BK485 := bd BK485; replace HB := sd HB
                            have p496 : 0 ≤ (t489 : Int) := of_decide_eq_true (by first | (with_reducible assumption) | assumption)
                            have q496 : t489 < (l0.length : Int) := of_decide_eq_true (by first | (with_reducible assumption) | assumption)
                            obtain ⟨ad496, e496, hx496_0⟩ := Kd.at_int HR0.out t489 p496 q496
                            have hw496_0 := hx496_0
                            cases e496
                            replace hx496_0 := (HB.out.cell (World.block_lt_of_cell? w _ hx496_0)).trans hx496_0
                            replace p496 := eq_true p496
                            replace q496 := eq_true q496
                            have p497 : 0 ≤ ((ji30) : Int) := of_decide_eq_true (by first | (with_reducible assumption) | assumption)
                            have q497 : (ji30) < (l0.length : Int) := of_decide_eq_true (by first | (with_reducible assumption) | assumption)
                            obtain ⟨ad497, e497, hx497_0⟩ := Kd.at_int HR0.out (ji30) p497 q497
                            have hw497_0 := hx497_0
                            obtain rfl : ad496 = ad497 := (by injection e497)
                            replace hx497_0 := (HB.out.cell (World.block_lt_of_cell? w _ hx497_0)).trans hx497_0
                            replace p497 := eq_true p497
                            replace q497 := eq_true q497
                            have p498 : 0 ≤ ((ji33) : Int) := of_decide_eq_true (by first | (with_reducible assumption) | assumption)
                            have q498 : (ji33) < (l0.length : Int) := of_decide_eq_true (by first | (with_reducible assumption) | assumption)
                            obtain ⟨ad498, e498, hx498_0⟩ := Kd.at_int HR0.out (ji33) p498 q498
                            have hw498_0 := hx498_0
                            obtain rfl : ad496 = ad498 := (by injection e498)
                            replace hx498_0 := (HB.out.cell (World.block_lt_of_cell? w _ hx498_0)).trans hx498_0
                            replace p498 := eq_true p498
                            replace q498 := eq_true q498
                            refine start_ (n := 18) (S := fun w' => w'.cell? (ad496.add (t489).toNat) = some (.int .i64 (rd l0 t489)) ∧ w'.cell? (ad496.add ((ji30)).toNat) = some (.int .i64 (rd l0 (ji30))) ∧ w'.cell? (ad496.add ((ji33)).toNat) = some (.int .i64 (rd l0 (ji33)))) (ds := []) #[false, false, false, false, false, false, false, false, false, false, false, false, false, false, false, false, false, false] (by kernel_rfl) rfl rfl ⟨((HB.out.cell (World.block_lt_of_cell? w _ hw496_0)).trans hw496_0), ((HB.out.cell (World.block_lt_of_cell? w _ hw497_0)).trans hw497_0), ((HB.out.cell (World.block_lt_of_cell? w _ hw498_0)).trans hw498_0)⟩ (fun hHeld => ?_); refine with_tabW Rf_Estimate.tab11 Rf_Estimate.bits11 (fun HT_ HW_ => ?_)
                            generalize wc.drew = w42 at BK485 HB hx496_0 hx497_0 hx498_0 hHeld ⊢
                            refine pureZ (i := 0) (N := some 41) (bs 18 1) HT_ ?_
                            refine pureZ (i := 1) (N := some 42) (bs 18 3) HT_ ?_
                            refine pureZ (i := 2) (N := some 43) (bs 18 7) HT_ ?_
                            refine pureZ (i := 5) (N := some 46) (bs 18 39) HT_ ?_
                            refine pureZ (i := 6) (N := some 47) (bs 18 103) HT_ ?_
                            refine pureZ (i := 7) (N := some 48) (bs 18 231) HT_ ?_
                            refine pureZ (i := 8) (N := some 49) (bs 18 487) HT_ ?_
                            refine pureZ (i := 11) (N := some 52) (bs 18 2535) HT_ ?_
                            refine pureZ (i := 12) (N := some 53) (bs 18 6631) HT_ ?_
                            refine pureZ (i := 13) (N := some 54) (bs 18 14823) HT_ ?_
                            refine pureZ (i := 14) (N := some 55) (bs 18 31207) HT_ ?_
                            refine takeZ 3 (some 44) (bs 18 31215) (take_ofW HT_.out HW_.out (by kernel_rfl)) hHeld ?_
                            refine pureZ (i := 4) (N := some 45) (bs 18 31231) HT_ ?_
                            refine takeZ 9 (some 50) (bs 18 31743) (take_ofW HT_.out HW_.out (by kernel_rfl)) hHeld ?_
                            refine pureZ (i := 10) (N := some 51) (bs 18 32767) HT_ ?_
                            refine takeZ 15 (some 56) (bs 18 65535) (take_ofW HT_.out HW_.out (by kernel_rfl)) hHeld ?_
                            refine pureZ (i := 16) (N := some 57) (bs 18 131071) HT_ ?_
                            refine pureZ (i := 17) (N := some 8) (bs 18 262143) HT_ ?_
                            refine done_ (done_of HT_.out (by kernel_rfl)) ?_
                            try go_wp2
                            replace BK485 := bd BK485; replace HB := sd HB
                            have p501 : 0 ≤ ((ji33) : Int) := of_decide_eq_true (by first | (with_reducible assumption) | assumption)
                            have q501 : (ji33) < (l0.length : Int) := of_decide_eq_true (by first | (with_reducible assumption) | assumption)
                            obtain ⟨ad501, e501, hx501_0⟩ := Kd.at_int HR0.out (ji33) p501 q501
                            have hw501_0 := hx501_0
                            obtain rfl : ad496 = ad501 := (by injection e501)
                            replace hx501_0 := (HB.out.cell (World.block_lt_of_cell? w _ hx501_0)).trans hx501_0
                            replace p501 := eq_true p501
                            replace q501 := eq_true q501
                            have p502 : 0 ≤ ((ji30) : Int) := of_decide_eq_true (by first | (with_reducible assumption) | assumption)
                            have q502 : (ji30) < (l0.length : Int) := of_decide_eq_true (by first | (with_reducible assumption) | assumption)
                            obtain ⟨ad502, e502, hx502_0⟩ := Kd.at_int HR0.out (ji30) p502 q502
                            have hw502_0 := hx502_0
                            obtain rfl : ad496 = ad502 := (by injection e502)
                            replace hx502_0 := (HB.out.cell (World.block_lt_of_cell? w _ hx502_0)).trans hx502_0
                            replace p502 := eq_true p502
                            replace q502 := eq_true q502
                            refine start_ (n := 20) (S := fun w' => w'.cell? (ad496.add ((ji33)).toNat) = some (.int .i64 (rd l0 (ji33))) ∧ w'.cell? (ad496.add ((ji30)).toNat) = some (.int .i64 (rd l0 (ji30)))) (ds := []) #[false, false, false, false, false, false, false, false, false, false, false, false, false, false, false, false, false, false, false, false] (by kernel_rfl) rfl rfl ⟨((HB.out.cell (World.block_lt_of_cell? w _ hw501_0)).trans hw501_0), ((HB.out.cell (World.block_lt_of_cell? w _ hw502_0)).trans hw502_0)⟩ (fun hHeld => ?_); refine with_tabW Rf_Estimate.tab14 Rf_Estimate.bits14 (fun HT_ HW_ => ?_)
                            generalize w42.drew = w43 at BK485 HB hx501_0 hx502_0 hHeld ⊢
                            refine pureZ (i := 0) (N := some 62) (bs 20 1) HT_ ?_
                            refine pureZ (i := 1) (N := some 63) (bs 20 3) HT_ ?_
                            refine pureZ (i := 2) (N := some 64) (bs 20 7) HT_ ?_
                            refine pureZ (i := 3) (N := some 65) (bs 20 15) HT_ ?_
                            refine pureZ (i := 4) (N := some 66) (bs 20 31) HT_ ?_
                            refine pureZ (i := 5) (N := some 67) (bs 20 63) HT_ ?_
                            refine pureZ (i := 6) (N := some 68) (bs 20 127) HT_ ?_
                            refine pureZ (i := 7) (N := some 69) (bs 20 255) HT_ ?_
                            refine pureZ (i := 10) (N := some 72) (bs 20 1279) HT_ ?_
                            refine pureZ (i := 11) (N := some 73) (bs 20 3327) HT_ ?_
                            refine pureZ (i := 12) (N := some 74) (bs 20 7423) HT_ ?_
                            refine pureZ (i := 13) (N := some 75) (bs 20 15615) HT_ ?_
                            refine pureZ (i := 16) (N := some 78) (bs 20 81151) HT_ ?_
                            refine pureZ (i := 17) (N := some 79) (bs 20 212223) HT_ ?_
                            refine takeZ 8 (some 70) (bs 20 212479) (take_ofW HT_.out HW_.out (by kernel_rfl)) hHeld ?_
                            refine pureZ (i := 9) (N := some 71) (bs 20 212991) HT_ ?_
                            refine takeZ 14 (some 76) (bs 20 229375) (take_ofW HT_.out HW_.out (by kernel_rfl)) hHeld ?_
                            refine pureZ (i := 15) (N := some 77) (bs 20 262143) HT_ ?_
                            refine oneZ 18 (some 80) (bs 20 524287) (one_of HT_.out (by kernel_rfl)) fun K hK => ?_
                            refine goes_ Tryd.func41 (by kernel_rfl) rfl #[.int .i64 (wrap64 ((wrap64 ((wrap64 ((wrap64 (2 * (wrap64 ((wrap64 ((wrap64 (2 * (rd l0 t489))) - (rd l0 (ji30)))) - (rd l0 (ji33)))))) * t489)) + (rd l0 (ji33)))) - (rd l0 (ji30)))), .int .i64 (wrap64 (2 * (wrap64 ((wrap64 ((wrap64 (2 * (rd l0 t489))) - (rd l0 (ji30)))) - (rd l0 (ji33))))))] (by rfl) rfl rfl (by (try simp only [List.map_toArray, List.map_cons, List.map_nil]); first | done | (simp only [hji30, hji33]; rfl) | rfl | (simp only [List.length_drop, List.length_take]; rfl)) ?_
                            with_reducible refine (Bs_Lowest.calls kj19 (wrap64 ((wrap64 ((wrap64 ((wrap64 (2 * (wrap64 ((wrap64 ((wrap64 (2 * (rd l0 t489))) - (rd l0 (ji30)))) - (rd l0 (ji33)))))) * t489)) + (rd l0 (ji33)))) - (rd l0 (ji30)))) (wrap64 (2 * (wrap64 ((wrap64 ((wrap64 (2 * (rd l0 t489))) - (rd l0 (ji30)))) - (rd l0 (ji33)))))) t503 t504 _ A41.out).mono ?_
                            rintro e w44 ⟨rfl, hb⟩
                            refine ⟨_, rfl, ?_⟩
                            replace BK485 := bb BK485 hb; replace HB := sb HB hb
                            (try clear hb)
                            refine hK.out _ _ ⟨((HB.out.cell (World.block_lt_of_cell? w _ hw501_0)).trans hw501_0), ((HB.out.cell (World.block_lt_of_cell? w _ hw502_0)).trans hw502_0)⟩ (fun hHeld => ?_)
                            clear hK K
                            refine norm_ (a' := ?_) ?_ ?_
                            rotate_left
                            · show Act.put _ (some 80) _ = _
                              exact pz
                            refine oneZ 19 (none) (bs 20 1048575) (one_of HT_.out (by kernel_rfl)) fun K hK => ?_
                            have hs45 : w44.cell? ⟨gb485, 0, none⟩ = some (.int .i64 0) := (blk_cell BK485.out 0).trans rfl
                            have hfs45 := blk_frozen BK485.out 0
                            have hs46 : w44.cell? ⟨gb485, 1, none⟩ = some (.int .i64 0) := (blk_cell BK485.out 1).trans rfl
                            have hfs46 := blk_frozen BK485.out 1
                            refine skip_ (w1 := ?_) (by rfl) rfl ?_ ?_
                            rotate_left
                            · go_simp
                              rfl
                            refine hK.out _ _ ⟨((cell_far (p := ⟨gb485, _, none⟩) (by first | exact Nat.ne_of_lt (Nat.lt_of_lt_of_le (by have := World.block_lt_of_cell? _ _ hw501_0; first | rwa [add_block] at this | exact this) GW485.out) | (rw [add_block]; exact Nat.ne_of_lt (Nat.lt_of_lt_of_le (by have := World.block_lt_of_cell? _ _ hw501_0; first | rwa [add_block] at this | exact this) GW485.out)) | (show (Addr.add _ _).block ≠ _; rw [add_block]; exact Nat.ne_of_lt (Nat.lt_of_lt_of_le (by have := World.block_lt_of_cell? _ _ hw501_0; first | rwa [add_block] at this | exact this) GW485.out)) | (dsimp only; exact Nat.ne_of_lt (Nat.lt_of_lt_of_le (by have := World.block_lt_of_cell? _ _ hw501_0; first | rwa [add_block] at this | exact this) GW485.out))) _).trans (((cell_far (p := ⟨gb485, _, none⟩) (by first | exact Nat.ne_of_lt (Nat.lt_of_lt_of_le (by have := World.block_lt_of_cell? _ _ hw501_0; first | rwa [add_block] at this | exact this) GW485.out) | (rw [add_block]; exact Nat.ne_of_lt (Nat.lt_of_lt_of_le (by have := World.block_lt_of_cell? _ _ hw501_0; first | rwa [add_block] at this | exact this) GW485.out)) | (show (Addr.add _ _).block ≠ _; rw [add_block]; exact Nat.ne_of_lt (Nat.lt_of_lt_of_le (by have := World.block_lt_of_cell? _ _ hw501_0; first | rwa [add_block] at this | exact this) GW485.out)) | (dsimp only; exact Nat.ne_of_lt (Nat.lt_of_lt_of_le (by have := World.block_lt_of_cell? _ _ hw501_0; first | rwa [add_block] at this | exact this) GW485.out))) _).trans (hHeld.1)))), ((cell_far (p := ⟨gb485, _, none⟩) (by first | exact Nat.ne_of_lt (Nat.lt_of_lt_of_le (by have := World.block_lt_of_cell? _ _ hw502_0; first | rwa [add_block] at this | exact this) GW485.out) | (rw [add_block]; exact Nat.ne_of_lt (Nat.lt_of_lt_of_le (by have := World.block_lt_of_cell? _ _ hw502_0; first | rwa [add_block] at this | exact this) GW485.out)) | (show (Addr.add _ _).block ≠ _; rw [add_block]; exact Nat.ne_of_lt (Nat.lt_of_lt_of_le (by have := World.block_lt_of_cell? _ _ hw502_0; first | rwa [add_block] at this | exact this) GW485.out)) | (dsimp only; exact Nat.ne_of_lt (Nat.lt_of_lt_of_le (by have := World.block_lt_of_cell? _ _ hw502_0; first | rwa [add_block] at this | exact this) GW485.out))) _).trans (((cell_far (p := ⟨gb485, _, none⟩) (by first | exact Nat.ne_of_lt (Nat.lt_of_lt_of_le (by have := World.block_lt_of_cell? _ _ hw502_0; first | rwa [add_block] at this | exact this) GW485.out) | (rw [add_block]; exact Nat.ne_of_lt (Nat.lt_of_lt_of_le (by have := World.block_lt_of_cell? _ _ hw502_0; first | rwa [add_block] at this | exact this) GW485.out)) | (show (Addr.add _ _).block ≠ _; rw [add_block]; exact Nat.ne_of_lt (Nat.lt_of_lt_of_le (by have := World.block_lt_of_cell? _ _ hw502_0; first | rwa [add_block] at this | exact this) GW485.out)) | (dsimp only; exact Nat.ne_of_lt (Nat.lt_of_lt_of_le (by have := World.block_lt_of_cell? _ _ hw502_0; first | rwa [add_block] at this | exact this) GW485.out))) _).trans (hHeld.2))))⟩ (fun hHeld => ?_)
                            clear hK K
                            refine done_ (done_of HT_.out (by kernel_rfl)) ?_
                            try go_wp2
                            refine bodyPost_ret (results_cell_row rfl _ _ gb485 26 #[.int .i64 t503, .int .i64 t504] (0, 0) _ rfl (bq BK485.out) Tryd.underlying26 rfl (by kernel_rfl)) rfl ?_
                            exact ⟨by first | rfl | (simp [errW_none, errW_some] <;> rfl) | (simp only [← hji30, ← hji33]; first | rfl | (simp [errW_none, errW_some] <;> rfl)) | (simp [*, errW_none, errW_some] <;> rfl), by repeat (first | (with_reducible first | exact HB.out | apply below_alloc | apply pw_below_drewN | apply below_drew1 | refine below_set ?_ GE485.out) | exact HB.out)⟩
                        · rw [if_neg c35] at H
                          exact absurd H (by simp)
                      · rw [if_neg c34] at H
                        exact absurd H (by simp)
                    · rw [if_neg c32] at H
                      exact absurd H (by simp)
                  · rw [if_neg c31] at H
                    exact absurd H (by simp)
                · rw [if_neg c29] at H
                  exact absurd H (by simp)
              · rw [if_neg c28] at H
                exact absurd H (by simp)
      · rw [if_neg c19] at H
        have c19b0 := beq_eq_false_iff_ne.mpr c19
        have c19b1 := bne_iff_ne.mpr c19
        by_cases c47 : a1 = 3
        · rw [if_pos c47] at H
          have c47b0 := beq_iff_eq.mpr c47
          have c47b1 := bne_eq_false_iff_eq.mpr c47
          clear c47
          have H' := m0 H
          clear H
          go_enter Tryd.func62, Tryd.ntmps62
          go_wp2_with (first | ((with_reducible refine gate_dst (N := 4) rfl ?_); (try (refine gate_guard (by rfl) ?_; dsimp only)); refine be 4 26 #[.int .i64 0, .int .i64 0] ?_; intro gb485 hg w48 hbox hb; have BK485 := m0 hbox; have GW485 := m0 (bg (n := w.heap.size) hg); have GE485 := m0 (bg (n := w.heap.size) hg); replace HB := sb HB hb; clear hb hbox hg) | ((with_reducible refine gate_callee (f := 39) rfl ?_); refine gl (some 11) Tryd.func39 #[.slice A0 l0.length c0] ?_; (with_reducible refine (Rf_Sum.calls k _ _ l0 t486 _ ?side1 ?side2 A3.out).mono ?_); (case side1 => exact cb HR0 HB); (case side2 => exact HC0.out); rintro e w' ⟨rfl, ⟨nd, rfl⟩⟩; refine ⟨_, rfl, ?_⟩) | ((with_reducible refine gate_callee (f := 61) rfl ?_); refine gl (some 15) Tryd.func61 #[.slice A0 l0.length c0] ?_; (with_reducible refine (Rf_Peak.calls k _ _ l0 t489 _ ?side1 ?side2 A9.out).mono ?_); (case side1 => repeat (first | exact (Kd.C_below HR0.out bz) | (with_reducible refine Kd.C_alloc ?_ _) | (with_reducible refine Kd.C_drewN ?_ _) | (with_reducible refine Kd.C_drew ?_))); (case side2 => exact HC0.out); rintro e w49 ⟨rfl, hb⟩; refine ⟨_, rfl, ?_⟩; replace BK485 := bb BK485 hb; replace HB := sb HB hb; (try clear hb)))
          go_loopg [9] k (fun kq v9 w' => ∃ (x9_1 : Int) (x486000_1 : Int) (x486001_1 : Int), v9 = .int .i64 x9_1 ∧ Aside0 (Rf_Estimate.l0 kq l0 t489 x9_1 = some (r1, r2)) ∧ Aside0 (kq ≤ k) ∧ Aside0 (w'.heap[gb485]? = some (.cells #[.int .i64 x486000_1, .int .i64 x486001_1] 26 (0, 0))) ∧ Aside0 (Below w.heap.size w w'))
          case atStart => exact ⟨(0), (0), (0), (by first | rfl | (simp; done) | (simp [*]; done)), H', ⟨Nat.le_refl _⟩, ⟨bk BK485.out⟩, ⟨bz⟩⟩
          case round =>
            clear H'
            try clear c1
            try clear c2
            try clear p2
            try clear c3
            try clear c4
            try clear p4
            try clear q4
            try clear hx4
            try clear p5
            try clear q5
            try clear hx5
            try clear c6
            try clear p6
            try clear c19
            try clear c19b0
            try clear c19b1
            try clear c28
            try clear c29
            try clear c31
            try clear c32
            try clear c34
            try clear c35
            try clear c36
            try clear c36b0
            try clear c38
            try clear c39
            try clear c41
            try clear c47
            try clear c47b0
            try clear c47b1
            try clear p49
            try clear q49
            try clear hx49
            try clear hcz40_0
            try clear hcz40_1
            try clear hfz40_0
            try clear hfz40_1
            try clear hx496_0
            try clear hx497_0
            try clear hx498_0
            try clear hx501_0
            try clear hx502_0
            try clear p496
            try clear p497
            try clear p498
            try clear p501
            try clear p502
            try clear q496
            try clear q497
            try clear q498
            try clear q501
            try clear q502
            obtain ⟨x9_1, x486000_1, x486001_1, rfl, HA, HK1, BK485, HB⟩ := hrel
            cases gk with
            | zero => exact absurd HA.out (by simp [Rf_Estimate.l0])
            | succ k1 =>
              have H := HA.out
              clear HA
              simp only [Rf_Estimate.l0] at H
              by_cases c50 : x9_1 < (l0.length : Int)
              · rw [if_pos c50] at H
                have c50b0 := decide_eq_true c50
                clear c50
                obtain ⟨ji51, hji51⟩ : ∃ j_ : Int, (wrap64 (x9_1 + 1)) = j_ := ⟨_, rfl⟩
                replace H : (if 0 ≤ (ji51) then (if (ji51) ≤ (l0.length : Int) then ((Rf_Sum.f k1 (l0.take ((ji51) : Int).toNat)).bind fun t508 => ((Rf_Sum.f k1 l0).bind fun t509 => (if (wrap64 (2 * t508)) ≥ t509 then ((Bs_Whole.f x9_1).bind fun bt510 => (some (bt510.1, bt510.2))) else (Rf_Estimate.l0 k1 l0 t489 ji51)))) else (none)) else (none)) = some (r1, r2) := by first | (rw [hji51] at H; exact H) | (simp only [hji51] at H ⊢; exact H)
                have hji51w : (IntKind.i64.wrap (x9_1 + 1)) = ji51 := (i64_w _).trans hji51
                by_cases c52 : 0 ≤ (ji51)
                · rw [if_pos c52] at H
                  have c52b0 := eq_true c52
                  have c52b1 := decide_eq_true c52
                  clear c52
                  by_cases c53 : (ji51) ≤ (l0.length : Int)
                  · rw [if_pos c53] at H
                    have c53b0 := eq_true c53
                    have c53b1 := decide_eq_true c53
                    clear c53
                    replace H := ob H
                    obtain ⟨t508, A540, H⟩ := H
                    (try dsimp only at H)
                    have A54 := m0 A540
                    clear A540
                    replace H := ob H
                    obtain ⟨t509, A550, H⟩ := H
                    (try dsimp only at H)
                    have A55 := m0 A550
                    clear A550
                    by_cases c56 : (wrap64 (2 * t508)) ≥ t509
                    · rw [if_pos c56] at H
                      have c56b0 := decide_eq_true c56
                      clear c56
                      replace H := ob H
                      obtain ⟨⟨t510, t511⟩, A570, H⟩ := H
                      (try dsimp only at H)
                      have A57 := m0 A570
                      clear A570
                      simp only [Option.some.injEq, Prod.mk.injEq] at H
                      obtain ⟨rfl, rfl⟩ := H
                      obtain ⟨i058, hi058, _, hsz58, _⟩ := info_parts info3
                      obtain ⟨hcut58, hA58, hC58⟩ := print_take_of (P := Tryd.prog) (Value.int .i64) 0 22 3 .i64 Tryd.underlying22 hi058 hsz58 A0 c0 l0 (ji51) (of_decide_eq_true (by first | (with_reducible assumption) | assumption)) (of_decide_eq_true (by first | (with_reducible assumption) | assumption)) HC0.out
                      have HR507 := m0 (Kd.C_of_reads (h1 := fun _ => rfl) (hA58 _ (Kd.reads_of_C HR0.out)))
                      have HC507 := m0 hC58
                      clear hA58 hC58 hi058 hsz58
                      go_wp2_with (first | ((with_reducible refine gate_callee (f := 39) rfl ?_); refine goesL_ (some 93) rfl rfl Tryd.func39 (by kernel_rfl) rfl #[.slice A0 (l0.take ((ji51) : Int).toNat).length c0] rfl (by (try simp only [List.map_toArray, List.map_cons, List.map_nil]); first | done | (rw [show (l0.take ((ji51) : Int).toNat).length = (ji51).toNat from (by rw [List.length_take]; have h_ : ((ji51) : Int) ≤ (l0.length : Int) := of_decide_eq_true (by first | (with_reducible assumption) | assumption); omega)] <;> rfl) | (simp only [hji51]; rfl) | rfl | (simp only [List.length_drop, List.length_take]; rfl)) ?_; (with_reducible refine (Rf_Sum.calls k1 _ _ (l0.take ((ji51) : Int).toNat) t508 _ ?side1 ?side2 A54.out).mono ?_); (case side1 => exact cb HR507 HB); (case side2 => exact HC507.out); rintro e w' ⟨rfl, ⟨nd, rfl⟩⟩; refine ⟨_, rfl, ?_⟩; (try (rw [drewN_self wr]; generalize hq_ : World.drewN wr _ = wr; replace BK485 := gd BK485 hq_; replace HB := gs HB hq_; clear hq_))) | ((with_reducible refine gate_callee (f := 39) rfl ?_); refine gl (some 96) Tryd.func39 #[.slice A0 l0.length c0] ?_; (with_reducible refine (Rf_Sum.calls k1 _ _ l0 t509 _ ?side1 ?side2 A55.out).mono ?_); (case side1 => exact cb HR0 HB); (case side2 => exact HC0.out); rintro e w' ⟨rfl, ⟨nd, rfl⟩⟩; refine ⟨_, rfl, ?_⟩; (try (rw [drewN_self wr]; generalize hq_ : World.drewN wr _ = wr; replace BK485 := gd BK485 hq_; replace HB := gs HB hq_; clear hq_))) | ((with_reducible refine gate_callee (f := 38) rfl ?_); refine gl (some 99) Tryd.func38 #[.int .i64 x9_1] ?_; (with_reducible refine (Bs_Whole.calls x9_1 t510 t511 _ A57.out).mono ?_); rintro e w59 ⟨rfl, hb⟩; refine ⟨_, rfl, ?_⟩; replace BK485 := bb BK485 hb; replace HB := sb HB hb; (try clear hb); obtain ⟨_, _, _, _⟩ := b2 BK485))
                      refine bodyPost_ret (results_cell_row rfl _ _ gb485 26 #[.int .i64 t510, .int .i64 t511] (0, 0) _ rfl (bq BK485.out) Tryd.underlying26 rfl (by kernel_rfl)) rfl ?_
                      exact ⟨by first | rfl | (simp [errW_none, errW_some] <;> rfl) | (simp only [← hji51]; first | rfl | (simp [errW_none, errW_some] <;> rfl)) | (simp [*, errW_none, errW_some] <;> rfl), by repeat (first | (with_reducible first | exact HB.out | apply below_alloc | apply pw_below_drewN | apply below_drew1 | refine below_set ?_ GE485.out) | exact HB.out)⟩
                    · rw [if_neg c56] at H
                      have c56b0 := decide_eq_false c56
                      clear c56
                      have H' := m0 H
                      clear H
                      obtain ⟨i061, hi061, _, hsz61, _⟩ := info_parts info3
                      obtain ⟨hcut61, hA61, hC61⟩ := print_take_of (P := Tryd.prog) (Value.int .i64) 0 22 3 .i64 Tryd.underlying22 hi061 hsz61 A0 c0 l0 (ji51) (of_decide_eq_true (by first | (with_reducible assumption) | assumption)) (of_decide_eq_true (by first | (with_reducible assumption) | assumption)) HC0.out
                      have HR507 := m0 (Kd.C_of_reads (h1 := fun _ => rfl) (hA61 _ (Kd.reads_of_C HR0.out)))
                      have HC507 := m0 hC61
                      clear hA61 hC61 hi061 hsz61
                      go_wp2_with (first | ((with_reducible refine gate_callee (f := 39) rfl ?_); refine goesL_ (some 93) rfl rfl Tryd.func39 (by kernel_rfl) rfl #[.slice A0 (l0.take ((ji51) : Int).toNat).length c0] rfl (by (try simp only [List.map_toArray, List.map_cons, List.map_nil]); first | done | (rw [show (l0.take ((ji51) : Int).toNat).length = (ji51).toNat from (by rw [List.length_take]; have h_ : ((ji51) : Int) ≤ (l0.length : Int) := of_decide_eq_true (by first | (with_reducible assumption) | assumption); omega)] <;> rfl) | (simp only [hji51]; rfl) | rfl | (simp only [List.length_drop, List.length_take]; rfl)) ?_; (with_reducible refine (Rf_Sum.calls k1 _ _ (l0.take ((ji51) : Int).toNat) t508 _ ?side1 ?side2 A54.out).mono ?_); (case side1 => exact cb HR507 HB); (case side2 => exact HC507.out); rintro e w' ⟨rfl, ⟨nd, rfl⟩⟩; refine ⟨_, rfl, ?_⟩) | ((with_reducible refine gate_callee (f := 39) rfl ?_); refine gl (some 96) Tryd.func39 #[.slice A0 l0.length c0] ?_; (with_reducible refine (Rf_Sum.calls k1 _ _ l0 t509 _ ?side1 ?side2 A55.out).mono ?_); (case side1 => repeat (first | exact (Kd.C_below HR0.out bz) | (with_reducible refine Kd.C_alloc ?_ _) | (with_reducible refine Kd.C_drewN ?_ _) | (with_reducible refine Kd.C_drew ?_))); (case side2 => exact HC0.out); rintro e w' ⟨rfl, ⟨nd, rfl⟩⟩; refine ⟨_, rfl, ?_⟩))
                      go_roundg k1
                      case measure => have := HK1.out; omega
                      case rel => exact ⟨(ji51), (x486000_1), (x486001_1), (by first | rfl | (simp; done) | (simp only [← hji51] <;> (first | rfl | simp)) | (simp [*]; done)), H', ⟨by have := HK1.out; omega⟩, ⟨bk BK485.out⟩, ⟨bz⟩⟩
                  · rw [if_neg c53] at H
                    exact absurd H (by simp)
                · rw [if_neg c52] at H
                  exact absurd H (by simp)
              · rw [if_neg c50] at H
                have c50b0 := decide_eq_false c50
                clear c50
                replace H := ob H
                obtain ⟨⟨t505, t506⟩, A620, H⟩ := H
                (try dsimp only at H)
                have A62 := m0 A620
                clear A620
                simp only [Option.some.injEq, Prod.mk.injEq] at H
                obtain ⟨rfl, rfl⟩ := H
                go_wp2_with (first | ((with_reducible refine gate_callee (f := 38) rfl ?_); refine gl (some 101) Tryd.func38 #[.int .i64 t489] ?_; (with_reducible refine (Bs_Whole.calls t489 t505 t506 _ A62.out).mono ?_); rintro e w63 ⟨rfl, hb⟩; refine ⟨_, rfl, ?_⟩; replace BK485 := bb BK485 hb; replace HB := sb HB hb; (try clear hb); obtain ⟨_, _, _, _⟩ := b2 BK485))
                refine bodyPost_ret (results_cell_row rfl _ _ gb485 26 #[.int .i64 t505, .int .i64 t506] (0, 0) _ rfl (bq BK485.out) Tryd.underlying26 rfl (by kernel_rfl)) rfl ?_
                exact ez
        · rw [if_neg c47] at H
          have c47b0 := beq_eq_false_iff_ne.mpr c47
          have c47b1 := bne_iff_ne.mpr c47
          replace H := ob H
          obtain ⟨⟨t512, t513⟩, A650, H⟩ := H
          (try dsimp only at H)
          have A65 := m0 A650
          clear A650
          simp only [Option.some.injEq, Prod.mk.injEq] at H
          obtain ⟨rfl, rfl⟩ := H
          go_enter Tryd.func62, Tryd.ntmps62
          go_wp2_with (first | ((with_reducible refine gate_dst (N := 4) rfl ?_); (try (refine gate_guard (by rfl) ?_; dsimp only)); refine be 4 26 #[.int .i64 0, .int .i64 0] ?_; intro gb485 hg w66 hbox hb; have BK485 := m0 hbox; have GW485 := m0 (bg (n := w.heap.size) hg); have GE485 := m0 (bg (n := w.heap.size) hg); replace HB := sb HB hb; clear hb hbox hg) | ((with_reducible refine gate_callee (f := 39) rfl ?_); refine gl (some 11) Tryd.func39 #[.slice A0 l0.length c0] ?_; (with_reducible refine (Rf_Sum.calls k _ _ l0 t486 _ ?side1 ?side2 A3.out).mono ?_); (case side1 => exact cb HR0 HB); (case side2 => exact HC0.out); rintro e w' ⟨rfl, ⟨nd, rfl⟩⟩; refine ⟨_, rfl, ?_⟩; (try (rw [drewN_self w66]; generalize hq_ : World.drewN w66 _ = w66; replace BK485 := gd BK485 hq_; replace HB := gs HB hq_; clear hq_))) | ((with_reducible refine gate_callee (f := 61) rfl ?_); refine gl (some 15) Tryd.func61 #[.slice A0 l0.length c0] ?_; (with_reducible refine (Rf_Peak.calls k _ _ l0 t489 _ ?side1 ?side2 A9.out).mono ?_); (case side1 => exact cb HR0 HB); (case side2 => exact HC0.out); rintro e w67 ⟨rfl, hb⟩; refine ⟨_, rfl, ?_⟩; replace BK485 := bb BK485 hb; replace HB := sb HB hb; (try clear hb)) | ((with_reducible refine gate_callee (f := 38) rfl ?_); refine gl (some 101) Tryd.func38 #[.int .i64 t489] ?_; (with_reducible refine (Bs_Whole.calls t489 t512 t513 _ A65.out).mono ?_); rintro e w68 ⟨rfl, hb⟩; refine ⟨_, rfl, ?_⟩; replace BK485 := bb BK485 hb; replace HB := sb HB hb; (try clear hb); obtain ⟨_, _, _, _⟩ := b2 BK485))
          refine bodyPost_ret (results_cell_row rfl _ _ gb485 26 #[.int .i64 t512, .int .i64 t513] (0, 0) _ rfl (bq BK485.out) Tryd.underlying26 rfl (by kernel_rfl)) rfl ?_
          exact ez
end
section
def Rf_Off.f (k : Nat) (l0_0 : List Int) (l0_1 : List Int) (a0_2 : Int) (a0_3 : Int) (a1 : Int) (a2 : Int) : Option (Int × Int) := (Rf_Noisy.f k l0_0 l0_1 a2).bind fun t516 => ((Rf_Estimate.f k t516 a1).bind fun bt519 => ((Bs_Size.f (wrap64 ((wrap64 (bt519.1 * a0_3)) - (wrap64 (a0_2 * bt519.2))))).bind fun t522 => ((Bs_Lowest.f k t522 (wrap64 (bt519.2 * a0_3))).bind fun bt523 => (some (bt523.1, bt523.2)))))
theorem Rf_Off.mono : ∀ a0 a1 a2 a3 a4 a5 k, LeO (Rf_Off.f k a0 a1 a2 a3 a4 a5) (Rf_Off.f (k + 1) a0 a1 a2 a3 a4 a5) := by
 intro a0 a1 a2 a3 a4 a5 k
 unfold Rf_Off.f
 repeat' first
   | (with_reducible exact Bs_Lowest.mono _ _ _)
   | (with_reducible exact Rf_Estimate.mono _ _ _)
   | (with_reducible exact Rf_Noisy.mono _ _ _ _)
   | (with_reducible exact LeO.refl _)
   | (with_reducible exact LeO.none _)
   | (with_reducible refine LeO.ite ?_ ?_)
   | (with_reducible refine LeO.bind ?_ (fun _ => ?_))
   | exact Bs_Lowest.mono _ _ _
   | exact Rf_Estimate.mono _ _ _
   | exact Rf_Noisy.mono _ _ _ _
   | exact LeO.none _
   | refine LeO.ite ?_ ?_
   | refine LeO.bind ?_ (fun _ => ?_)
def Rf_Off.T2 : Bool × List (List Nat × List Nat) := (true, [([], []), ([0], [0]), ([], []), ([2], [2]), ([3], [3]), ([1, 4], [1, 4]), ([], []), ([6], [6]), ([7], [7]), ([], []), ([9], [9]), ([8, 10], [8, 10]), ([5, 11], [5, 11]), ([12], [12]), ([], []), ([14], [14]), ([], []), ([16], [16]), ([17], [17]), ([15, 18], [15, 18]), ([13, 19, 13], [13, 19]), ([20, 20, 0, 1, 2, 3, 4, 5, 6, 7, 8, 9, 10, 11, 12, 13, 14, 15, 16, 17, 18, 19, 20], [20])])
def Rf_Off.B2 : List Nat := [0, 1, 0, 4, 12, 31, 0, 64, 192, 0, 512, 1984, 4095, 8191, 0, 16384, 0, 65536, 196608, 507904, 1048575, 2097151]
theorem Rf_Off.tab2 : rtab .any (opsOf Tryd.f99 2) = Rf_Off.T2 := by kernel_rfl
theorem Rf_Off.bits2 : waitsOk Rf_Off.T2.2 Rf_Off.B2 = true := by kernel_rfl
theorem Rf_Off.calls (k : Nat) (A0_0 : Option Addr) (c0_0 : Nat) (l0_0 : List Int) (A0_1 : Option Addr) (c0_1 : Nat) (l0_1 : List Int) (a0_2 : Int) (a0_3 : Int) (a1 : Int) (a2 : Int) (r1 : Int) (r2 : Int) (w : World) (hr0_0 : Kd.C (Kd.int .i64) w A0_0 l0_0.length l0_0) (hc0_0 : l0_0.length ≤ c0_0) (hr0_1 : Kd.C (Kd.int .i64) w A0_1 l0_1.length l0_1) (hc0_1 : l0_1.length ≤ c0_1) (h : Rf_Off.f k l0_0 l0_1 a0_2 a0_3 a1 a2 = some (r1, r2)) :
  Calls Tryd.prog 99 #[.agg #[.slice A0_0 l0_0.length c0_0, .slice A0_1 l0_1.length c0_1, .int .i64 a0_2, .int .i64 a0_3], .int .i64 a1, .int .i64 a2] w fun e w' => e = .returned (.agg #[.int .i64 r1, .int .i64 r2]) ∧ Below w.heap.size w w' := by
 have hu28 := Tryd.underlying28
 have hu26 := Tryd.underlying26
 have hu24 := Tryd.underlying24
 have HR0_0 := m0 hr0_0
 have HC0_0 := m0 hc0_0
 clear hr0_0 hc0_0
 have HR0_1 := m0 hr0_1
 have HC0_1 := m0 hc0_1
 clear hr0_1 hc0_1
 have HB := m0 (Below.refl w.heap.size w)
 have H : ((Rf_Noisy.f k l0_0 l0_1 a2).bind fun t516 => ((Rf_Estimate.f k t516 a1).bind fun bt519 => ((Bs_Size.f (wrap64 ((wrap64 (bt519.1 * a0_3)) - (wrap64 (a0_2 * bt519.2))))).bind fun t522 => ((Bs_Lowest.f k t522 (wrap64 (bt519.2 * a0_3))).bind fun bt523 => (some (bt523.1, bt523.2)))))) = some (r1, r2) := h
 clear h
 replace H := ob H
 obtain ⟨t516, A40, H⟩ := H
 (try dsimp only at H)
 have A4 := m0 A40
 clear A40
 replace H := ob H
 obtain ⟨⟨t519, t520⟩, A50, H⟩ := H
 (try dsimp only at H)
 have A5 := m0 A50
 clear A50
 replace H := ob H
 obtain ⟨t522, A60, H⟩ := H
 (try dsimp only at H)
 have A6 := m0 A60
 clear A60
 replace H := ob H
 obtain ⟨⟨t523, t524⟩, A70, H⟩ := H
 (try dsimp only at H)
 have A7 := m0 A70
 clear A70
 simp only [Option.some.injEq, Prod.mk.injEq] at H
 obtain ⟨rfl, rfl⟩ := H
 go_enter Tryd.func99, Tryd.ntmps99
 try go_wp2_with (first | ((with_reducible refine gate_dst (N := 3) rfl ?_); refine be 3 28 #[.slice A0_0 l0_0.length c0_0, .slice A0_1 l0_1.length c0_1, .int .i64 a0_2, .int .i64 a0_3] ?_; intro gb514 hg w8 hbox hb; have BK514 := m0 hbox; have GW514 := m0 (bg (n := w.heap.size) hg); have GE514 := m0 (bg (n := w.heap.size) hg); replace HB := sb HB hb; clear hb hbox hg) | ((with_reducible refine gate_dst (N := 6) rfl ?_); refine be 6 26 #[.int .i64 0, .int .i64 0] ?_; intro gb515 hg w9 hbox hb; have BK515 := m0 hbox; have GW515 := m0 (bg (n := w.heap.size) hg); have GE515 := m0 (bg (n := w.heap.size) hg); replace HB := sb HB hb; have NB514_515 := nl BK514 hg; have NB515_514 := ng (nl BK514 hg); replace BK514 := bb BK514 hb; clear hb hbox hg; have hnb10 := NB514_515.out; have hnc10 := NB515_514.out; obtain ⟨_, _, _, _, _, _, _, _⟩ := b4 BK514) | ((with_reducible refine gate_callee (f := 58) rfl ?_); refine gl (some 13) Tryd.func58 #[.slice A0_0 l0_0.length c0_0, .agg #[.slice A0_1 l0_1.length c0_1], .int .i64 a2] ?_; (with_reducible refine (Rf_Noisy.calls k _ _ l0_0 _ _ l0_1 a2 t516 _ ?side1 ?side2 ?side3 ?side4 A4.out).mono ?_); (case side1 => exact cb HR0_0 HB); (case side2 => exact HC0_0.out); (case side3 => exact cb HR0_1 HB); (case side4 => exact HC0_1.out); rintro e w12 ⟨v517, rfl, ho0, hb⟩; refine ⟨_, rfl, ?_⟩; have HO518 := m0 (Kd.R_lower ho0 (below_size bz)); replace BK514 := bb BK514 hb; replace BK515 := bb BK515 hb; replace HB := sb HB hb; (try clear hb); (try clear ho0); obtain ⟨Ao13, co13, eo13⟩ := Kd.R_slice HO518.out; subst eo13) | ((with_reducible refine gate_callee (f := 62) rfl ?_); refine gl (some 15) Tryd.func62 #[.slice Ao13 t516.length co13, .int .i64 a1] ?_; (with_reducible refine (Rf_Estimate.calls k _ _ t516 a1 t519 t520 _ ?side1 ?side2 A5.out).mono ?_); (case side1 => exact bc (Kd.R_reads' HO518.out).2.2); (case side2 => exact (Kd.R_reads' HO518.out).2.1); rintro e w14 ⟨rfl, hb⟩; refine ⟨_, rfl, ?_⟩; replace HO518 := rb HO518 hb; replace BK514 := bb BK514 hb; replace BK515 := bb BK515 hb; replace HB := sb HB hb; (try clear hb)) | ((with_reducible refine gate_dst (N := 7) rfl ?_); refine be 7 26 #[.int .i64 0, .int .i64 0] ?_; intro gb521 hg w15 hbox hb; replace HO518 := rb HO518 hb; have BK521 := m0 hbox; have GW521 := m0 (bg (n := w.heap.size) hg); have GE521 := m0 (bg (n := w.heap.size) hg); replace HB := sb HB hb; have NB514_521 := nl BK514 hg; have NB521_514 := ng (nl BK514 hg); replace BK514 := bb BK514 hb; have NB515_521 := nl BK515 hg; have NB521_515 := ng (nl BK515 hg); replace BK515 := bb BK515 hb; clear hb hbox hg; have hnb16 := NB521_514.out; have hnc16 := NB514_521.out; have hnb17 := NB521_515.out; have hnc17 := NB515_521.out; obtain ⟨_, _, _, _⟩ := b2 BK521))
 have n0_ : Aside0 (Kd.R (Kd.int .i64) 3 ((w15.setCell ⟨gb521, 0, none⟩ (.int .i64 t519)).setCell ⟨gb521, 1, none⟩ (.int .i64 t520)) w.heap.size (fun _ => True) (.slice Ao13 t516.length co13) t516) := ⟨by (with_reducible repeat (first | apply Kd.R_alloc | apply Kd.R_drewN | apply Kd.R_drew)); exact Kd.R_mono (Kd.R_far (p := ⟨gb521, 1, none⟩) (Kd.R_far (p := ⟨gb521, 0, none⟩) (Kd.R_types HO518.out BK521.out (by decide)) (fun _ hk => hk.2) (.int .i64 t519)) (fun _ hk => hk.2) (.int .i64 t520)) (fun _ hk => trivial)⟩
 have n1_ : Aside0 (((w15.setCell ⟨gb521, 0, none⟩ (.int .i64 t519)).setCell ⟨gb521, 1, none⟩ (.int .i64 t520)).heap[gb514]? = some (.cells #[.slice A0_0 l0_0.length c0_0, .slice A0_1 l0_1.length c0_1, .int .i64 a0_2, .int .i64 a0_3] 28 (0, 0))) := ⟨bq BK514.out⟩
 have n2_ : Aside0 (((w15.setCell ⟨gb521, 0, none⟩ (.int .i64 t519)).setCell ⟨gb521, 1, none⟩ (.int .i64 t520)).heap[gb515]? = some (.cells #[.int .i64 0, .int .i64 0] 26 (0, 0))) := ⟨bq BK515.out⟩
 have n3_ : Aside0 (((w15.setCell ⟨gb521, 0, none⟩ (.int .i64 t519)).setCell ⟨gb521, 1, none⟩ (.int .i64 t520)).heap[gb521]? = some (.cells #[.int .i64 t519, .int .i64 t520] 26 (0, 0))) := ⟨bq BK521.out⟩
 have n4_ : Aside0 (Below w.heap.size w ((w15.setCell ⟨gb521, 0, none⟩ (.int .i64 t519)).setCell ⟨gb521, 1, none⟩ (.int .i64 t520))) := ⟨bz⟩
 (try clear HO518)
 (try clear BK514)
 (try clear BK515)
 (try clear BK521)
 (try clear HB)
 generalize ((w15.setCell ⟨gb521, 0, none⟩ (.int .i64 t519)).setCell ⟨gb521, 1, none⟩ (.int .i64 t520)) = w19 at n0_ n1_ n2_ n3_ n4_ ⊢
 have HO518 := n0_
 have BK514 := n1_
 have BK515 := n2_
 have BK521 := n3_
 have HB := n4_
 clear n0_ n1_ n2_ n3_ n4_
 replace HO518 := m0 (Kd.R_drew HO518.out); replace BK514 := bd BK514; replace BK515 := bd BK515; replace BK521 := bd BK521; replace HB := sd HB
 refine start_ (n := 22) (S := fun w' => w'.cell? ⟨gb521, 0, none⟩ = some (.int .i64 t519) ∧ w'.cell? ⟨gb521, 1, none⟩ = some (.int .i64 t520) ∧ w'.cell? ⟨gb514, 0, none⟩ = some (.slice A0_0 l0_0.length c0_0) ∧ w'.cell? ⟨gb514, 1, none⟩ = some (.slice A0_1 l0_1.length c0_1) ∧ w'.cell? ⟨gb514, 2, none⟩ = some (.int .i64 a0_2) ∧ w'.cell? ⟨gb514, 3, none⟩ = some (.int .i64 a0_3)) (ds := []) #[false, false, false, false, false, false, false, false, false, false, false, false, false, false, false, false, false, false, false, false, false, false] (by kernel_rfl) rfl rfl cz (fun hHeld => ?_); refine with_tabW Rf_Off.tab2 Rf_Off.bits2 (fun HT_ HW_ => ?_)
 generalize w19.drew = w20 at HO518 BK514 BK515 BK521 HB hHeld ⊢
 refine pureZ (i := 0) (N := some 16) (bs 22 1) HT_ ?_
 refine pureZ (i := 2) (N := some 18) (bs 22 5) HT_ ?_
 refine pureZ (i := 3) (N := some 19) (bs 22 13) HT_ ?_
 refine pureZ (i := 6) (N := some 22) (bs 22 77) HT_ ?_
 refine pureZ (i := 7) (N := some 23) (bs 22 205) HT_ ?_
 refine pureZ (i := 9) (N := some 25) (bs 22 717) HT_ ?_
 refine pureZ (i := 14) (N := some 30) (bs 22 17101) HT_ ?_
 refine pureZ (i := 16) (N := some 32) (bs 22 82637) HT_ ?_
 refine pureZ (i := 17) (N := some 33) (bs 22 213709) HT_ ?_
 refine takeZ 1 (some 17) (bs 22 213711) (take_ofW HT_.out HW_.out (by kernel_rfl)) hHeld ?_
 refine takeZ 4 (some 20) (bs 22 213727) (take_ofW HT_.out HW_.out (by kernel_rfl)) hHeld ?_
 refine pureZ (i := 5) (N := some 21) (bs 22 213759) HT_ ?_
 refine takeZ 8 (some 24) (bs 22 214015) (take_ofW HT_.out HW_.out (by kernel_rfl)) hHeld ?_
 refine takeZ 10 (some 26) (bs 22 215039) (take_ofW HT_.out HW_.out (by kernel_rfl)) hHeld ?_
 refine pureZ (i := 11) (N := some 27) (bs 22 217087) HT_ ?_
 refine pureZ (i := 12) (N := some 28) (bs 22 221183) HT_ ?_
 refine takeZ 15 (some 31) (bs 22 253951) (take_ofW HT_.out HW_.out (by kernel_rfl)) hHeld ?_
 refine takeZ 18 (some 34) (bs 22 516095) (take_ofW HT_.out HW_.out (by kernel_rfl)) hHeld ?_
 refine pureZ (i := 19) (N := some 35) (bs 22 1040383) HT_ ?_
 refine oneZ 13 (some 29) (bs 22 1048575) (one_of HT_.out (by kernel_rfl)) fun K hK => ?_
 refine goes_ Tryd.func40 (by kernel_rfl) rfl #[.int .i64 (wrap64 ((wrap64 (t519 * a0_3)) - (wrap64 (a0_2 * t520))))] (by rfl) rfl rfl mz ?_
 with_reducible refine (Bs_Size.calls (wrap64 ((wrap64 (t519 * a0_3)) - (wrap64 (a0_2 * t520)))) t522 _ A6.out).mono ?_
 rintro e w21 ⟨rfl, hb⟩
 refine ⟨_, rfl, ?_⟩
 replace HO518 := rb HO518 hb; replace BK514 := bb BK514 hb; replace BK515 := bb BK515 hb; replace BK521 := bb BK521 hb; replace HB := sb HB hb
 (try clear hb)
 refine hK.out _ _ cz (fun hHeld => ?_)
 clear hK K
 refine norm_ (a' := ?_) ?_ ?_
 rotate_left
 ·show Act.put _ (some 29) _ = _
  exact pz
 refine oneZ 20 (some 36) (bs 22 2097151) (one_of HT_.out (by kernel_rfl)) fun K hK => ?_
 refine goes_ Tryd.func41 (by kernel_rfl) rfl #[.int .i64 t522, .int .i64 (wrap64 (t520 * a0_3))] (by rfl) rfl rfl mz ?_
 with_reducible refine (Bs_Lowest.calls k t522 (wrap64 (t520 * a0_3)) t523 t524 _ A7.out).mono ?_
 rintro e w22 ⟨rfl, hb⟩
 refine ⟨_, rfl, ?_⟩
 replace HO518 := rb HO518 hb; replace BK514 := bb BK514 hb; replace BK515 := bb BK515 hb; replace BK521 := bb BK521 hb; replace HB := sb HB hb
 (try clear hb)
 refine hK.out _ _ cz (fun hHeld => ?_)
 clear hK K
 refine norm_ (a' := ?_) ?_ ?_
 rotate_left
 ·show Act.put _ (some 36) _ = _
  exact pz
 refine oneZ 21 (none) (bs 22 4194303) (one_of HT_.out (by kernel_rfl)) fun K hK => ?_
 have hs23 : w22.cell? ⟨gb515, 0, none⟩ = some (.int .i64 0) := (blk_cell BK515.out 0).trans rfl
 have hfs23 := blk_frozen BK515.out 0
 have hns23_0 := NB514_515.out
 have hns23_2 := NB521_515.out
 have hms23_0 := NB515_514.out
 have hms23_2 := NB515_521.out
 have hs24 : w22.cell? ⟨gb515, 1, none⟩ = some (.int .i64 0) := (blk_cell BK515.out 1).trans rfl
 have hfs24 := blk_frozen BK515.out 1
 have hns24_0 := NB514_515.out
 have hns24_2 := NB521_515.out
 have hms24_0 := NB515_514.out
 have hms24_2 := NB515_521.out
 refine skip_ (w1 := ?_) (by rfl) rfl ?_ ?_
 rotate_left
 ·go_simp
  rfl
 refine hK.out _ _ ⟨((cell_far (p := ⟨gb515, _, none⟩) NB521_515.out _).trans (((cell_far (p := ⟨gb515, _, none⟩) NB521_515.out _).trans (hHeld.1)))), ((cell_far (p := ⟨gb515, _, none⟩) NB521_515.out _).trans (((cell_far (p := ⟨gb515, _, none⟩) NB521_515.out _).trans (hHeld.2.1)))), ((cell_far (p := ⟨gb515, _, none⟩) NB514_515.out _).trans (((cell_far (p := ⟨gb515, _, none⟩) NB514_515.out _).trans (hHeld.2.2.1)))), ((cell_far (p := ⟨gb515, _, none⟩) NB514_515.out _).trans (((cell_far (p := ⟨gb515, _, none⟩) NB514_515.out _).trans (hHeld.2.2.2.1)))), ((cell_far (p := ⟨gb515, _, none⟩) NB514_515.out _).trans (((cell_far (p := ⟨gb515, _, none⟩) NB514_515.out _).trans (hHeld.2.2.2.2.1)))), ((cell_far (p := ⟨gb515, _, none⟩) NB514_515.out _).trans (((cell_far (p := ⟨gb515, _, none⟩) NB514_515.out _).trans (hHeld.2.2.2.2.2))))⟩ (fun hHeld => ?_)
 clear hK K
 refine done_ (done_of HT_.out (by kernel_rfl)) ?_
 try go_wp2
 refine bodyPost_ret (results_cell_row rfl _ _ gb515 26 #[.int .i64 t523, .int .i64 t524] (0, 0) _ rfl (bq BK515.out) Tryd.underlying26 rfl (by kernel_rfl)) rfl ?_
 exact ez
end
end Go.Proofs.YtjnkphmcndaijaaDoor.A
