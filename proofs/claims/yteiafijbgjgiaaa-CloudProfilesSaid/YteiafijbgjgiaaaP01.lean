/- Walks of the program's functions (printed, made shorter), each with what it computes. -/
import Derived.Test.YteiafijbgjgiaaaB06
import Derived.Test.YteiafijbgjgiaaaB05
import Derived.Test.YteiafijbgjgiaaaB14
namespace Go.Proofs.Yteiafijbgjgiaaa.A
set_option maxHeartbeats 8000000
set_option maxRecDepth 100000
open Go.RowKit Go.Proofs.YteiafijbgjgiaaaW.PrintWords Go.Proofs.YteiafijbgjgiaaaW.PrintLast Go.Proofs.YteiafijbgjgiaaaW.PrintMore
attribute [local go_sem] max2_int min2_int max_two min_two max_three min_three max_four min_four
set_option linter.unusedVariables false
set_option linter.unusedSimpArgs false
section
theorem eqA54 (d : Nat) (w : World) (x0 y0 : Int) (x1 y1 : Int) :
  (Op.equalIn (d + 2) 54 (.agg #[.int .i64 x0, .int .i64 x1]) (.agg #[.int .i64 y0, .int .i64 y1])).run Try.prog w = .ok (x0 == y0 && (x1 == y1)) w := by
 refine eqA_of Try.underlying54 (by kernel_rfl) ?_; refine eqf_cons (by rfl) (by go_simp; rfl) (by go_simp; rfl) (by go_simp) ?_; exact eqf_last (by rfl) (by go_simp; rfl) (by go_simp; rfl) (by go_simp)
end
section
def Lw_both.f (a0 : Int) (a1 : Int) : Option (Int) := if a0 = 0 then (some a1) else (some a0)
theorem Lw_both.calls (a0 : Int) (a1 : Int) (r : Int) (w : World) (H : Lw_both.f a0 a1 = some r) :
  Calls Try.prog 15 #[.int .i64 a0, .int .i64 a1] w fun e w' => e = .returned (.int .i64 r) ∧ Drawn0 w w' := by
 unfold Lw_both.f at H
 by_cases c3 : a0 = 0
 ·rw [if_pos c3] at H; have c3b0 := beq_iff_eq.mpr c3; have c3b1 := bne_eq_false_iff_eq.mpr c3; clear c3; obtain rfl := Option.some.inj H; go_enter Try.func15, Try.ntmps15
  go_wp2
  go_ret
  exact ⟨rz, by repeat (first | exact Drawn0.refl _ | apply Drawn0.step)⟩
 ·rw [if_neg c3] at H; have c3b0 := beq_eq_false_iff_ne.mpr c3; have c3b1 := bne_iff_ne.mpr c3; obtain rfl := Option.some.inj H; go_enter Try.func15, Try.ntmps15
  go_wp2
  go_ret
  exact ⟨rz, by repeat (first | exact Drawn0.refl _ | apply Drawn0.step)⟩
end
section
def Bs_CopyInts.f (l0 : List Int) : Option (List Int) := (some (([] : List Int) : List Int)).bind fun y404 => (if y404.length + l0.length < 17592186044416 then (some (y404 ++ l0)) else (none))
theorem Bs_CopyInts.calls (A0 : Option Addr) (c0 : Nat) (l0 : List Int) (r : List Int) (w : World) (hr0 : Kd.C (Kd.int .i64) w A0 l0.length l0) (hc0 : l0.length ≤ c0) (H : Bs_CopyInts.f l0 = some r) :
  Calls Try.prog 26 #[.slice A0 l0.length c0] w fun e w' => ∃ v0_ : Value, e = .returned (v0_) ∧ Kd.R (Kd.int .i64) 3 w' w.heap.size (fun _ => True) v0_ r ∧ Below w.heap.size w w' := by
 have HR0 := m0 hr0; have HC0 := m0 hc0; clear hr0 hc0; have HB := m0 (Below.refl w.heap.size w); unfold Bs_CopyInts.f at H; obtain ⟨y404, hy404⟩ : ∃ y_ : List Int, y_ = (([] : List Int)) := ⟨_, rfl⟩; replace H : (if y404.length + l0.length < 17592186044416 then (some (y404 ++ l0)) else (none)) = some r := by first | (rw [hy404]; with_reducible exact H) | (have H2_ := (Option.bind_some _ _).symm.trans H; rw [hy404]; with_reducible exact H2_) | (have H2_ := (Option.bind_some _ _).symm.trans H; with_reducible exact H2_) | with_reducible exact H | (rw [hy404]; exact H) | exact H
 have Ny404 := m0 hy404; clear hy404
 by_cases c2 : y404.length + l0.length < 17592186044416
 ·rw [if_pos c2] at H; have LMc2 := m0 c2; clear c2; obtain ⟨y407, hy407⟩ : ∃ y_ : List Int, y_ = (y404 ++ l0) := ⟨_, rfl⟩; replace H : (some y407) = some r := by first | (rw [hy407]; with_reducible exact H) | (have H2_ := (Option.bind_some _ _).symm.trans H; rw [hy407]; with_reducible exact H2_) | (have H2_ := (Option.bind_some _ _).symm.trans H; with_reducible exact H2_) | with_reducible exact H | (rw [hy407]; exact H) | exact H
  have Ny407 := m0 hy407; clear hy407; obtain rfl := Option.some.inj H; go_enter Try.func26, Try.ntmps26
  go_wp2_with (first | ((with_reducible refine ga 3 rfl ?_); refine Kd.R_lit (Kd.int .i64) _ 3 ?hg (N := 3) ?hd (xs := ([] : List Int)) (inner := []) (ok := fun _ => True) (okp := fun _ => True) ?hr ?hp (fun _ hk => hk) trivial (Below.refl _ _) (Nat.le_refl _) (by simp) ?_; (case hd => rfl); (case hg => rfl); (case hr => first | (go_simp; done) | (go_simp; rfl)); (case hp => exact (Reps.none _ _)); intro v405 w3 ho4 hb hg_ hnew_; clear hg_ hnew_; (first | rw [← Ny404.out] at ho4 | (simp only [Int.reduceToNat] at ho4; rw [← Ny404.out] at ho4)); have HO406 := m0 (Kd.R_lower ho4 (below_size bz)); replace HB := sb HB hb; clear hb ho4) | ((with_reducible refine gate_builtin (b := .append) (xs := #[.tmp 3, .tmp 4]) rfl ?_); at_builtin; refine Kd.R_append_rows (Kd.int .i64) (w0 := w) w.heap.size rfl (.tmp 3) (.tmp 4) 41 3 (.int .i64 0) 8 rfl Try.underlying41 info3 rfl (by decide) (by omega) v405 y404 l0 _ _ _ (fun _ => True) (fun _ => False) rfl rfl ?aO ?aR (fun _ _ h => h) (fun _ h => h.elim) ?aF ?aB ?aS ?aL ?_; (case aR => exact cb HR0 HB); (case aB => exact bz); (case aF => exact (fun _ _ => trivial)); (case aO => exact (br HO406.out)); (case aS => exact (below_size bz)); (case aL => have := LMc2.out; omega); intro v408 w5 ho hb hg hat; rw [← Ny407.out] at ho; have n0_ := m0 (hb); have n1_ := m0 (ho); clear HB; clear HO406; have HB := n0_; have HO409 := n1_; clear n0_ n1_; clear ho hb hg hat))
  go_ret
  exact ⟨_, by first | rfl | (simp [errW_none, errW_some] <;> rfl) | (simp [*, errW_none, errW_some] <;> rfl), by (with_reducible repeat (first | apply Kd.R_alloc | apply Kd.R_drewN | apply Kd.R_drew)); exact HO409.out, by repeat (first | (with_reducible first | exact HB.out | apply below_alloc | apply pw_below_drewN | apply below_drew1) | exact HB.out)⟩
 ·rw [if_neg c2] at H; exact absurd H (by simp)
end
section
def Lw_few.f (l0 : List Int) : Option (Bool) := some (decide ((l0.length : Int) ≤ 26))
theorem Lw_few.calls (A0 : Option Addr) (c0 : Nat) (l0 : List Int) (r : Bool) (w : World) (hr0 : Kd.C (Kd.int .i64) w A0 l0.length l0) (hc0 : l0.length ≤ c0) (H : Lw_few.f l0 = some r) :
  Calls Try.prog 31 #[.slice A0 l0.length c0] w fun e w' => e = .returned (.bool r) ∧ Drawn0 w w' := by
 have HR0 := m0 hr0; have HC0 := m0 hc0; clear hr0 hc0; unfold Lw_few.f at H; obtain rfl := Option.some.inj H; go_enter Try.func31, Try.ntmps31
 go_wp2
 go_ret
 exact ⟨rz, by repeat (first | exact Drawn0.refl _ | apply Drawn0.step)⟩
end
section
def Bs_Within.f (a0 : Int) (a1 : Int) (a2 : Int) : Option (Bool) := if a1 ≤ a0 then (some (decide (a0 ≤ a2))) else (some false)
theorem Bs_Within.calls (a0 : Int) (a1 : Int) (a2 : Int) (r : Bool) (w : World) (H : Bs_Within.f a0 a1 a2 = some r) :
  Calls Try.prog 19 #[.int .i64 a0, .int .i64 a1, .int .i64 a2] w fun e w' => e = .returned (.bool r) ∧ Drawn0 w w' := by
 unfold Bs_Within.f at H
 by_cases c4 : a1 ≤ a0
 ·rw [if_pos c4] at H; have c4b0 := decide_eq_true c4; clear c4; obtain rfl := Option.some.inj H; go_enter Try.func19, Try.ntmps19
  go_wp2
  go_ret
  exact ⟨rz, by repeat (first | exact Drawn0.refl _ | apply Drawn0.step)⟩
 ·rw [if_neg c4] at H; have c4b0 := decide_eq_false c4; clear c4; obtain rfl := Option.some.inj H; go_enter Try.func19, Try.ntmps19
  go_wp2
  go_ret
  exact ⟨rz, by repeat (first | exact Drawn0.refl _ | apply Drawn0.step)⟩
end
section
def Rf_CheckProfile.l0 : Nat → List Int → Int → Option (Int × Int)
  | 0, _, _ => none
  | k + 1, x0, x4 => if x4 < (x0.length : Int) then (if 0 ≤ x4 then ((Bs_Within.f (rd x0 x4) 0 10000).bind fun t638 => (if t638 = true then (Rf_CheckProfile.l0 k x0 (wrap64 (x4 + 1))) else (some (x4, 2)))) else (none)) else (some (0, 0))
def Rf_CheckProfile.f (k : Nat) (l0 : List Int) : Option (Int × Int) := if (l0.length : Int) = 0 then (some (0, 10)) else (if (l0.length : Int) > 24 then (some (0, 8)) else (Rf_CheckProfile.l0 k l0 0))
theorem Rf_CheckProfile.mono_l : ∀ k, (∀ y0 y1, LeO (Rf_CheckProfile.l0 k y0 y1) (Rf_CheckProfile.l0 (k + 1) y0 y1))
  | 0 => fun _ _ r h => by simp [Rf_CheckProfile.l0] at h
  | k + 1 => by
    have ih0 := Rf_CheckProfile.mono_l k
    · intro y0 y1; unfold Rf_CheckProfile.l0
      repeat' with_reducible first
        | exact ih0 ..
        | exact LeO.refl ..
        | exact LeO.none ..
        | refine LeO.ite ?_ ?_
        | refine LeO.bind ?_ (fun _ => ?_)
theorem Rf_CheckProfile.mono : ∀ a0 k, LeO (Rf_CheckProfile.f k a0) (Rf_CheckProfile.f (k + 1) a0) := by
  intro a0 k; have ih0 := Rf_CheckProfile.mono_l k; unfold Rf_CheckProfile.f
  repeat' with_reducible first
    | exact ih0 ..
    | exact LeO.refl ..
    | exact LeO.none ..
    | refine LeO.ite ?_ ?_
    | refine LeO.bind ?_ (fun _ => ?_)
theorem Rf_CheckProfile.calls (k : Nat) (A0 : Option Addr) (c0 : Nat) (l0 : List Int) (r1 : Int) (r2 : Int) (w : World) (hr0 : Kd.C (Kd.int .i64) w A0 l0.length l0) (hc0 : l0.length ≤ c0) (H : Rf_CheckProfile.f k l0 = some (r1, r2)) :
    Calls Try.prog 46 #[.slice A0 l0.length c0] w fun e w' => e = .returned (.tuple #[.int .i64 r1, .int .i64 r2]) ∧ Drawn0 w w' := by
  have HR0 := m0 hr0; have HC0 := m0 hc0; clear hr0 hc0; unfold Rf_CheckProfile.f at H
  by_cases c2 : (l0.length : Int) = 0
  · rw [if_pos c2] at H; have c2b0 := beq_iff_eq.mpr c2; have c2b1 := bne_eq_false_iff_eq.mpr c2; clear c2; simp only [Option.some.injEq, Prod.mk.injEq] at H; obtain ⟨rfl, rfl⟩ := H; go_enter Try.func46, Try.ntmps46
    go_wp2
    go_ret2
    exact ⟨rz, by repeat (first | exact Drawn0.refl _ | apply Drawn0.step)⟩
  · rw [if_neg c2] at H; have c2b0 := beq_eq_false_iff_ne.mpr c2; have c2b1 := bne_iff_ne.mpr c2; have c2b2 : ¬ (l0 = []) := fun h_ => c2 (by rw [h_]; rfl)
    by_cases c3 : (l0.length : Int) > 24
    · rw [if_pos c3] at H; have c3b0 := decide_eq_true c3; have c3b1 : decide (24 < l0.length) = true := decide_eq_true (by omega); clear c3; simp only [Option.some.injEq, Prod.mk.injEq] at H; obtain ⟨rfl, rfl⟩ := H; go_enter Try.func46, Try.ntmps46
      go_wp2
      go_ret2
      exact ⟨rz, by repeat (first | exact Drawn0.refl _ | apply Drawn0.step)⟩
    · rw [if_neg c3] at H; have c3b0 := decide_eq_false c3; have c3b1 : decide (24 < l0.length) = false := decide_eq_false (by omega); clear c3; have H' := m0 H; clear H; go_enter Try.func46, Try.ntmps46
      go_wp2
      go_loopg [4] k (fun kq v4 w' => ∃ (x4_1 : Int), v4 = .int .i64 x4_1 ∧ Aside0 (Rf_CheckProfile.l0 kq l0 x4_1 = some (r1, r2)) ∧ Aside0 (kq ≤ k) ∧ Drawn0 w w')
      case atStart => exact ⟨(0), rz, H', ⟨Nat.le_refl _⟩, by repeat (first | exact Drawn0.refl _ | apply Drawn0.step)⟩
      case round =>
        clear H'; obtain ⟨x4_1, rfl, HA, HK1, ⟨m1, rfl⟩⟩ := hrel
        cases gk with
        | zero => exact absurd HA.out (by simp [Rf_CheckProfile.l0])
        | succ k1 =>
          have H := HA.out; clear HA; simp only [Rf_CheckProfile.l0] at H
          by_cases c4 : x4_1 < (l0.length : Int)
          · rw [if_pos c4] at H; have c4b0 := decide_eq_true c4; clear c4
            by_cases c5 : 0 ≤ x4_1
            · rw [if_pos c5] at H; have c5b0 := decide_eq_true c5; clear c5; replace H := oa H; obtain ⟨t638, A6, H⟩ := H; (try dsimp only at H)
              by_cases c7 : t638 = true
              · subst c7; rw [if_pos rfl] at H; have H' := m0 H; clear H; have p637 : 0 ≤ (x4_1 : Int) := od; have q637 : x4_1 < (l0.length : Int) := od; obtain ⟨ad637, e637, hx637_0⟩ := Kd.at_int HR0.out x4_1 p637 q637
                cases e637
                replace p637 := eq_true p637; replace q637 := eq_true q637
                go_wp2_with (first | ((with_reducible refine gc 19 rfl ?_); refine gl (some 21) Try.func19 #[.int .i64 (rd l0 x4_1), .int .i64 0, .int .i64 10000] ?_; (with_reducible refine (Bs_Within.calls (rd l0 x4_1) 0 10000 true _ A6.out).mono ?_); rintro e w' ⟨rfl, ⟨nd, rfl⟩⟩; refine ⟨_, rfl, ?_⟩))
                go_roundg k1
                case measure => have := HK1.out; omega
                case rel => exact ⟨(wrap64 (x4_1 + 1)), rz, H', ⟨by have := HK1.out; omega⟩, by repeat (first | exact Drawn0.refl _ | apply Drawn0.step)⟩
              · replace c7 := Bool.eq_false_iff.mpr c7; subst c7; rw [if_neg (show ¬ (false = true) by decide)] at H; simp only [Option.some.injEq, Prod.mk.injEq] at H; obtain ⟨rfl, rfl⟩ := H; have p637 : 0 ≤ (x4_1 : Int) := od; have q637 : x4_1 < (l0.length : Int) := od; obtain ⟨ad637, e637, hx637_0⟩ := Kd.at_int HR0.out x4_1 p637 q637
                cases e637
                replace p637 := eq_true p637; replace q637 := eq_true q637
                go_wp2_with (first | ((with_reducible refine gc 19 rfl ?_); refine gl (some 21) Try.func19 #[.int .i64 (rd l0 x4_1), .int .i64 0, .int .i64 10000] ?_; (with_reducible refine (Bs_Within.calls (rd l0 x4_1) 0 10000 false _ A6.out).mono ?_); rintro e w' ⟨rfl, ⟨nd, rfl⟩⟩; refine ⟨_, rfl, ?_⟩))
                go_ret2
                exact ⟨rz, by repeat (first | exact Drawn0.refl _ | apply Drawn0.step)⟩
            · rw [if_neg c5] at H; exact absurd H (by simp)
          · rw [if_neg c4] at H; have c4b0 := decide_eq_false c4; clear c4; simp only [Option.some.injEq, Prod.mk.injEq] at H; obtain ⟨rfl, rfl⟩ := H
            go_wp2
            go_ret2
            exact ⟨rz, by repeat (first | exact Drawn0.refl _ | apply Drawn0.step)⟩
end
section
def IsS54 (w0 W : World) (g : Nat) (f0 : Int) (f1 : Int) : Prop := W.heap[g]? = some (.cells #[.int .i64 f0, .int .i64 f1] 54 (0, 0)) ∧ w0.heap.size ≤ g
theorem IsS54.grown {w0 W : World} {g : Nat} {f0 : Int} {f1 : Int} {W1 : World} {row : Option Nat} (h : IsS54 w0 W g f0 f1) (hw : W.grownBy W1 row) (hne : some g ≠ row) : IsS54 w0 W1 g f0 f1 := by
 obtain ⟨hb, hg⟩ := h; exact ⟨blk_grown hb hw hne, hg⟩
theorem IsS54.own_neN {w0 W : World} {g : Nat} {f0 : Int} {f1 : Int} {α : Type} {d : Kd α} {e : Nat} {base : Nat} {ok : Nat → Prop} {v : Value} {xs : List α} (h : IsS54 w0 W g f0 f1) (ho : Kd.N d e W base ok v xs) (ht : e ≠ 54) : some g ≠ v.ownBlock := by
 obtain ⟨hb, hg⟩ := h; exact Kd.N_ne ho hb ht
theorem IsS54.fresh {w0 W : World} {g : Nat} {f0 : Int} {f1 : Int} (h : IsS54 w0 W g f0 f1) : ∀ k, W.heap.size ≤ k → k ≠ g := by
 obtain ⟨hb, hg⟩ := h; exact Kd.freshB hb
theorem IsS54.kept {w0 W : World} {g : Nat} {f0 : Int} {f1 : Int} {W1 : World} {S : Nat → Prop} (h : IsS54 w0 W g f0 f1) (hk : Kept W W1 S) (hne : ¬ S g) : IsS54 w0 W1 g f0 f1 := by
 obtain ⟨hb, hg⟩ := h; exact ⟨blk_kept hb hk hne, hg⟩
theorem IsS54.below {w0 W : World} {g : Nat} {f0 : Int} {f1 : Int} {W1 : World} (h : IsS54 w0 W g f0 f1) (hw : Below W.heap.size W W1) : IsS54 w0 W1 g f0 f1 := h.grown (grown_of_below hw none) (by simp)
theorem IsS54.alloc {w0 W : World} {g : Nat} {f0 : Int} {f1 : Int} (h : IsS54 w0 W g f0 f1) (o : Obj) : IsS54 w0 (W.alloc o) g f0 f1 := h.below (below_alloc (Below.refl _ _) o)
theorem IsS54.drewN {w0 W : World} {g : Nat} {f0 : Int} {f1 : Int} (h : IsS54 w0 W g f0 f1) (m : Nat) : IsS54 w0 (W.drewN m) g f0 f1 := h
theorem IsS54.drew {w0 W : World} {g : Nat} {f0 : Int} {f1 : Int} (h : IsS54 w0 W g f0 f1) : IsS54 w0 W.drew g f0 f1 := h
theorem IsS54.at_ {w0 W : World} {g : Nat} {f0 : Int} {f1 : Int} {w' : World} {m : Nat} (hq : W.drewN m = w') (h : IsS54 w0 W g f0 f1) : IsS54 w0 w' g f0 f1 := by subst hq; exact IsS54.drewN h m
theorem IsS54.apart {w0 W : World} {g : Nat} {f0 : Int} {f1 : Int} {α : Type} {d : Kd α} {e : Nat} {base : Nat} {ok : Nat → Prop} {v : Value} {xs : List α} (h : IsS54 w0 W g f0 f1) (ho : d.R e W base ok v xs) (ht : ∀ q, q ∈ e :: d.E → q ≠ 54) : d.R e W base (fun k => ok k ∧ k ≠ g) v xs := by
 obtain ⟨hb, hg⟩ := h; exact Kd.R_types ho hb ht
theorem IsS54.own_ne {w0 W : World} {g : Nat} {f0 : Int} {f1 : Int} {α : Type} {d : Kd α} {e : Nat} {base : Nat} {ok : Nat → Prop} {v : Value} {xs : List α} (h : IsS54 w0 W g f0 f1) (ho : d.R e W base ok v xs) (ht : e ≠ 54) : some g ≠ v.ownBlock := by
 obtain ⟨hb, hg⟩ := h; exact Kd.R_ne ho hb ht
theorem IsS54.apartQ {w0 W : World} {g : Nat} {f0 : Int} {f1 : Int} {α : Type} {d : Kd α} {e : Nat} {base : Nat} {ok : Nat → Prop} {v : Value} {xs : List α} (h : IsS54 w0 W g f0 f1) (ho : d.Q e W base ok v xs) (ht : ∀ q, q ∈ e :: d.E → q ≠ 54) : d.Q e W base (fun k => ok k ∧ k ≠ g) v xs := by
 obtain ⟨hb, hg⟩ := h; exact Kd.Q_types ho hb ht
theorem IsS54.own_neQ {w0 W : World} {g : Nat} {f0 : Int} {f1 : Int} {α : Type} {d : Kd α} {e : Nat} {base : Nat} {ok : Nat → Prop} {v : Value} {xs : List α} (h : IsS54 w0 W g f0 f1) (ho : d.Q e W base ok v xs) (ht : e ≠ 54) : some g ≠ v.ownBlock := by
 obtain ⟨hb, hg⟩ := h; exact Kd.Q_ne ho hb ht
theorem IsS54.apartS {w0 W : World} {g : Nat} {f0 : Int} {f1 : Int} {α : Type} {d : Kd α} {e : Nat} {base : Nat} {ok : Nat → Prop} {v : Value} {xs : List α} (h : IsS54 w0 W g f0 f1) (ho : d.S e W base ok v xs) (ht : ∀ q, q ∈ e :: d.E → q ≠ 54) : d.S e W base (fun k => ok k ∧ k ≠ g) v xs := by
 obtain ⟨hb, hg⟩ := h; exact Kd.S_types ho hb ht
theorem IsS54.own_neS {w0 W : World} {g : Nat} {f0 : Int} {f1 : Int} {α : Type} {d : Kd α} {e : Nat} {base : Nat} {ok : Nat → Prop} {v : Value} {xs : List α} (h : IsS54 w0 W g f0 f1) (ho : d.S e W base ok v xs) (ht : e ≠ 54) : some g ≠ v.ownBlock := by
 obtain ⟨hb, hg⟩ := h; exact Kd.S_ne ho hb ht
theorem IsS54.lt {w0 W : World} {g : Nat} {f0 : Int} {f1 : Int} (h : IsS54 w0 W g f0 f1) : g < W.heap.size := by
 obtain ⟨hb, hg⟩ := h; exact blk_lt hb
theorem IsS54.ge {w0 W : World} {g : Nat} {f0 : Int} {f1 : Int} (h : IsS54 w0 W g f0 f1) : w0.heap.size ≤ g := by
 obtain ⟨hb, hg⟩ := h; exact hg
theorem IsS54.ne_blk {w0 W : World} {g : Nat} {f0 : Int} {f1 : Int} {a : Nat} {cs : Array Value} {t : TypeId} {fr : Nat × Nat} (h : IsS54 w0 W g f0 f1) (hb2 : W.heap[a]? = some (.cells cs t fr)) (ht : t ≠ 54) : g ≠ a := by
 obtain ⟨hb, hg⟩ := h; rintro rfl; rw [hb] at hb2
 injection hb2 with hb2
 injection hb2 with _ ht2
 exact ht ht2.symm
theorem IsS54.far {w0 W : World} {g : Nat} {f0 : Int} {f1 : Int} {p : Addr} (h : IsS54 w0 W g f0 f1) (hne : g ≠ p.block) (u : Value) : IsS54 w0 (W.setCell p u) g f0 f1 := by
 obtain ⟨hb, hg⟩ := h; exact ⟨blk_far hb hne u, hg⟩
theorem cellS54_0 {W : World} {g : Nat} {f0 : Int} {f1 : Int} (h : W.heap[g]? = some (.cells #[.int .i64 f0, .int .i64 f1] 54 (0, 0))) : W.cell? ⟨g, 0, none⟩ = some (.int .i64 f0) := (blk_cell h 0).trans rfl
theorem IsS54.set_0 {w0 W : World} {g : Nat} {f0 : Int} {f1 : Int} (h : IsS54 w0 W g f0 f1) (x : Int) : IsS54 w0 (W.setCell ⟨g, 0, none⟩ (.int .i64 x)) g x f1 := by
 obtain ⟨hb, hg⟩ := h; exact ⟨by simpa using blk_set hb 0 (.int .i64 x), hg⟩
theorem cellS54_1 {W : World} {g : Nat} {f0 : Int} {f1 : Int} (h : W.heap[g]? = some (.cells #[.int .i64 f0, .int .i64 f1] 54 (0, 0))) : W.cell? ⟨g, 1, none⟩ = some (.int .i64 f1) := (blk_cell h 1).trans rfl
theorem IsS54.set_1 {w0 W : World} {g : Nat} {f0 : Int} {f1 : Int} (h : IsS54 w0 W g f0 f1) (x : Int) : IsS54 w0 (W.setCell ⟨g, 1, none⟩ (.int .i64 x)) g f0 x := by
 obtain ⟨hb, hg⟩ := h; exact ⟨by simpa using blk_set hb 1 (.int .i64 x), hg⟩
theorem IsS54.new (w0 W : World) (f0 : Int) (f1 : Int) (hB : Below w0.heap.size w0 W) : IsS54 w0 (W.alloc (.cells #[.int .i64 f0, .int .i64 f1] 54)) W.heap.size f0 f1 := ⟨by simpa using heap_alloc_new W _, hB.size⟩
def L_ConstantOf_1.f (a0_0 : Int) (a0_1 : Int) (s1_0 : Int) (s1_1 : Int) : Option (Int × Int × Int) := (L_isConstant.f a0_0).bind fun t723 => (if t723 = true then ((L_within.f a0_1 0 1000000).bind fun t724 => (if t724 = true then (some (0, mx s1_0 (wrap64 (a0_0 - a0_1)), mn s1_1 (wrap64 (a0_0 + a0_1)))) else (some (2, s1_0, s1_1)))) else (some (2, s1_0, s1_1)))
theorem L_ConstantOf_1.calls (a0_0 : Int) (a0_1 : Int) (g : Nat) (s1_0 : Int) (s1_1 : Int) (r1 : Int) (r2 : Int) (r3 : Int) (w0 w : World) (hI : IsS54 w0 w g s1_0 s1_1) (hB : Below w0.heap.size w0 w) (H : L_ConstantOf_1.f a0_0 a0_1 s1_0 s1_1 = some (r1, r2, r3)) :
  Calls Try.prog 94 #[.agg #[.int .i64 a0_0, .int .i64 a0_1], .pointer (some ⟨g, 0, none⟩)] w fun e w' => e = .returned (.int .i64 r1) ∧ IsS54 w0 w' g r2 r3 ∧ Below w0.heap.size w0 w' ∧ KeepBut w w' g none := by
 have hu138 := Try.underlying138; have hu54 := Try.underlying54; have HI1 := m0 hI; have HK := m0 (KeepBut.refl w g none); have HL := m0 hB.size; clear hI; have HW0 := m0 hB.size; have HB := m0 hB; clear hB; unfold L_ConstantOf_1.f at H; replace H := oa H; obtain ⟨t723, A3, H⟩ := H; (try dsimp only at H)
 by_cases c4 : t723 = true
 ·subst c4; rw [if_pos rfl] at H; replace H := oa H; obtain ⟨t724, A5, H⟩ := H; (try dsimp only at H)
  by_cases c6 : t724 = true
  ·subst c6; rw [if_pos rfl] at H; obtain ⟨ji7, hji7⟩ : ∃ j_ : Int, (mx s1_0 (wrap64 (a0_0 - a0_1))) = j_ := ⟨_, rfl⟩; replace H : (some (0, ji7, mn s1_1 (wrap64 (a0_0 + a0_1)))) = some (r1, r2, r3) := by first | (rw [hji7] at H; exact H) | (simp only [hji7] at H ⊢; exact H)
   (try rw [hji7] at A3); (try rw [hji7] at A5); have hji7_ : (if s1_0 < (wrap64 (a0_0 - a0_1)) then (wrap64 (a0_0 - a0_1)) else s1_0) = ji7 := hji7; obtain ⟨ji8, hji8⟩ : ∃ j_ : Int, (mn s1_1 (wrap64 (a0_0 + a0_1))) = j_ := ⟨_, rfl⟩; replace H : (some (0, ji7, ji8)) = some (r1, r2, r3) := by first | (rw [hji8] at H; exact H) | (simp only [hji8] at H ⊢; exact H)
   (try rw [hji8] at A3); (try rw [hji8] at A5); have hji8_ : (if (wrap64 (a0_0 + a0_1)) < s1_1 then (wrap64 (a0_0 + a0_1)) else s1_1) = ji8 := hji8; simp only [Option.some.injEq, Prod.mk.injEq] at H; obtain ⟨rfl, rfl, rfl⟩ := H; go_enter Try.func94, Try.ntmps94
   go_wp2_with (first | ((with_reducible refine ga 2 rfl ?_); refine be 2 138 #[.int .i64 a0_0, .int .i64 a0_1] ?_; intro gb722 hg w9 hbox hb; replace HB := m0 (below_step (by repeat (first | (with_reducible first | exact HB.out | apply below_alloc | apply pw_below_drewN | apply below_drew1 | refine below_set ?_ (IsS54.ge HI1.out)) | exact HB.out)) hb); have BK722 := m0 hbox; have GW722 := m0 ((by rw [hg]; exact (keep_size (w := w) (g := g) (row := none) (by repeat (first | (with_reducible first | exact HK.out | apply KeepBut.set_ | apply keep_drewN | apply keep_drew | apply keep_alloc) | exact HK.out))) : w.heap.size ≤ gb722)); have GE722 := m0 ((Nat.le_trans HW0.out (by rw [hg]; exact (keep_size (w := w) (g := g) (row := none) (by repeat (first | (with_reducible first | exact HK.out | apply KeepBut.set_ | apply keep_drewN | apply keep_drew | apply keep_alloc) | exact HK.out))) : w.heap.size ≤ gb722) : w0.heap.size ≤ gb722)); replace HK := m0 (KeepBut.trans (by repeat (first | (with_reducible first | exact HK.out | apply KeepBut.set_ | apply keep_drewN | apply keep_drew | apply keep_alloc) | exact HK.out)) (KeepBut.of_below hb g none) (.inl rfl)); have NB1_722 := m0 ((by rw [hg]; exact Nat.ne_of_lt (IsS54.lt (show IsS54 w0 _ g s1_0 s1_1 from by repeat (first | (with_reducible first | exact HI1.out | apply IsS54.alloc | apply IsS54.drewN | apply IsS54.drew | apply IsS54.set_0 | apply IsS54.set_1) | exact HI1.out))) : g ≠ gb722)); have NB722_1 := m0 ((by rw [hg]; exact Nat.ne_of_gt (IsS54.lt (show IsS54 w0 _ g s1_0 s1_1 from by repeat (first | (with_reducible first | exact HI1.out | apply IsS54.alloc | apply IsS54.drewN | apply IsS54.drew | apply IsS54.set_0 | apply IsS54.set_1) | exact HI1.out))) : gb722 ≠ g)); replace HI1 := m0 (IsS54.below (by repeat (first | (with_reducible first | exact HI1.out | apply IsS54.alloc | apply IsS54.drewN | apply IsS54.drew | apply IsS54.set_0 | apply IsS54.set_1) | exact HI1.out)) hb); clear hb hbox hg; have hnb10 := NB722_1.out; have hnc10 := NB1_722.out; obtain ⟨_, _, _, _⟩ := b2 BK722) | ((with_reducible refine gc 95 rfl ?_); refine gl (some 6) Try.func95 #[.int .i64 a0_0] ?_; (with_reducible refine (L_isConstant.calls a0_0 true _ A3.out).mono ?_); rintro e w' ⟨rfl, ⟨nd, rfl⟩⟩; refine ⟨_, rfl, ?_⟩; (try (rw [drewN_self w9]; generalize hq_ : World.drewN w9 _ = w9; have n0_ := gd BK722 hq_; have n1_ : Aside0 (IsS54 w0 w9 g s1_0 s1_1) := ⟨by rw [← hq_]; exact (by repeat (first | (with_reducible first | exact HI1.out | apply IsS54.alloc | apply IsS54.drewN | apply IsS54.drew | apply IsS54.set_0 | apply IsS54.set_1 | refine IsS54.far ?_ NB1_722.out _) | exact HI1.out))⟩; have n2_ : Aside0 (KeepBut w w9 g none) := ⟨by rw [← hq_]; exact (by repeat (first | (with_reducible first | exact HK.out | apply KeepBut.set_ | apply keep_drewN | apply keep_drew | apply keep_alloc | refine keep_far ?_ GW722.out _) | exact HK.out))⟩; have n3_ : Aside0 (Below w0.heap.size w0 w9) := ⟨by rw [← hq_]; exact (by repeat (first | (with_reducible first | exact HB.out | apply below_alloc | apply pw_below_drewN | apply below_drew1 | refine below_set ?_ (IsS54.ge HI1.out) | refine below_set ?_ GE722.out) | exact HB.out))⟩; clear BK722 HI1 HK HB hq_; have BK722 := n0_; have HI1 := n1_; have HK := n2_; have HB := n3_; clear n0_ n1_ n2_ n3_)); obtain ⟨_, _, _, _⟩ := b2 BK722) | (go_at_call 70; (with_reducible refine (L_within.calls a0_1 0 1000000 true _ A5.out).mono ?_); rintro e w' ⟨rfl, ⟨nd, rfl⟩⟩; (try (rw [drewN_self w9]; generalize hq_ : World.drewN w9 _ = w9; have n0_ := gd BK722 hq_; have n1_ : Aside0 (IsS54 w0 w9 g s1_0 s1_1) := ⟨by rw [← hq_]; exact (by repeat (first | (with_reducible first | exact HI1.out | apply IsS54.alloc | apply IsS54.drewN | apply IsS54.drew | apply IsS54.set_0 | apply IsS54.set_1 | refine IsS54.far ?_ NB1_722.out _) | exact HI1.out))⟩; have n2_ : Aside0 (KeepBut w w9 g none) := ⟨by rw [← hq_]; exact (by repeat (first | (with_reducible first | exact HK.out | apply KeepBut.set_ | apply keep_drewN | apply keep_drew | apply keep_alloc | refine keep_far ?_ GW722.out _) | exact HK.out))⟩; have n3_ : Aside0 (Below w0.heap.size w0 w9) := ⟨by rw [← hq_]; exact (by repeat (first | (with_reducible first | exact HB.out | apply below_alloc | apply pw_below_drewN | apply below_drew1 | refine below_set ?_ (IsS54.ge HI1.out) | refine below_set ?_ GE722.out) | exact HB.out))⟩; clear BK722 HI1 HK HB hq_; have BK722 := n0_; have HI1 := n1_; have HK := n2_; have HB := n3_; clear n0_ n1_ n2_ n3_)); obtain ⟨HGz13, hgz13⟩ := HI1.out; have hcz13_0 := cellS54_0 HGz13; have hcz13_1 := cellS54_1 HGz13; have hfz13_0 := blk_frozen HGz13 0; have hfz13_1 := blk_frozen HGz13 1; clear HGz13 hgz13; obtain ⟨_, _, _, _⟩ := b2 BK722))
   go_ret
   exact ⟨by first | rfl | (simp [errW_none, errW_some] <;> rfl) | (simp only [← hji7, ← hji8]; first | rfl | (simp [errW_none, errW_some] <;> rfl)) | (simp [*, errW_none, errW_some] <;> rfl), by repeat (first | (with_reducible first | exact HI1.out | apply IsS54.alloc | apply IsS54.drewN | apply IsS54.drew | apply IsS54.set_0 | apply IsS54.set_1 | refine IsS54.far ?_ NB1_722.out _) | exact HI1.out), by repeat (first | (with_reducible first | exact HB.out | apply below_alloc | apply pw_below_drewN | apply below_drew1 | refine below_set ?_ (IsS54.ge HI1.out) | refine below_set ?_ GE722.out) | exact HB.out), by repeat (first | (with_reducible first | exact HK.out | apply KeepBut.set_ | apply keep_drewN | apply keep_drew | apply keep_alloc | refine keep_far ?_ GW722.out _) | exact HK.out)⟩
  ·replace c6 := Bool.eq_false_iff.mpr c6; subst c6; rw [if_neg (show ¬ (false = true) by decide)] at H; simp only [Option.some.injEq, Prod.mk.injEq] at H; obtain ⟨rfl, rfl, rfl⟩ := H; go_enter Try.func94, Try.ntmps94
   go_wp2_with (first | ((with_reducible refine ga 2 rfl ?_); refine be 2 138 #[.int .i64 a0_0, .int .i64 a0_1] ?_; intro gb722 hg w15 hbox hb; replace HB := m0 (below_step (by repeat (first | (with_reducible first | exact HB.out | apply below_alloc | apply pw_below_drewN | apply below_drew1 | refine below_set ?_ (IsS54.ge HI1.out)) | exact HB.out)) hb); have BK722 := m0 hbox; have GW722 := m0 ((by rw [hg]; exact (keep_size (w := w) (g := g) (row := none) (by repeat (first | (with_reducible first | exact HK.out | apply KeepBut.set_ | apply keep_drewN | apply keep_drew | apply keep_alloc) | exact HK.out))) : w.heap.size ≤ gb722)); have GE722 := m0 ((Nat.le_trans HW0.out (by rw [hg]; exact (keep_size (w := w) (g := g) (row := none) (by repeat (first | (with_reducible first | exact HK.out | apply KeepBut.set_ | apply keep_drewN | apply keep_drew | apply keep_alloc) | exact HK.out))) : w.heap.size ≤ gb722) : w0.heap.size ≤ gb722)); replace HK := m0 (KeepBut.trans (by repeat (first | (with_reducible first | exact HK.out | apply KeepBut.set_ | apply keep_drewN | apply keep_drew | apply keep_alloc) | exact HK.out)) (KeepBut.of_below hb g none) (.inl rfl)); have NB1_722 := m0 ((by rw [hg]; exact Nat.ne_of_lt (IsS54.lt (show IsS54 w0 _ g s1_0 s1_1 from by repeat (first | (with_reducible first | exact HI1.out | apply IsS54.alloc | apply IsS54.drewN | apply IsS54.drew | apply IsS54.set_0 | apply IsS54.set_1) | exact HI1.out))) : g ≠ gb722)); have NB722_1 := m0 ((by rw [hg]; exact Nat.ne_of_gt (IsS54.lt (show IsS54 w0 _ g s1_0 s1_1 from by repeat (first | (with_reducible first | exact HI1.out | apply IsS54.alloc | apply IsS54.drewN | apply IsS54.drew | apply IsS54.set_0 | apply IsS54.set_1) | exact HI1.out))) : gb722 ≠ g)); replace HI1 := m0 (IsS54.below (by repeat (first | (with_reducible first | exact HI1.out | apply IsS54.alloc | apply IsS54.drewN | apply IsS54.drew | apply IsS54.set_0 | apply IsS54.set_1) | exact HI1.out)) hb); clear hb hbox hg; have hnb16 := NB722_1.out; have hnc16 := NB1_722.out; obtain ⟨_, _, _, _⟩ := b2 BK722) | ((with_reducible refine gc 95 rfl ?_); refine gl (some 6) Try.func95 #[.int .i64 a0_0] ?_; (with_reducible refine (L_isConstant.calls a0_0 true _ A3.out).mono ?_); rintro e w' ⟨rfl, ⟨nd, rfl⟩⟩; refine ⟨_, rfl, ?_⟩) | (go_at_call 70; (with_reducible refine (L_within.calls a0_1 0 1000000 false _ A5.out).mono ?_); rintro e w' ⟨rfl, ⟨nd, rfl⟩⟩))
   go_ret
   exact ⟨by first | rfl | (simp [errW_none, errW_some] <;> rfl) | (simp [*, errW_none, errW_some] <;> rfl), by repeat (first | (with_reducible first | exact HI1.out | apply IsS54.alloc | apply IsS54.drewN | apply IsS54.drew | apply IsS54.set_0 | apply IsS54.set_1 | refine IsS54.far ?_ NB1_722.out _) | exact HI1.out), by repeat (first | (with_reducible first | exact HB.out | apply below_alloc | apply pw_below_drewN | apply below_drew1 | refine below_set ?_ (IsS54.ge HI1.out) | refine below_set ?_ GE722.out) | exact HB.out), by repeat (first | (with_reducible first | exact HK.out | apply KeepBut.set_ | apply keep_drewN | apply keep_drew | apply keep_alloc | refine keep_far ?_ GW722.out _) | exact HK.out)⟩
 ·replace c4 := Bool.eq_false_iff.mpr c4; subst c4; rw [if_neg (show ¬ (false = true) by decide)] at H; simp only [Option.some.injEq, Prod.mk.injEq] at H; obtain ⟨rfl, rfl, rfl⟩ := H; go_enter Try.func94, Try.ntmps94
  go_wp2_with (first | ((with_reducible refine ga 2 rfl ?_); refine be 2 138 #[.int .i64 a0_0, .int .i64 a0_1] ?_; intro gb722 hg w18 hbox hb; replace HB := m0 (below_step (by repeat (first | (with_reducible first | exact HB.out | apply below_alloc | apply pw_below_drewN | apply below_drew1 | refine below_set ?_ (IsS54.ge HI1.out)) | exact HB.out)) hb); have BK722 := m0 hbox; have GW722 := m0 ((by rw [hg]; exact (keep_size (w := w) (g := g) (row := none) (by repeat (first | (with_reducible first | exact HK.out | apply KeepBut.set_ | apply keep_drewN | apply keep_drew | apply keep_alloc) | exact HK.out))) : w.heap.size ≤ gb722)); have GE722 := m0 ((Nat.le_trans HW0.out (by rw [hg]; exact (keep_size (w := w) (g := g) (row := none) (by repeat (first | (with_reducible first | exact HK.out | apply KeepBut.set_ | apply keep_drewN | apply keep_drew | apply keep_alloc) | exact HK.out))) : w.heap.size ≤ gb722) : w0.heap.size ≤ gb722)); replace HK := m0 (KeepBut.trans (by repeat (first | (with_reducible first | exact HK.out | apply KeepBut.set_ | apply keep_drewN | apply keep_drew | apply keep_alloc) | exact HK.out)) (KeepBut.of_below hb g none) (.inl rfl)); have NB1_722 := m0 ((by rw [hg]; exact Nat.ne_of_lt (IsS54.lt (show IsS54 w0 _ g s1_0 s1_1 from by repeat (first | (with_reducible first | exact HI1.out | apply IsS54.alloc | apply IsS54.drewN | apply IsS54.drew | apply IsS54.set_0 | apply IsS54.set_1) | exact HI1.out))) : g ≠ gb722)); have NB722_1 := m0 ((by rw [hg]; exact Nat.ne_of_gt (IsS54.lt (show IsS54 w0 _ g s1_0 s1_1 from by repeat (first | (with_reducible first | exact HI1.out | apply IsS54.alloc | apply IsS54.drewN | apply IsS54.drew | apply IsS54.set_0 | apply IsS54.set_1) | exact HI1.out))) : gb722 ≠ g)); replace HI1 := m0 (IsS54.below (by repeat (first | (with_reducible first | exact HI1.out | apply IsS54.alloc | apply IsS54.drewN | apply IsS54.drew | apply IsS54.set_0 | apply IsS54.set_1) | exact HI1.out)) hb); clear hb hbox hg; have hnb19 := NB722_1.out; have hnc19 := NB1_722.out; obtain ⟨_, _, _, _⟩ := b2 BK722) | ((with_reducible refine gc 95 rfl ?_); refine gl (some 6) Try.func95 #[.int .i64 a0_0] ?_; (with_reducible refine (L_isConstant.calls a0_0 false _ A3.out).mono ?_); rintro e w' ⟨rfl, ⟨nd, rfl⟩⟩; refine ⟨_, rfl, ?_⟩))
  go_ret
  exact ⟨by first | rfl | (simp [errW_none, errW_some] <;> rfl) | (simp [*, errW_none, errW_some] <;> rfl), by repeat (first | (with_reducible first | exact HI1.out | apply IsS54.alloc | apply IsS54.drewN | apply IsS54.drew | apply IsS54.set_0 | apply IsS54.set_1 | refine IsS54.far ?_ NB1_722.out _) | exact HI1.out), by repeat (first | (with_reducible first | exact HB.out | apply below_alloc | apply pw_below_drewN | apply below_drew1 | refine below_set ?_ (IsS54.ge HI1.out) | refine below_set ?_ GE722.out) | exact HB.out), by repeat (first | (with_reducible first | exact HK.out | apply KeepBut.set_ | apply keep_drewN | apply keep_drew | apply keep_alloc | refine keep_far ?_ GW722.out _) | exact HK.out)⟩
end
section
def api_CloudPoint_ConstantOf_1.l0 : Nat → List (S138) → Int → Int → Int → Int → Option (Int × Int × Int × Int)
 | 0, _, _, _, _, _ => none
 | k + 1, x9, x10, x11, x2000, x2001 => if x11 < x10 then (if 0 ≤ x11 then (if x11 < (x9.length : Int) then ((L_ConstantOf_1.f ((rd_T138 x9 x11).f0) ((rd_T138 x9 x11).f1) x2000 x2001).bind fun bt727 => (if bt727.1 = 0 then (api_CloudPoint_ConstantOf_1.l0 k x9 x10 (wrap64 (x11 + 1)) bt727.2.1 bt727.2.2) else (some (x11, bt727.1, bt727.2.1, bt727.2.2)))) else (none)) else (none)) else (some (0, 0, x2000, x2001))
def api_CloudPoint_ConstantOf_1.f (k : Nat) (l0 : List (S138)) (s1_0 : Int) (s1_1 : Int) : Option (Int × Int × Int × Int) := api_CloudPoint_ConstantOf_1.l0 k l0 (l0.length : Int) 0 s1_0 s1_1
theorem api_CloudPoint_ConstantOf_1.mono_l : ∀ k, (∀ y0 y1 y2 y3 y4, LeO (api_CloudPoint_ConstantOf_1.l0 k y0 y1 y2 y3 y4) (api_CloudPoint_ConstantOf_1.l0 (k + 1) y0 y1 y2 y3 y4))
 | 0 => fun _ _ _ _ _ r h => by simp [api_CloudPoint_ConstantOf_1.l0] at h
 | k + 1 => by
  have ih0 := api_CloudPoint_ConstantOf_1.mono_l k
  ·intro y0 y1 y2 y3 y4; unfold api_CloudPoint_ConstantOf_1.l0
   repeat' with_reducible first
    | exact ih0 ..
    | exact LeO.refl ..
    | exact LeO.none ..
    | refine LeO.ite ?_ ?_
    | refine LeO.bind ?_ (fun _ => ?_)
theorem api_CloudPoint_ConstantOf_1.mono : ∀ a0 a1 a2 k, LeO (api_CloudPoint_ConstantOf_1.f k a0 a1 a2) (api_CloudPoint_ConstantOf_1.f (k + 1) a0 a1 a2) := by
 intro a0 a1 a2 k; have ih0 := api_CloudPoint_ConstantOf_1.mono_l k; unfold api_CloudPoint_ConstantOf_1.f
 repeat' with_reducible first
  | exact ih0 ..
  | exact LeO.refl ..
  | exact LeO.none ..
  | refine LeO.ite ?_ ?_
  | refine LeO.bind ?_ (fun _ => ?_)
theorem api_CloudPoint_ConstantOf_1.calls (k : Nat) (A0 : Option Addr) (c0 : Nat) (l0 : List (S138)) (g : Nat) (s1_0 : Int) (s1_1 : Int) (r1 : Int) (r2 : Int) (r3 : Int) (r4 : Int) (w0 w : World) (hI : IsS54 w0 w g s1_0 s1_1) (hB : Below w0.heap.size w0 w) (hr0 : ∀ W_, KeepBut w W_ g none → Kd.C k138 W_ A0 l0.length l0) (hc0 : l0.length ≤ c0) (H : api_CloudPoint_ConstantOf_1.f k l0 s1_0 s1_1 = some (r1, r2, r3, r4)) :
  Calls Try.prog 93 #[.slice A0 l0.length c0, .func (.func 94) #[] #[.pointer (some ⟨g, 0, none⟩)]] w fun e w' => e = .returned (.tuple #[.int .i64 r1, .int .i64 r2]) ∧ IsS54 w0 w' g r3 r4 ∧ Below w0.heap.size w0 w' ∧ KeepBut w w' g none := by
 have hu138 := Try.underlying138; have HR0 := m0 hr0; have HC0 := m0 hc0; clear hr0 hc0; have HI1 := m0 hI; have HK := m0 (KeepBut.refl w g none); have HL := m0 hB.size; clear hI; have HW0 := m0 hB.size; have HB := m0 hB; clear hB; unfold api_CloudPoint_ConstantOf_1.f at H; have H' := m0 H; clear H; go_enter Try.func93, Try.ntmps93
 go_wp2
 go_loopg [11] k (fun kq v11 w' => ∃ (x11_1 : Int) (x2000_1 : Int) (x2001_1 : Int), v11 = .int .i64 x11_1 ∧ Aside0 (api_CloudPoint_ConstantOf_1.l0 kq l0 (l0.length : Int) x11_1 x2000_1 x2001_1 = some (r1, r2, r3, r4)) ∧ Aside0 (kq ≤ k) ∧ Aside0 (IsS54 w0 w' g x2000_1 x2001_1) ∧ Aside0 (KeepBut w w' g none) ∧ Aside0 (Below w0.heap.size w0 w'))
 case atStart => exact ⟨(0), (s1_0), (s1_1), rz, H', ⟨Nat.le_refl _⟩, ⟨by repeat (first | (with_reducible first | exact HI1.out | apply IsS54.alloc | apply IsS54.drewN | apply IsS54.drew | apply IsS54.set_0 | apply IsS54.set_1) | exact HI1.out)⟩, ⟨by repeat (first | (with_reducible first | exact HK.out | apply KeepBut.set_ | apply keep_drewN | apply keep_drew | apply keep_alloc) | exact HK.out)⟩, ⟨by repeat (first | (with_reducible first | exact HB.out | apply below_alloc | apply pw_below_drewN | apply below_drew1 | refine below_set ?_ (IsS54.ge HI1.out)) | exact HB.out)⟩⟩
 case round =>
  clear H'; obtain ⟨x11_1, x2000_1, x2001_1, rfl, HA, HK1, HI1, HK, HB⟩ := hrel
  cases gk with
  | zero => exact absurd HA.out (by simp [api_CloudPoint_ConstantOf_1.l0])
  | succ k1 =>
   have H := HA.out; clear HA; simp only [api_CloudPoint_ConstantOf_1.l0] at H
   by_cases c3 : x11_1 < (l0.length : Int)
   ·rw [if_pos c3] at H; have c3b0 := decide_eq_true c3; clear c3
    by_cases c4 : 0 ≤ x11_1
    ·rw [if_pos c4] at H; have c4b0 := decide_eq_true c4; clear c4
     by_cases c5 : x11_1 < (l0.length : Int)
     ·rw [if_pos c5] at H; have c5b0 := decide_eq_true c5; clear c5; replace H := oa H; obtain ⟨⟨t727, t728, t729⟩, A6, H⟩ := H; (try dsimp only at H)
      by_cases c7 : t727 = 0
      ·rw [if_pos c7] at H; have c7b0 := beq_iff_eq.mpr c7; have c7b1 := bne_eq_false_iff_eq.mpr c7; clear c7; have H' := m0 H; clear H; have p725 : 0 ≤ (x11_1 : Int) := od; have q725 : x11_1 < (l0.length : Int) := od; obtain ⟨ad725, e725, hx725_0, hx725_1⟩ := at_T138 (Kd.C_foot_now HR0.out HK.out) x11_1 p725 q725
       cases e725
       replace p725 := eq_true p725; replace q725 := eq_true q725
       go_wp2_with (first | ((with_reducible refine ga 7 rfl ?_); refine be 7 138 #[.int .i64 0, .int .i64 0] ?_; intro gb726 hg w8 hbox hb; replace HB := m0 (below_step (by repeat (first | (with_reducible first | exact HB.out | apply below_alloc | apply pw_below_drewN | apply below_drew1 | refine below_set ?_ (IsS54.ge HI1.out)) | exact HB.out)) hb); have BK726 := m0 hbox; have GW726 := m0 ((by rw [hg]; exact (keep_size (w := w) (g := g) (row := none) (by repeat (first | (with_reducible first | exact HK.out | apply KeepBut.set_ | apply keep_drewN | apply keep_drew | apply keep_alloc) | exact HK.out))) : w.heap.size ≤ gb726)); have GE726 := m0 ((Nat.le_trans HW0.out (by rw [hg]; exact (keep_size (w := w) (g := g) (row := none) (by repeat (first | (with_reducible first | exact HK.out | apply KeepBut.set_ | apply keep_drewN | apply keep_drew | apply keep_alloc) | exact HK.out))) : w.heap.size ≤ gb726) : w0.heap.size ≤ gb726)); replace HK := m0 (KeepBut.trans (by repeat (first | (with_reducible first | exact HK.out | apply KeepBut.set_ | apply keep_drewN | apply keep_drew | apply keep_alloc) | exact HK.out)) (KeepBut.of_below hb g none) (.inl rfl)); have NB1_726 := m0 ((by rw [hg]; exact Nat.ne_of_lt (IsS54.lt (show IsS54 w0 _ g x2000_1 x2001_1 from by repeat (first | (with_reducible first | exact HI1.out | apply IsS54.alloc | apply IsS54.drewN | apply IsS54.drew | apply IsS54.set_0 | apply IsS54.set_1) | exact HI1.out))) : g ≠ gb726)); have NB726_1 := m0 ((by rw [hg]; exact Nat.ne_of_gt (IsS54.lt (show IsS54 w0 _ g x2000_1 x2001_1 from by repeat (first | (with_reducible first | exact HI1.out | apply IsS54.alloc | apply IsS54.drewN | apply IsS54.drew | apply IsS54.set_0 | apply IsS54.set_1) | exact HI1.out))) : gb726 ≠ g)); replace HI1 := m0 (IsS54.below (by repeat (first | (with_reducible first | exact HI1.out | apply IsS54.alloc | apply IsS54.drewN | apply IsS54.drew | apply IsS54.set_0 | apply IsS54.set_1) | exact HI1.out)) hb); clear hb hbox hg; have hnb9 := NB726_1.out; have hnc9 := NB1_726.out; obtain ⟨_, _, _, _⟩ := b2 BK726) | (go_at_call 94; (with_reducible refine (L_ConstantOf_1.calls ((rd_T138 l0 x11_1).f0) ((rd_T138 l0 x11_1).f1) g x2000_1 x2001_1 t727 t728 t729 w0 _ ?side1 ?side2 A6.out).mono ?_); (case side1 => repeat (first | (with_reducible first | exact HI1.out | apply IsS54.alloc | apply IsS54.drewN | apply IsS54.drew | apply IsS54.set_0 | apply IsS54.set_1 | refine IsS54.far ?_ NB1_726.out _) | exact HI1.out)); (case side2 => repeat (first | (with_reducible first | exact HB.out | apply below_alloc | apply pw_below_drewN | apply below_drew1 | refine below_set ?_ (IsS54.ge HI1.out) | refine below_set ?_ GE726.out) | exact HB.out)); rintro e w11 ⟨rfl, hi, hb, hk⟩; replace BK726 := m0 (KeepBut.blk hk (g' := gb726) (o := .cells #[.int .i64 ((rd_T138 l0 x11_1).f0), .int .i64 ((rd_T138 l0 x11_1).f1)] 138 (0, 0)) (bq BK726.out) NB726_1.out (by simp)); replace HK := m0 (KeepBut.trans (by repeat (first | (with_reducible first | exact HK.out | apply KeepBut.set_ | apply keep_drewN | apply keep_drew | apply keep_alloc | refine keep_far ?_ GW726.out _) | exact HK.out)) hk (.inl rfl)); replace HB := m0 (hb); replace HI1 := m0 (hi); (try clear hb)))
       go_roundg k1
       case measure => have := HK1.out; omega
       case rel => exact ⟨(wrap64 (x11_1 + 1)), (t728), (t729), rz, H', ⟨by have := HK1.out; omega⟩, ⟨by repeat (first | (with_reducible first | exact HI1.out | apply IsS54.alloc | apply IsS54.drewN | apply IsS54.drew | apply IsS54.set_0 | apply IsS54.set_1 | refine IsS54.far ?_ NB1_726.out _) | exact HI1.out)⟩, ⟨by repeat (first | (with_reducible first | exact HK.out | apply KeepBut.set_ | apply keep_drewN | apply keep_drew | apply keep_alloc | refine keep_far ?_ GW726.out _) | exact HK.out)⟩, ⟨by repeat (first | (with_reducible first | exact HB.out | apply below_alloc | apply pw_below_drewN | apply below_drew1 | refine below_set ?_ (IsS54.ge HI1.out) | refine below_set ?_ GE726.out) | exact HB.out)⟩⟩
      ·rw [if_neg c7] at H; have c7b0 := beq_eq_false_iff_ne.mpr c7; have c7b1 := bne_iff_ne.mpr c7; simp only [Option.some.injEq, Prod.mk.injEq] at H; obtain ⟨rfl, rfl, rfl, rfl⟩ := H; have p725 : 0 ≤ (x11_1 : Int) := od; have q725 : x11_1 < (l0.length : Int) := od; obtain ⟨ad725, e725, hx725_0, hx725_1⟩ := at_T138 (Kd.C_foot_now HR0.out HK.out) x11_1 p725 q725
       cases e725
       replace p725 := eq_true p725; replace q725 := eq_true q725
       go_wp2_with (first | ((with_reducible refine ga 7 rfl ?_); refine be 7 138 #[.int .i64 0, .int .i64 0] ?_; intro gb726 hg w12 hbox hb; replace HB := m0 (below_step (by repeat (first | (with_reducible first | exact HB.out | apply below_alloc | apply pw_below_drewN | apply below_drew1 | refine below_set ?_ (IsS54.ge HI1.out)) | exact HB.out)) hb); have BK726 := m0 hbox; have GW726 := m0 ((by rw [hg]; exact (keep_size (w := w) (g := g) (row := none) (by repeat (first | (with_reducible first | exact HK.out | apply KeepBut.set_ | apply keep_drewN | apply keep_drew | apply keep_alloc) | exact HK.out))) : w.heap.size ≤ gb726)); have GE726 := m0 ((Nat.le_trans HW0.out (by rw [hg]; exact (keep_size (w := w) (g := g) (row := none) (by repeat (first | (with_reducible first | exact HK.out | apply KeepBut.set_ | apply keep_drewN | apply keep_drew | apply keep_alloc) | exact HK.out))) : w.heap.size ≤ gb726) : w0.heap.size ≤ gb726)); replace HK := m0 (KeepBut.trans (by repeat (first | (with_reducible first | exact HK.out | apply KeepBut.set_ | apply keep_drewN | apply keep_drew | apply keep_alloc) | exact HK.out)) (KeepBut.of_below hb g none) (.inl rfl)); have NB1_726 := m0 ((by rw [hg]; exact Nat.ne_of_lt (IsS54.lt (show IsS54 w0 _ g x2000_1 x2001_1 from by repeat (first | (with_reducible first | exact HI1.out | apply IsS54.alloc | apply IsS54.drewN | apply IsS54.drew | apply IsS54.set_0 | apply IsS54.set_1) | exact HI1.out))) : g ≠ gb726)); have NB726_1 := m0 ((by rw [hg]; exact Nat.ne_of_gt (IsS54.lt (show IsS54 w0 _ g x2000_1 x2001_1 from by repeat (first | (with_reducible first | exact HI1.out | apply IsS54.alloc | apply IsS54.drewN | apply IsS54.drew | apply IsS54.set_0 | apply IsS54.set_1) | exact HI1.out))) : gb726 ≠ g)); replace HI1 := m0 (IsS54.below (by repeat (first | (with_reducible first | exact HI1.out | apply IsS54.alloc | apply IsS54.drewN | apply IsS54.drew | apply IsS54.set_0 | apply IsS54.set_1) | exact HI1.out)) hb); clear hb hbox hg; have hnb13 := NB726_1.out; have hnc13 := NB1_726.out; obtain ⟨_, _, _, _⟩ := b2 BK726) | (go_at_call 94; (with_reducible refine (L_ConstantOf_1.calls ((rd_T138 l0 x11_1).f0) ((rd_T138 l0 x11_1).f1) g x2000_1 x2001_1 t727 t728 t729 w0 _ ?side1 ?side2 A6.out).mono ?_); (case side1 => repeat (first | (with_reducible first | exact HI1.out | apply IsS54.alloc | apply IsS54.drewN | apply IsS54.drew | apply IsS54.set_0 | apply IsS54.set_1 | refine IsS54.far ?_ NB1_726.out _) | exact HI1.out)); (case side2 => repeat (first | (with_reducible first | exact HB.out | apply below_alloc | apply pw_below_drewN | apply below_drew1 | refine below_set ?_ (IsS54.ge HI1.out) | refine below_set ?_ GE726.out) | exact HB.out)); rintro e w15 ⟨rfl, hi, hb, hk⟩; replace BK726 := m0 (KeepBut.blk hk (g' := gb726) (o := .cells #[.int .i64 ((rd_T138 l0 x11_1).f0), .int .i64 ((rd_T138 l0 x11_1).f1)] 138 (0, 0)) (bq BK726.out) NB726_1.out (by simp)); replace HK := m0 (KeepBut.trans (by repeat (first | (with_reducible first | exact HK.out | apply KeepBut.set_ | apply keep_drewN | apply keep_drew | apply keep_alloc | refine keep_far ?_ GW726.out _) | exact HK.out)) hk (.inl rfl)); replace HB := m0 (hb); replace HI1 := m0 (hi); (try clear hb)))
       go_ret2
       exact ⟨by first | rfl | (simp [errW_none, errW_some] <;> rfl) | (simp [*, errW_none, errW_some] <;> rfl), by repeat (first | (with_reducible first | exact HI1.out | apply IsS54.alloc | apply IsS54.drewN | apply IsS54.drew | apply IsS54.set_0 | apply IsS54.set_1 | refine IsS54.far ?_ NB1_726.out _) | exact HI1.out), by repeat (first | (with_reducible first | exact HB.out | apply below_alloc | apply pw_below_drewN | apply below_drew1 | refine below_set ?_ (IsS54.ge HI1.out) | refine below_set ?_ GE726.out) | exact HB.out), by repeat (first | (with_reducible first | exact HK.out | apply KeepBut.set_ | apply keep_drewN | apply keep_drew | apply keep_alloc | refine keep_far ?_ GW726.out _) | exact HK.out)⟩
     ·rw [if_neg c5] at H; exact absurd H (by simp)
    ·rw [if_neg c4] at H; exact absurd H (by simp)
   ·rw [if_neg c3] at H; have c3b0 := decide_eq_false c3; clear c3; simp only [Option.some.injEq, Prod.mk.injEq] at H; obtain ⟨rfl, rfl, rfl, rfl⟩ := H
    go_wp2
    go_ret2
    exact ⟨by first | rfl | (simp [errW_none, errW_some] <;> rfl) | (simp [*, errW_none, errW_some] <;> rfl), by repeat (first | (with_reducible first | exact HI1.out | apply IsS54.alloc | apply IsS54.drewN | apply IsS54.drew | apply IsS54.set_0 | apply IsS54.set_1) | exact HI1.out), by repeat (first | (with_reducible first | exact HB.out | apply below_alloc | apply pw_below_drewN | apply below_drew1 | refine below_set ?_ (IsS54.ge HI1.out)) | exact HB.out), by repeat (first | (with_reducible first | exact HK.out | apply KeepBut.set_ | apply keep_drewN | apply keep_drew | apply keep_alloc) | exact HK.out)⟩
end
section
def L_ConstantOf.f (k : Nat) (l0 : List (S138)) : Option (Int × Int × Int) := (L_unless.f (decide ((l0.length : Int) > 0)) 10).bind fun t731 => ((L_unless.f (decide ((l0.length : Int) ≤ 12)) 8).bind fun t732 => ((L_first.f k (([t731, t732] : List Int))).bind fun t736 => (if t736 = 0 then ((api_CloudPoint_ConstantOf_1.f k l0 (-1000000) 2000000).bind fun bt738 => (if bt738.2.1 = 0 then (if bt738.2.2.1 > bt738.2.2.2 then (some (0, 0, 12)) else (some (bt738.2.2.1, bt738.2.2.2, 0))) else (some (0, 0, bt738.2.1)))) else (some (0, 0, t736)))))
theorem L_ConstantOf.mono : ∀ a0 k, LeO (L_ConstantOf.f k a0) (L_ConstantOf.f (k + 1) a0) := by
 intro a0 k; unfold L_ConstantOf.f
 repeat' with_reducible first
  | exact api_CloudPoint_ConstantOf_1.mono ..
  | exact L_first.mono ..
  | exact LeO.refl ..
  | exact LeO.none ..
  | refine LeO.ite ?_ ?_
  | refine LeO.bind ?_ (fun _ => ?_)
theorem L_ConstantOf.calls (k : Nat) (A0 : Option Addr) (c0 : Nat) (l0 : List (S138)) (r1 : Int) (r2 : Int) (r3 : Int) (w : World) (hr0 : Kd.C k138 w A0 l0.length l0) (hc0 : l0.length ≤ c0) (H : L_ConstantOf.f k l0 = some (r1, r2, r3)) :
  Calls Try.prog 44 #[.slice A0 l0.length c0] w fun e w' => e = .returned (.tuple #[.agg #[.int .i64 r1, .int .i64 r2], .int .i64 r3]) ∧ Below w.heap.size w w' := by
 have hu54 := Try.underlying54; have HR0 := m0 hr0; have HC0 := m0 hc0; clear hr0 hc0; have HB := m0 (Below.refl w.heap.size w); unfold L_ConstantOf.f at H; replace H := oa H; obtain ⟨t731, A2, H⟩ := H; (try dsimp only at H); replace H := oa H; obtain ⟨t732, A3, H⟩ := H; (try dsimp only at H); obtain ⟨y733, hy733⟩ : ∃ y_ : List Int, y_ = (([t731, t732] : List Int)) := ⟨_, rfl⟩; replace H : ((L_first.f k y733).bind fun t736 => (if t736 = 0 then ((api_CloudPoint_ConstantOf_1.f k l0 (-1000000) 2000000).bind fun bt738 => (if bt738.2.1 = 0 then (if bt738.2.2.1 > bt738.2.2.2 then (some (0, 0, 12)) else (some (bt738.2.2.1, bt738.2.2.2, 0))) else (some (0, 0, bt738.2.1)))) else (some (0, 0, t736)))) = some (r1, r2, r3) := by first | (rw [hy733]; with_reducible exact H) | (have H2_ := (Option.bind_some _ _).symm.trans H; rw [hy733]; with_reducible exact H2_) | (have H2_ := (Option.bind_some _ _).symm.trans H; with_reducible exact H2_) | with_reducible exact H | (rw [hy733]; exact H) | exact H
 have Ny733 := m0 hy733; clear hy733; replace H := oa H; obtain ⟨t736, A4, H⟩ := H; (try dsimp only at H)
 by_cases c5 : t736 = 0
 ·rw [if_pos c5] at H; have c5b0 := beq_iff_eq.mpr c5; have c5b1 := bne_eq_false_iff_eq.mpr c5; clear c5; replace H := oa H; obtain ⟨⟨t738, t739, t740, t741⟩, A6, H⟩ := H; (try dsimp only at H)
  by_cases c7 : t739 = 0
  ·rw [if_pos c7] at H; have c7b0 := beq_iff_eq.mpr c7; have c7b1 := bne_eq_false_iff_eq.mpr c7; clear c7
   by_cases c8 : t740 > t741
   ·rw [if_pos c8] at H; have c8b0 := decide_eq_true c8; clear c8; simp only [Option.some.injEq, Prod.mk.injEq] at H; obtain ⟨rfl, rfl, rfl⟩ := H; go_enter Try.func44, Try.ntmps44
    go_wp2_with (first | ((with_reducible refine ga 2 rfl ?_); refine be 2 54 #[.int .i64 0, .int .i64 0] ?_; intro gb730 hg w9 hbox hb; have BK730 := m0 hbox; have GE730 := gw w hg; replace HB := sb HB hb; clear hb hbox hg) | ((with_reducible refine gc 69 rfl ?_); refine goesL_ (some 11) rfl rfl Try.func69 (by kernel_rfl) rfl #[.bool (decide ((l0.length : Int) > 0)), .int .i64 10] rfl (by (try simp only [List.map_toArray, List.map_cons, List.map_nil]); first | done | rfl | (simp only [List.length_drop, List.length_take]; rfl) | (simp; first | done | exact ⟨rfl, rfl⟩)) ?_; (with_reducible refine (L_unless.calls (decide ((l0.length : Int) > 0)) 10 t731 _ A2.out).mono ?_); rintro e w' ⟨rfl, ⟨nd, rfl⟩⟩; refine ⟨_, rfl, ?_⟩; (try (rw [drewN_self w9]; generalize hq_ : World.drewN w9 _ = w9; replace BK730 := gd BK730 hq_; replace HB := gs HB hq_; clear hq_))) | ((with_reducible refine gc 69 rfl ?_); refine gl (some 15) Try.func69 #[.bool (decide ((l0.length : Int) ≤ 12)), .int .i64 8] ?_; (with_reducible refine (L_unless.calls (decide ((l0.length : Int) ≤ 12)) 8 t732 _ A3.out).mono ?_); rintro e w' ⟨rfl, ⟨nd, rfl⟩⟩; refine ⟨_, rfl, ?_⟩; (try (rw [drewN_self w9]; generalize hq_ : World.drewN w9 _ = w9; replace BK730 := gd BK730 hq_; replace HB := gs HB hq_; clear hq_))) | ((with_reducible refine ga 16 rfl ?_); refine Kd.R_lit (Kd.int .i64) _ 26 ?hg (N := 16) ?hd (xs := ([t731, t732] : List Int)) (inner := [.int .i64 t731, .int .i64 t732]) (ok := fun _ => True) (okp := fun _ => True) ?hr ?hp (fun _ hk => hk) trivial (Below.refl _ _) (Nat.le_refl _) (by simp) ?_; (case hd => rfl); (case hg => rfl); (case hr => first | (go_simp; done) | (go_simp; rfl)); (case hp => exact (Reps.one (ki t731) (Reps.one (ki t732) (Reps.none _ _)))); intro v734 w10 ho11 hb hg_ hnew_; clear hg_ hnew_; (first | rw [← Ny733.out] at ho11 | (simp only [Int.reduceToNat] at ho11; rw [← Ny733.out] at ho11)); have HO735 := m0 (Kd.R_lower ho11 (below_size bz)); replace BK730 := bb BK730 hb; replace HB := sb HB hb; clear hb ho11; obtain ⟨Ao12, co12, eo12⟩ := Kd.R_slice HO735.out; subst eo12) | ((with_reducible refine gc 68 rfl ?_); refine gl (some 17) Try.func68 #[.slice Ao12 y733.length co12] ?_; (with_reducible refine (L_first.calls k _ _ y733 t736 _ ?side1 ?side2 A4.out).mono ?_); (case side1 => exact bc (Kd.R_reads' HO735.out).2.2); (case side2 => exact (Kd.R_reads' HO735.out).2.1); rintro e w' ⟨rfl, ⟨nd, rfl⟩⟩; refine ⟨_, rfl, ?_⟩; (try (rw [drewN_self w10]; generalize hq_ : World.drewN w10 _ = w10; replace HO735 := gr HO735 hq_; replace BK730 := gd BK730 hq_; replace HB := gs HB hq_; clear hq_))) | ((with_reducible refine ga 5 rfl ?_); refine be 5 54 #[.int .i64 0, .int .i64 0] ?_; intro gb737 hg w13 hbox hb; replace HO735 := rb HO735 hb; have BK737 := m0 hbox; have GE737 := gw w hg; have NB730_737 := nl BK730 hg; have NB737_730 := ng (nl BK730 hg); replace BK730 := bb BK730 hb; have HI737 := m0 ((show IsS54 w w13 gb737 0 0 from ⟨hbox, (by rw [hg]; exact (below_size bz) : w.heap.size ≤ gb737)⟩)); replace HB := sb HB hb; clear hb hbox hg; obtain ⟨HGz14, hgz14⟩ := HI737.out; have hcz14_0 := cellS54_0 HGz14; have hcz14_1 := cellS54_1 HGz14; have hfz14_0 := blk_frozen HGz14 0; have hfz14_1 := blk_frozen HGz14 1; clear HGz14 hgz14) | ((with_reducible refine gc 93 rfl ?_); refine gl (some 26) Try.func93 #[.slice A0 l0.length c0, .func (.func 94) #[] #[.pointer (some ⟨gb737, 0, none⟩)]] ?_; (with_reducible refine (api_CloudPoint_ConstantOf_1.calls k _ _ l0 gb737 (-1000000) 2000000 t738 t739 t740 t741 w _ ?side1 ?side2 ?side3 ?side4 A6.out).mono ?_); (case side1 => repeat (first | (with_reducible first | exact HI737.out | apply IsS54.alloc | apply IsS54.drewN | apply IsS54.drew | apply IsS54.set_0 | apply IsS54.set_1 | refine IsS54.far ?_ NB737_730.out _) | exact HI737.out)); (case side2 => repeat (first | (with_reducible first | exact HB.out | apply below_alloc | apply pw_below_drewN | apply below_drew1 | refine below_set ?_ (IsS54.ge HI737.out) | refine below_set ?_ GE730.out) | exact HB.out)); (case side3 => exact Kd.C_foot_came k138_heap HR0.out (by repeat (first | (with_reducible first | exact HB.out | apply below_alloc | apply pw_below_drewN | apply below_drew1 | refine below_set ?_ (IsS54.ge HI737.out) | refine below_set ?_ GE730.out) | exact HB.out)) (IsS54.ge HI737.out)); (case side4 => exact HC0.out); rintro e w15 ⟨rfl, hi, hb, hk⟩; refine ⟨_, rfl, ?_⟩; replace BK730 := m0 (KeepBut.blk hk (g' := gb730) (o := .cells #[.int .i64 0, .int .i64 0] 54 (0, 0)) (bq BK730.out) NB730_737.out (by simp)); replace HO735 := m0 (Kd.R_mono (Kd.R_keep (IsS54.apart (show IsS54 w _ gb737 (-1000000) 2000000 from by repeat (first | (with_reducible first | exact HI737.out | apply IsS54.alloc | apply IsS54.drewN | apply IsS54.drew | apply IsS54.set_0 | apply IsS54.set_1 | refine IsS54.far ?_ NB737_730.out _) | exact HI737.out)) (by (with_reducible repeat (first | apply Kd.R_alloc | apply Kd.R_drewN | apply Kd.R_drew)); exact (Kd.R_mono (rf (rf (IsS54.apart HI737.out HO735.out (by decide)) (·.2)) (·.2)) (fun _ h_ => h_.1))) (by decide)) hk (fun _ h => h.2)) (fun _ h => h.1)); replace HB := m0 (hb); replace HI737 := m0 (hi); (try clear hb); obtain ⟨HGz16, hgz16⟩ := HI737.out; have hcz16_0 := cellS54_0 HGz16; have hcz16_1 := cellS54_1 HGz16; have hfz16_0 := blk_frozen HGz16 0; have hfz16_1 := blk_frozen HGz16 1; clear HGz16 hgz16; have hnb17 := NB730_737.out; have hnc17 := NB737_730.out; obtain ⟨_, _, _, _⟩ := b2 BK730))
    refine bodyPost_ret (results_ct rfl _ _ gb730 54 #[.int .i64 0, .int .i64 0] (0, 0) _ rfl (bq BK730.out) Try.underlying54 rfl (by kernel_rfl)) rfl ?_; exact ⟨by first | rfl | (simp [errW_none, errW_some] <;> rfl) | (simp [*, errW_none, errW_some] <;> rfl), by repeat (first | (with_reducible first | exact HB.out | apply below_alloc | apply pw_below_drewN | apply below_drew1 | refine below_set ?_ (IsS54.ge HI737.out) | refine below_set ?_ GE730.out) | exact HB.out)⟩
   ·rw [if_neg c8] at H; have c8b0 := decide_eq_false c8; clear c8; simp only [Option.some.injEq, Prod.mk.injEq] at H; obtain ⟨rfl, rfl, rfl⟩ := H; go_enter Try.func44, Try.ntmps44
    go_wp2_with (first | ((with_reducible refine ga 2 rfl ?_); refine be 2 54 #[.int .i64 0, .int .i64 0] ?_; intro gb730 hg w19 hbox hb; have BK730 := m0 hbox; have GE730 := gw w hg; replace HB := sb HB hb; clear hb hbox hg) | ((with_reducible refine gc 69 rfl ?_); refine goesL_ (some 11) rfl rfl Try.func69 (by kernel_rfl) rfl #[.bool (decide ((l0.length : Int) > 0)), .int .i64 10] rfl (by (try simp only [List.map_toArray, List.map_cons, List.map_nil]); first | done | rfl | (simp only [List.length_drop, List.length_take]; rfl) | (simp; first | done | exact ⟨rfl, rfl⟩)) ?_; (with_reducible refine (L_unless.calls (decide ((l0.length : Int) > 0)) 10 t731 _ A2.out).mono ?_); rintro e w' ⟨rfl, ⟨nd, rfl⟩⟩; refine ⟨_, rfl, ?_⟩; (try (rw [drewN_self w19]; generalize hq_ : World.drewN w19 _ = w19; replace BK730 := gd BK730 hq_; replace HB := gs HB hq_; clear hq_))) | ((with_reducible refine gc 69 rfl ?_); refine gl (some 15) Try.func69 #[.bool (decide ((l0.length : Int) ≤ 12)), .int .i64 8] ?_; (with_reducible refine (L_unless.calls (decide ((l0.length : Int) ≤ 12)) 8 t732 _ A3.out).mono ?_); rintro e w' ⟨rfl, ⟨nd, rfl⟩⟩; refine ⟨_, rfl, ?_⟩; (try (rw [drewN_self w19]; generalize hq_ : World.drewN w19 _ = w19; replace BK730 := gd BK730 hq_; replace HB := gs HB hq_; clear hq_))) | ((with_reducible refine ga 16 rfl ?_); refine Kd.R_lit (Kd.int .i64) _ 26 ?hg (N := 16) ?hd (xs := ([t731, t732] : List Int)) (inner := [.int .i64 t731, .int .i64 t732]) (ok := fun _ => True) (okp := fun _ => True) ?hr ?hp (fun _ hk => hk) trivial (Below.refl _ _) (Nat.le_refl _) (by simp) ?_; (case hd => rfl); (case hg => rfl); (case hr => first | (go_simp; done) | (go_simp; rfl)); (case hp => exact (Reps.one (ki t731) (Reps.one (ki t732) (Reps.none _ _)))); intro v734 w20 ho21 hb hg_ hnew_; clear hg_ hnew_; (first | rw [← Ny733.out] at ho21 | (simp only [Int.reduceToNat] at ho21; rw [← Ny733.out] at ho21)); have HO735 := m0 (Kd.R_lower ho21 (below_size bz)); replace BK730 := bb BK730 hb; replace HB := sb HB hb; clear hb ho21; obtain ⟨Ao22, co22, eo22⟩ := Kd.R_slice HO735.out; subst eo22) | ((with_reducible refine gc 68 rfl ?_); refine gl (some 17) Try.func68 #[.slice Ao22 y733.length co22] ?_; (with_reducible refine (L_first.calls k _ _ y733 t736 _ ?side1 ?side2 A4.out).mono ?_); (case side1 => exact bc (Kd.R_reads' HO735.out).2.2); (case side2 => exact (Kd.R_reads' HO735.out).2.1); rintro e w' ⟨rfl, ⟨nd, rfl⟩⟩; refine ⟨_, rfl, ?_⟩; (try (rw [drewN_self w20]; generalize hq_ : World.drewN w20 _ = w20; replace HO735 := gr HO735 hq_; replace BK730 := gd BK730 hq_; replace HB := gs HB hq_; clear hq_))) | ((with_reducible refine ga 5 rfl ?_); refine be 5 54 #[.int .i64 0, .int .i64 0] ?_; intro gb737 hg w23 hbox hb; replace HO735 := rb HO735 hb; have BK737 := m0 hbox; have GE737 := gw w hg; have NB730_737 := nl BK730 hg; have NB737_730 := ng (nl BK730 hg); replace BK730 := bb BK730 hb; have HI737 := m0 ((show IsS54 w w23 gb737 0 0 from ⟨hbox, (by rw [hg]; exact (below_size bz) : w.heap.size ≤ gb737)⟩)); replace HB := sb HB hb; clear hb hbox hg; obtain ⟨HGz24, hgz24⟩ := HI737.out; have hcz24_0 := cellS54_0 HGz24; have hcz24_1 := cellS54_1 HGz24; have hfz24_0 := blk_frozen HGz24 0; have hfz24_1 := blk_frozen HGz24 1; clear HGz24 hgz24) | ((with_reducible refine gc 93 rfl ?_); refine gl (some 26) Try.func93 #[.slice A0 l0.length c0, .func (.func 94) #[] #[.pointer (some ⟨gb737, 0, none⟩)]] ?_; (with_reducible refine (api_CloudPoint_ConstantOf_1.calls k _ _ l0 gb737 (-1000000) 2000000 t738 t739 t740 t741 w _ ?side1 ?side2 ?side3 ?side4 A6.out).mono ?_); (case side1 => repeat (first | (with_reducible first | exact HI737.out | apply IsS54.alloc | apply IsS54.drewN | apply IsS54.drew | apply IsS54.set_0 | apply IsS54.set_1 | refine IsS54.far ?_ NB737_730.out _) | exact HI737.out)); (case side2 => repeat (first | (with_reducible first | exact HB.out | apply below_alloc | apply pw_below_drewN | apply below_drew1 | refine below_set ?_ (IsS54.ge HI737.out) | refine below_set ?_ GE730.out) | exact HB.out)); (case side3 => exact Kd.C_foot_came k138_heap HR0.out (by repeat (first | (with_reducible first | exact HB.out | apply below_alloc | apply pw_below_drewN | apply below_drew1 | refine below_set ?_ (IsS54.ge HI737.out) | refine below_set ?_ GE730.out) | exact HB.out)) (IsS54.ge HI737.out)); (case side4 => exact HC0.out); rintro e w25 ⟨rfl, hi, hb, hk⟩; refine ⟨_, rfl, ?_⟩; replace BK730 := m0 (KeepBut.blk hk (g' := gb730) (o := .cells #[.int .i64 0, .int .i64 0] 54 (0, 0)) (bq BK730.out) NB730_737.out (by simp)); replace HO735 := m0 (Kd.R_mono (Kd.R_keep (IsS54.apart (show IsS54 w _ gb737 (-1000000) 2000000 from by repeat (first | (with_reducible first | exact HI737.out | apply IsS54.alloc | apply IsS54.drewN | apply IsS54.drew | apply IsS54.set_0 | apply IsS54.set_1 | refine IsS54.far ?_ NB737_730.out _) | exact HI737.out)) (by (with_reducible repeat (first | apply Kd.R_alloc | apply Kd.R_drewN | apply Kd.R_drew)); exact (Kd.R_mono (rf (rf (IsS54.apart HI737.out HO735.out (by decide)) (·.2)) (·.2)) (fun _ h_ => h_.1))) (by decide)) hk (fun _ h => h.2)) (fun _ h => h.1)); replace HB := m0 (hb); replace HI737 := m0 (hi); (try clear hb); obtain ⟨HGz26, hgz26⟩ := HI737.out; have hcz26_0 := cellS54_0 HGz26; have hcz26_1 := cellS54_1 HGz26; have hfz26_0 := blk_frozen HGz26 0; have hfz26_1 := blk_frozen HGz26 1; clear HGz26 hgz26; have hnb27 := NB730_737.out; have hnc27 := NB737_730.out; obtain ⟨_, _, _, _⟩ := b2 BK730))
    refine bodyPost_ret (results_ct rfl _ _ gb730 54 #[.int .i64 t740, .int .i64 t741] (0, 0) _ rfl (bq BK730.out) Try.underlying54 rfl (by kernel_rfl)) rfl ?_; exact ⟨by first | rfl | (simp [errW_none, errW_some] <;> rfl) | (simp [*, errW_none, errW_some] <;> rfl), by repeat (first | (with_reducible first | exact HB.out | apply below_alloc | apply pw_below_drewN | apply below_drew1 | refine below_set ?_ (IsS54.ge HI737.out) | refine below_set ?_ GE730.out) | exact HB.out)⟩
  ·rw [if_neg c7] at H; have c7b0 := beq_eq_false_iff_ne.mpr c7; have c7b1 := bne_iff_ne.mpr c7; simp only [Option.some.injEq, Prod.mk.injEq] at H; obtain ⟨rfl, rfl, rfl⟩ := H; go_enter Try.func44, Try.ntmps44
   go_wp2_with (first | ((with_reducible refine ga 2 rfl ?_); refine be 2 54 #[.int .i64 0, .int .i64 0] ?_; intro gb730 hg w29 hbox hb; have BK730 := m0 hbox; have GE730 := gw w hg; replace HB := sb HB hb; clear hb hbox hg) | ((with_reducible refine gc 69 rfl ?_); refine goesL_ (some 11) rfl rfl Try.func69 (by kernel_rfl) rfl #[.bool (decide ((l0.length : Int) > 0)), .int .i64 10] rfl (by (try simp only [List.map_toArray, List.map_cons, List.map_nil]); first | done | rfl | (simp only [List.length_drop, List.length_take]; rfl) | (simp; first | done | exact ⟨rfl, rfl⟩)) ?_; (with_reducible refine (L_unless.calls (decide ((l0.length : Int) > 0)) 10 t731 _ A2.out).mono ?_); rintro e w' ⟨rfl, ⟨nd, rfl⟩⟩; refine ⟨_, rfl, ?_⟩; (try (rw [drewN_self w29]; generalize hq_ : World.drewN w29 _ = w29; replace BK730 := gd BK730 hq_; replace HB := gs HB hq_; clear hq_))) | ((with_reducible refine gc 69 rfl ?_); refine gl (some 15) Try.func69 #[.bool (decide ((l0.length : Int) ≤ 12)), .int .i64 8] ?_; (with_reducible refine (L_unless.calls (decide ((l0.length : Int) ≤ 12)) 8 t732 _ A3.out).mono ?_); rintro e w' ⟨rfl, ⟨nd, rfl⟩⟩; refine ⟨_, rfl, ?_⟩; (try (rw [drewN_self w29]; generalize hq_ : World.drewN w29 _ = w29; replace BK730 := gd BK730 hq_; replace HB := gs HB hq_; clear hq_))) | ((with_reducible refine ga 16 rfl ?_); refine Kd.R_lit (Kd.int .i64) _ 26 ?hg (N := 16) ?hd (xs := ([t731, t732] : List Int)) (inner := [.int .i64 t731, .int .i64 t732]) (ok := fun _ => True) (okp := fun _ => True) ?hr ?hp (fun _ hk => hk) trivial (Below.refl _ _) (Nat.le_refl _) (by simp) ?_; (case hd => rfl); (case hg => rfl); (case hr => first | (go_simp; done) | (go_simp; rfl)); (case hp => exact (Reps.one (ki t731) (Reps.one (ki t732) (Reps.none _ _)))); intro v734 w30 ho31 hb hg_ hnew_; clear hg_ hnew_; (first | rw [← Ny733.out] at ho31 | (simp only [Int.reduceToNat] at ho31; rw [← Ny733.out] at ho31)); have HO735 := m0 (Kd.R_lower ho31 (below_size bz)); replace BK730 := bb BK730 hb; replace HB := sb HB hb; clear hb ho31; obtain ⟨Ao32, co32, eo32⟩ := Kd.R_slice HO735.out; subst eo32) | ((with_reducible refine gc 68 rfl ?_); refine gl (some 17) Try.func68 #[.slice Ao32 y733.length co32] ?_; (with_reducible refine (L_first.calls k _ _ y733 t736 _ ?side1 ?side2 A4.out).mono ?_); (case side1 => exact bc (Kd.R_reads' HO735.out).2.2); (case side2 => exact (Kd.R_reads' HO735.out).2.1); rintro e w' ⟨rfl, ⟨nd, rfl⟩⟩; refine ⟨_, rfl, ?_⟩; (try (rw [drewN_self w30]; generalize hq_ : World.drewN w30 _ = w30; replace HO735 := gr HO735 hq_; replace BK730 := gd BK730 hq_; replace HB := gs HB hq_; clear hq_))) | ((with_reducible refine ga 5 rfl ?_); refine be 5 54 #[.int .i64 0, .int .i64 0] ?_; intro gb737 hg w33 hbox hb; replace HO735 := rb HO735 hb; have BK737 := m0 hbox; have GE737 := gw w hg; have NB730_737 := nl BK730 hg; have NB737_730 := ng (nl BK730 hg); replace BK730 := bb BK730 hb; have HI737 := m0 ((show IsS54 w w33 gb737 0 0 from ⟨hbox, (by rw [hg]; exact (below_size bz) : w.heap.size ≤ gb737)⟩)); replace HB := sb HB hb; clear hb hbox hg; obtain ⟨HGz34, hgz34⟩ := HI737.out; have hcz34_0 := cellS54_0 HGz34; have hcz34_1 := cellS54_1 HGz34; have hfz34_0 := blk_frozen HGz34 0; have hfz34_1 := blk_frozen HGz34 1; clear HGz34 hgz34) | ((with_reducible refine gc 93 rfl ?_); refine gl (some 26) Try.func93 #[.slice A0 l0.length c0, .func (.func 94) #[] #[.pointer (some ⟨gb737, 0, none⟩)]] ?_; (with_reducible refine (api_CloudPoint_ConstantOf_1.calls k _ _ l0 gb737 (-1000000) 2000000 t738 t739 t740 t741 w _ ?side1 ?side2 ?side3 ?side4 A6.out).mono ?_); (case side1 => repeat (first | (with_reducible first | exact HI737.out | apply IsS54.alloc | apply IsS54.drewN | apply IsS54.drew | apply IsS54.set_0 | apply IsS54.set_1 | refine IsS54.far ?_ NB737_730.out _) | exact HI737.out)); (case side2 => repeat (first | (with_reducible first | exact HB.out | apply below_alloc | apply pw_below_drewN | apply below_drew1 | refine below_set ?_ (IsS54.ge HI737.out) | refine below_set ?_ GE730.out) | exact HB.out)); (case side3 => exact Kd.C_foot_came k138_heap HR0.out (by repeat (first | (with_reducible first | exact HB.out | apply below_alloc | apply pw_below_drewN | apply below_drew1 | refine below_set ?_ (IsS54.ge HI737.out) | refine below_set ?_ GE730.out) | exact HB.out)) (IsS54.ge HI737.out)); (case side4 => exact HC0.out); rintro e w35 ⟨rfl, hi, hb, hk⟩; refine ⟨_, rfl, ?_⟩; replace BK730 := m0 (KeepBut.blk hk (g' := gb730) (o := .cells #[.int .i64 0, .int .i64 0] 54 (0, 0)) (bq BK730.out) NB730_737.out (by simp)); replace HO735 := m0 (Kd.R_mono (Kd.R_keep (IsS54.apart (show IsS54 w _ gb737 (-1000000) 2000000 from by repeat (first | (with_reducible first | exact HI737.out | apply IsS54.alloc | apply IsS54.drewN | apply IsS54.drew | apply IsS54.set_0 | apply IsS54.set_1 | refine IsS54.far ?_ NB737_730.out _) | exact HI737.out)) (by (with_reducible repeat (first | apply Kd.R_alloc | apply Kd.R_drewN | apply Kd.R_drew)); exact (Kd.R_mono (rf (rf (IsS54.apart HI737.out HO735.out (by decide)) (·.2)) (·.2)) (fun _ h_ => h_.1))) (by decide)) hk (fun _ h => h.2)) (fun _ h => h.1)); replace HB := m0 (hb); replace HI737 := m0 (hi); (try clear hb); have hnb36 := NB730_737.out; have hnc36 := NB737_730.out; obtain ⟨_, _, _, _⟩ := b2 BK730))
   refine bodyPost_ret (results_ct rfl _ _ gb730 54 #[.int .i64 0, .int .i64 0] (0, 0) _ rfl (bq BK730.out) Try.underlying54 rfl (by kernel_rfl)) rfl ?_; exact ⟨by first | rfl | (simp [errW_none, errW_some] <;> rfl) | (simp [*, errW_none, errW_some] <;> rfl), by repeat (first | (with_reducible first | exact HB.out | apply below_alloc | apply pw_below_drewN | apply below_drew1 | refine below_set ?_ (IsS54.ge HI737.out) | refine below_set ?_ GE730.out) | exact HB.out)⟩
 ·rw [if_neg c5] at H; have c5b0 := beq_eq_false_iff_ne.mpr c5; have c5b1 := bne_iff_ne.mpr c5; simp only [Option.some.injEq, Prod.mk.injEq] at H; obtain ⟨rfl, rfl, rfl⟩ := H; go_enter Try.func44, Try.ntmps44
  go_wp2_with (first | ((with_reducible refine ga 2 rfl ?_); refine be 2 54 #[.int .i64 0, .int .i64 0] ?_; intro gb730 hg w38 hbox hb; have BK730 := m0 hbox; have GE730 := gw w hg; replace HB := sb HB hb; clear hb hbox hg) | ((with_reducible refine gc 69 rfl ?_); refine goesL_ (some 11) rfl rfl Try.func69 (by kernel_rfl) rfl #[.bool (decide ((l0.length : Int) > 0)), .int .i64 10] rfl (by (try simp only [List.map_toArray, List.map_cons, List.map_nil]); first | done | rfl | (simp only [List.length_drop, List.length_take]; rfl) | (simp; first | done | exact ⟨rfl, rfl⟩)) ?_; (with_reducible refine (L_unless.calls (decide ((l0.length : Int) > 0)) 10 t731 _ A2.out).mono ?_); rintro e w' ⟨rfl, ⟨nd, rfl⟩⟩; refine ⟨_, rfl, ?_⟩; (try (rw [drewN_self w38]; generalize hq_ : World.drewN w38 _ = w38; replace BK730 := gd BK730 hq_; replace HB := gs HB hq_; clear hq_))) | ((with_reducible refine gc 69 rfl ?_); refine gl (some 15) Try.func69 #[.bool (decide ((l0.length : Int) ≤ 12)), .int .i64 8] ?_; (with_reducible refine (L_unless.calls (decide ((l0.length : Int) ≤ 12)) 8 t732 _ A3.out).mono ?_); rintro e w' ⟨rfl, ⟨nd, rfl⟩⟩; refine ⟨_, rfl, ?_⟩; (try (rw [drewN_self w38]; generalize hq_ : World.drewN w38 _ = w38; replace BK730 := gd BK730 hq_; replace HB := gs HB hq_; clear hq_))) | ((with_reducible refine ga 16 rfl ?_); refine Kd.R_lit (Kd.int .i64) _ 26 ?hg (N := 16) ?hd (xs := ([t731, t732] : List Int)) (inner := [.int .i64 t731, .int .i64 t732]) (ok := fun _ => True) (okp := fun _ => True) ?hr ?hp (fun _ hk => hk) trivial (Below.refl _ _) (Nat.le_refl _) (by simp) ?_; (case hd => rfl); (case hg => rfl); (case hr => first | (go_simp; done) | (go_simp; rfl)); (case hp => exact (Reps.one (ki t731) (Reps.one (ki t732) (Reps.none _ _)))); intro v734 w39 ho40 hb hg_ hnew_; clear hg_ hnew_; (first | rw [← Ny733.out] at ho40 | (simp only [Int.reduceToNat] at ho40; rw [← Ny733.out] at ho40)); have HO735 := m0 (Kd.R_lower ho40 (below_size bz)); replace BK730 := bb BK730 hb; replace HB := sb HB hb; clear hb ho40; obtain ⟨Ao41, co41, eo41⟩ := Kd.R_slice HO735.out; subst eo41) | ((with_reducible refine gc 68 rfl ?_); refine gl (some 17) Try.func68 #[.slice Ao41 y733.length co41] ?_; (with_reducible refine (L_first.calls k _ _ y733 t736 _ ?side1 ?side2 A4.out).mono ?_); (case side1 => exact bc (Kd.R_reads' HO735.out).2.2); (case side2 => exact (Kd.R_reads' HO735.out).2.1); rintro e w' ⟨rfl, ⟨nd, rfl⟩⟩; refine ⟨_, rfl, ?_⟩; (try (rw [drewN_self w39]; generalize hq_ : World.drewN w39 _ = w39; replace HO735 := gr HO735 hq_; replace BK730 := gd BK730 hq_; replace HB := gs HB hq_; clear hq_)); obtain ⟨_, _, _, _⟩ := b2 BK730))
  refine bodyPost_ret (results_ct rfl _ _ gb730 54 #[.int .i64 0, .int .i64 0] (0, 0) _ rfl (bq BK730.out) Try.underlying54 rfl (by kernel_rfl)) rfl ?_; exact ez
end
section
def Rf_CopyPoints.f (l0 : List (S138)) : Option ((List (S138))) := (some (([] : List (S138)) : List (S138))).bind fun y742 => (if y742.length + l0.length < 8796093022208 then (some (y742 ++ l0)) else (none))
theorem Rf_CopyPoints.calls (A0 : Option Addr) (c0 : Nat) (l0 : List (S138)) (r : List (S138)) (w : World) (hr0 : Kd.C k138 w A0 l0.length l0) (hc0 : l0.length ≤ c0) (H : Rf_CopyPoints.f l0 = some r) :
  Calls Try.prog 45 #[.slice A0 l0.length c0] w fun e w' => ∃ v0_ : Value, e = .returned (v0_) ∧ Kd.R k138 138 w' w.heap.size (fun _ => True) v0_ r ∧ Below w.heap.size w w' := by
 have HR0 := m0 hr0; have HC0 := m0 hc0; clear hr0 hc0; have HB := m0 (Below.refl w.heap.size w); unfold Rf_CopyPoints.f at H; obtain ⟨y742, hy742⟩ : ∃ y_ : List (S138), y_ = (([] : List (S138))) := ⟨_, rfl⟩; replace H : (if y742.length + l0.length < 8796093022208 then (some (y742 ++ l0)) else (none)) = some r := by first | (rw [hy742]; with_reducible exact H) | (have H2_ := (Option.bind_some _ _).symm.trans H; rw [hy742]; with_reducible exact H2_) | (have H2_ := (Option.bind_some _ _).symm.trans H; with_reducible exact H2_) | with_reducible exact H | (rw [hy742]; exact H) | exact H
 have Ny742 := m0 hy742; clear hy742
 by_cases c2 : y742.length + l0.length < 8796093022208
 ·rw [if_pos c2] at H; have LMc2 := m0 c2; clear c2; obtain ⟨y745, hy745⟩ : ∃ y_ : List (S138), y_ = (y742 ++ l0) := ⟨_, rfl⟩; replace H : (some y745) = some r := by first | (rw [hy745]; with_reducible exact H) | (have H2_ := (Option.bind_some _ _).symm.trans H; rw [hy745]; with_reducible exact H2_) | (have H2_ := (Option.bind_some _ _).symm.trans H; with_reducible exact H2_) | with_reducible exact H | (rw [hy745]; exact H) | exact H
  have Ny745 := m0 hy745; clear hy745; obtain rfl := Option.some.inj H; go_enter Try.func45, Try.ntmps45
  go_wp2_with (first | ((with_reducible refine ga 3 rfl ?_); refine Kd.R_lit k138 _ 138 ?hg (N := 3) ?hd (xs := ([] : List (S138))) (inner := []) (ok := fun _ => True) (okp := fun _ => True) ?hr ?hp (fun _ hk => hk) trivial (Below.refl _ _) (Nat.le_refl _) (by simp) ?_; (case hd => rfl); (case hg => rfl); (case hr => first | (go_simp; done) | (go_simp; rfl)); (case hp => exact (Reps.none _ _)); intro v743 w3 ho4 hb hg_ hnew_; clear hg_ hnew_; (first | rw [← Ny742.out] at ho4 | (simp only [Int.reduceToNat] at ho4; rw [← Ny742.out] at ho4)); have HO744 := m0 (Kd.R_lower ho4 (below_size bz)); replace HB := sb HB hb; clear hb ho4) | ((with_reducible refine gate_builtin (b := .append) (xs := #[.tmp 3, .tmp 4]) rfl ?_); at_builtin; refine Kd.R_append_rows k138 (w0 := w) w.heap.size rfl (.tmp 3) (.tmp 4) 67 138 (.agg #[(.int .i64 0), (.int .i64 0)]) 16 rfl Try.underlying67 info138 rfl (by decide) (by omega) v743 y742 l0 _ _ _ (fun _ => True) (fun _ => False) rfl rfl ?aO ?aR (fun _ _ h => h) (fun _ h => h.elim) ?aF ?aB ?aS ?aL ?_; (case aR => exact cb HR0 HB); (case aB => exact bz); (case aF => exact (fun _ _ => trivial)); (case aO => exact (br HO744.out)); (case aS => exact (below_size bz)); (case aL => have := LMc2.out; omega); intro v746 w5 ho hb hg hat; rw [← Ny745.out] at ho; have n0_ := m0 (hb); have n1_ := m0 (ho); clear HB; clear HO744; have HB := n0_; have HO747 := n1_; clear n0_ n1_; clear ho hb hg hat))
  go_ret
  exact ⟨_, by first | rfl | (simp [errW_none, errW_some] <;> rfl) | (simp [*, errW_none, errW_some] <;> rfl), by (with_reducible repeat (first | apply Kd.R_alloc | apply Kd.R_drewN | apply Kd.R_drew)); exact HO747.out, by repeat (first | (with_reducible first | exact HB.out | apply below_alloc | apply pw_below_drewN | apply below_drew1) | exact HB.out)⟩
 ·rw [if_neg c2] at H; exact absurd H (by simp)
end
section
def Rf_ConstantErr.f (a0 : Int) : Option (Int) := (Bs_Within.f a0 1 1000000).bind fun t748 => (if t748 = true then (some 0) else (some 2))
theorem Rf_ConstantErr.calls (a0 : Int) (r : Int) (w : World) (H : Rf_ConstantErr.f a0 = some r) :
  Calls Try.prog 47 #[.int .i64 a0] w fun e w' => e = .returned (.int .i64 r) ∧ Drawn0 w w' := by
 unfold Rf_ConstantErr.f at H; replace H := oa H; obtain ⟨t748, A2, H⟩ := H; (try dsimp only at H)
 by_cases c3 : t748 = true
 ·subst c3; rw [if_pos rfl] at H; obtain rfl := Option.some.inj H; go_enter Try.func47, Try.ntmps47
  go_wp2_with (first | ((with_reducible refine gc 19 rfl ?_); refine gl (some 4) Try.func19 #[.int .i64 a0, .int .i64 1, .int .i64 1000000] ?_; (with_reducible refine (Bs_Within.calls a0 1 1000000 true _ A2.out).mono ?_); rintro e w' ⟨rfl, ⟨nd, rfl⟩⟩; refine ⟨_, rfl, ?_⟩))
  go_ret
  exact ⟨rz, by repeat (first | exact Drawn0.refl _ | apply Drawn0.step)⟩
 ·replace c3 := Bool.eq_false_iff.mpr c3; subst c3; rw [if_neg (show ¬ (false = true) by decide)] at H; obtain rfl := Option.some.inj H; go_enter Try.func47, Try.ntmps47
  go_wp2_with (first | ((with_reducible refine gc 19 rfl ?_); refine gl (some 4) Try.func19 #[.int .i64 a0, .int .i64 1, .int .i64 1000000] ?_; (with_reducible refine (Bs_Within.calls a0 1 1000000 false _ A2.out).mono ?_); rintro e w' ⟨rfl, ⟨nd, rfl⟩⟩; refine ⟨_, rfl, ?_⟩))
  go_ret
  exact ⟨rz, by repeat (first | exact Drawn0.refl _ | apply Drawn0.step)⟩
end
section
def Rf_Rest.l0 : Nat → List Int → Int → Int → Int → Option (Int)
 | 0, _, _, _, _ => none
 | k + 1, x0, x1, x2, x7 => if x7 < x2 then (if 0 ≤ x7 then (if x7 < (x0.length : Int) then (Rf_Rest.l0 k x0 (wrap64 (x1 - (rd x0 x7))) x2 (wrap64 (x7 + 1))) else (none)) else (none)) else (some x1)
def Rf_Rest.f (k : Nat) (l0 : List Int) (a1 : Int) (a2 : Int) : Option (Int) := Rf_Rest.l0 k l0 a1 a2 0
theorem Rf_Rest.mono_l : ∀ k, (∀ y0 y1 y2 y3, LeO (Rf_Rest.l0 k y0 y1 y2 y3) (Rf_Rest.l0 (k + 1) y0 y1 y2 y3))
 | 0 => fun _ _ _ _ r h => by simp [Rf_Rest.l0] at h
 | k + 1 => by
  have ih0 := Rf_Rest.mono_l k
  ·intro y0 y1 y2 y3; unfold Rf_Rest.l0
   repeat' with_reducible first
    | exact ih0 ..
    | exact LeO.refl ..
    | exact LeO.none ..
    | refine LeO.ite ?_ ?_
    | refine LeO.bind ?_ (fun _ => ?_)
theorem Rf_Rest.mono : ∀ a0 a1 a2 k, LeO (Rf_Rest.f k a0 a1 a2) (Rf_Rest.f (k + 1) a0 a1 a2) := by
 intro a0 a1 a2 k; have ih0 := Rf_Rest.mono_l k; unfold Rf_Rest.f
 repeat' with_reducible first
  | exact ih0 ..
  | exact LeO.refl ..
  | exact LeO.none ..
  | refine LeO.ite ?_ ?_
  | refine LeO.bind ?_ (fun _ => ?_)
theorem Rf_Rest.calls (k : Nat) (A0 : Option Addr) (c0 : Nat) (l0 : List Int) (a1 : Int) (a2 : Int) (r : Int) (w : World) (hr0 : Kd.C (Kd.int .i64) w A0 l0.length l0) (hc0 : l0.length ≤ c0) (H : Rf_Rest.f k l0 a1 a2 = some r) :
  Calls Try.prog 96 #[.slice A0 l0.length c0, .int .i64 a1, .int .i64 a2] w fun e w' => e = .returned (.int .i64 r) ∧ Drawn0 w w' := by
 have HR0 := m0 hr0; have HC0 := m0 hc0; clear hr0 hc0; unfold Rf_Rest.f at H; have H' := m0 H; clear H; go_enter Try.func96, Try.ntmps96
 go_wp2
 go_loopg [1, 7] k (fun kq v1 v7 w' => ∃ (x1_1 : Int) (x7_1 : Int), v1 = .int .i64 x1_1 ∧ v7 = .int .i64 x7_1 ∧ Aside0 (Rf_Rest.l0 kq l0 x1_1 a2 x7_1 = some r) ∧ Aside0 (kq ≤ k) ∧ Drawn0 w w')
 case atStart => exact ⟨(a1), (0), rz, rz, H', ⟨Nat.le_refl _⟩, by repeat (first | exact Drawn0.refl _ | apply Drawn0.step)⟩
 case round =>
  clear H'; obtain ⟨x1_1, x7_1, rfl, rfl, HA, HK1, ⟨m1, rfl⟩⟩ := hrel
  cases gk with
  | zero => exact absurd HA.out (by simp [Rf_Rest.l0])
  | succ k1 =>
   have H := HA.out; clear HA; simp only [Rf_Rest.l0] at H
   by_cases c4 : x7_1 < a2
   ·rw [if_pos c4] at H; have c4b0 := decide_eq_true c4; clear c4
    by_cases c5 : 0 ≤ x7_1
    ·rw [if_pos c5] at H; have c5b0 := decide_eq_true c5; clear c5
     by_cases c6 : x7_1 < (l0.length : Int)
     ·rw [if_pos c6] at H; have c6b0 := decide_eq_true c6; clear c6; have H' := m0 H; clear H; have p749 : 0 ≤ (x7_1 : Int) := od; have q749 : x7_1 < (l0.length : Int) := od; obtain ⟨ad749, e749, hx749_0⟩ := Kd.at_int HR0.out x7_1 p749 q749
      cases e749
      replace p749 := eq_true p749; replace q749 := eq_true q749
      go_wp2
      go_roundg k1
      case measure => have := HK1.out; omega
      case rel => exact ⟨(wrap64 (x1_1 - (rd l0 x7_1))), (wrap64 (x7_1 + 1)), rz, rz, H', ⟨by have := HK1.out; omega⟩, by repeat (first | exact Drawn0.refl _ | apply Drawn0.step)⟩
     ·rw [if_neg c6] at H; exact absurd H (by simp)
    ·rw [if_neg c5] at H; exact absurd H (by simp)
   ·rw [if_neg c4] at H; have c4b0 := decide_eq_false c4; clear c4; obtain rfl := Option.some.inj H
    go_wp2
    go_ret
    exact ⟨rz, by repeat (first | exact Drawn0.refl _ | apply Drawn0.step)⟩
end
section
def Rf_BreakErr.l0 : Nat → List Int → Int → Int → Option (Int)
 | 0, _, _, _ => none
 | k + 1, x0, x1, x5 => if x5 < (x0.length : Int) then ((Rf_Rest.f k x0 x1 x5).bind fun t750 => (if t750 ≤ 0 then (some 20) else (Rf_BreakErr.l0 k x0 x1 (wrap64 (x5 + 1))))) else ((Rf_Rest.f k x0 x1 (x0.length : Int)).bind fun t751 => (if t751 < 0 then (some 20) else (some 0)))
def Rf_BreakErr.f (k : Nat) (l0 : List Int) (a1 : Int) : Option (Int) := Rf_BreakErr.l0 k l0 a1 0
theorem Rf_BreakErr.mono_l : ∀ k, (∀ y0 y1 y2, LeO (Rf_BreakErr.l0 k y0 y1 y2) (Rf_BreakErr.l0 (k + 1) y0 y1 y2))
 | 0 => fun _ _ _ r h => by simp [Rf_BreakErr.l0] at h
 | k + 1 => by
  have ih0 := Rf_BreakErr.mono_l k
  ·intro y0 y1 y2; unfold Rf_BreakErr.l0
   repeat' with_reducible first
    | exact ih0 ..
    | exact Rf_Rest.mono ..
    | exact LeO.refl ..
    | exact LeO.none ..
    | refine LeO.ite ?_ ?_
    | refine LeO.bind ?_ (fun _ => ?_)
theorem Rf_BreakErr.mono : ∀ a0 a1 k, LeO (Rf_BreakErr.f k a0 a1) (Rf_BreakErr.f (k + 1) a0 a1) := by
 intro a0 a1 k; have ih0 := Rf_BreakErr.mono_l k; unfold Rf_BreakErr.f
 repeat' with_reducible first
  | exact ih0 ..
  | exact Rf_Rest.mono ..
  | exact LeO.refl ..
  | exact LeO.none ..
  | refine LeO.ite ?_ ?_
  | refine LeO.bind ?_ (fun _ => ?_)
theorem Rf_BreakErr.calls (k : Nat) (A0 : Option Addr) (c0 : Nat) (l0 : List Int) (a1 : Int) (r : Int) (w : World) (hr0 : Kd.C (Kd.int .i64) w A0 l0.length l0) (hc0 : l0.length ≤ c0) (H : Rf_BreakErr.f k l0 a1 = some r) :
  Calls Try.prog 48 #[.slice A0 l0.length c0, .int .i64 a1] w fun e w' => e = .returned (.int .i64 r) ∧ Drawn0 w w' := by
 have HR0 := m0 hr0; have HC0 := m0 hc0; clear hr0 hc0; unfold Rf_BreakErr.f at H; have H' := m0 H; clear H; go_enter Try.func48, Try.ntmps48
 go_wp2
 go_loopg [5] k (fun kq v5 w' => ∃ (x5_1 : Int), v5 = .int .i64 x5_1 ∧ Aside0 (Rf_BreakErr.l0 kq l0 a1 x5_1 = some r) ∧ Aside0 (kq ≤ k) ∧ Drawn0 w w')
 case atStart => exact ⟨(0), rz, H', ⟨Nat.le_refl _⟩, by repeat (first | exact Drawn0.refl _ | apply Drawn0.step)⟩
 case round =>
  clear H'; obtain ⟨x5_1, rfl, HA, HK1, ⟨m1, rfl⟩⟩ := hrel
  cases gk with
  | zero => exact absurd HA.out (by simp [Rf_BreakErr.l0])
  | succ k1 =>
   have H := HA.out; clear HA; simp only [Rf_BreakErr.l0] at H
   by_cases c3 : x5_1 < (l0.length : Int)
   ·rw [if_pos c3] at H; have c3b0 := decide_eq_true c3; clear c3; replace H := oa H; obtain ⟨t750, A4, H⟩ := H; (try dsimp only at H)
    by_cases c5 : t750 ≤ 0
    ·rw [if_pos c5] at H; have c5b0 := decide_eq_true c5; clear c5; obtain rfl := Option.some.inj H
     go_wp2_with (first | ((with_reducible refine gc 96 rfl ?_); refine gl (some 15) Try.func96 #[.slice A0 l0.length c0, .int .i64 a1, .int .i64 x5_1] ?_; (with_reducible refine (Rf_Rest.calls k1 _ _ l0 a1 x5_1 t750 _ ?side1 ?side2 A4.out).mono ?_); (case side1 => repeat (first | exact HR0.out | (with_reducible refine Kd.C_alloc ?_ _) | (with_reducible refine Kd.C_drewN ?_ _) | (with_reducible refine Kd.C_drew ?_))); (case side2 => exact HC0.out); rintro e w' ⟨rfl, ⟨nd, rfl⟩⟩; refine ⟨_, rfl, ?_⟩))
     go_ret
     exact ⟨rz, by repeat (first | exact Drawn0.refl _ | apply Drawn0.step)⟩
    ·rw [if_neg c5] at H; have c5b0 := decide_eq_false c5; clear c5; have H' := m0 H; clear H
     go_wp2_with (first | ((with_reducible refine gc 96 rfl ?_); refine gl (some 15) Try.func96 #[.slice A0 l0.length c0, .int .i64 a1, .int .i64 x5_1] ?_; (with_reducible refine (Rf_Rest.calls k1 _ _ l0 a1 x5_1 t750 _ ?side1 ?side2 A4.out).mono ?_); (case side1 => repeat (first | exact HR0.out | (with_reducible refine Kd.C_alloc ?_ _) | (with_reducible refine Kd.C_drewN ?_ _) | (with_reducible refine Kd.C_drew ?_))); (case side2 => exact HC0.out); rintro e w' ⟨rfl, ⟨nd, rfl⟩⟩; refine ⟨_, rfl, ?_⟩))
     go_roundg k1
     case measure => have := HK1.out; omega
     case rel => exact ⟨(wrap64 (x5_1 + 1)), rz, H', ⟨by have := HK1.out; omega⟩, by repeat (first | exact Drawn0.refl _ | apply Drawn0.step)⟩
   ·rw [if_neg c3] at H; have c3b0 := decide_eq_false c3; clear c3; replace H := oa H; obtain ⟨t751, A6, H⟩ := H; (try dsimp only at H)
    by_cases c7 : t751 < 0
    ·rw [if_pos c7] at H; have c7b0 := decide_eq_true c7; clear c7; obtain rfl := Option.some.inj H
     go_wp2_with (first | ((with_reducible refine gc 96 rfl ?_); refine gl (some 21) Try.func96 #[.slice A0 l0.length c0, .int .i64 a1, .int .i64 (l0.length : Int)] ?_; (with_reducible refine (Rf_Rest.calls k1 _ _ l0 a1 (l0.length : Int) t751 _ ?side1 ?side2 A6.out).mono ?_); (case side1 => repeat (first | exact HR0.out | (with_reducible refine Kd.C_alloc ?_ _) | (with_reducible refine Kd.C_drewN ?_ _) | (with_reducible refine Kd.C_drew ?_))); (case side2 => exact HC0.out); rintro e w' ⟨rfl, ⟨nd, rfl⟩⟩; refine ⟨_, rfl, ?_⟩))
     go_ret
     exact ⟨rz, by repeat (first | exact Drawn0.refl _ | apply Drawn0.step)⟩
    ·rw [if_neg c7] at H; have c7b0 := decide_eq_false c7; clear c7; obtain rfl := Option.some.inj H
     go_wp2_with (first | ((with_reducible refine gc 96 rfl ?_); refine gl (some 21) Try.func96 #[.slice A0 l0.length c0, .int .i64 a1, .int .i64 (l0.length : Int)] ?_; (with_reducible refine (Rf_Rest.calls k1 _ _ l0 a1 (l0.length : Int) t751 _ ?side1 ?side2 A6.out).mono ?_); (case side1 => repeat (first | exact HR0.out | (with_reducible refine Kd.C_alloc ?_ _) | (with_reducible refine Kd.C_drewN ?_ _) | (with_reducible refine Kd.C_drew ?_))); (case side2 => exact HC0.out); rintro e w' ⟨rfl, ⟨nd, rfl⟩⟩; refine ⟨_, rfl, ?_⟩))
     go_ret
     exact ⟨rz, by repeat (first | exact Drawn0.refl _ | apply Drawn0.step)⟩
end
section
def Bs_Size.f (a0 : Int) : Option (Int) := some (mx a0 (wrap64 (-a0)))
theorem Bs_Size.calls (a0 : Int) (r : Int) (w : World) (H : Bs_Size.f a0 = some r) :
  Calls Try.prog 88 #[.int .i64 a0] w fun e w' => e = .returned (.int .i64 r) ∧ Below w.heap.size w w' := by
 have HB := m0 (Below.refl w.heap.size w); unfold Bs_Size.f at H; obtain ⟨ji2, hji2⟩ : ∃ j_ : Int, (mx a0 (wrap64 (-a0))) = j_ := ⟨_, rfl⟩; replace H : (some ji2) = some r := by first | (rw [hji2] at H; exact H) | (simp only [hji2] at H ⊢; exact H)
 have hji2_ : (if a0 < (wrap64 (-a0)) then (wrap64 (-a0)) else a0) = ji2 := hji2; obtain rfl := Option.some.inj H; go_enter Try.func88, Try.ntmps88
 go_wp2
 go_ret
 exact ⟨by first | rfl | (simp [errW_none, errW_some] <;> rfl) | (simp only [← hji2]; first | rfl | (simp [errW_none, errW_some] <;> rfl)) | (simp [*, errW_none, errW_some] <;> rfl), by repeat (first | (with_reducible first | exact HB.out | apply below_alloc | apply pw_below_drewN | apply below_drew1) | exact HB.out)⟩
end
section
def Bs_Gcd.l0 : Nat → Int → Int → Option (Int)
 | 0, _, _ => none
 | k + 1, x0, x1 => if x1 = 0 then ((Bs_Size.f x0).bind fun t752 => (some t752)) else (Bs_Gcd.l0 k x1 (Int.tmod x0 x1))
def Bs_Gcd.f (k : Nat) (a0 : Int) (a1 : Int) : Option (Int) := Bs_Gcd.l0 k a0 a1
theorem Bs_Gcd.mono_l : ∀ k, (∀ y0 y1, LeO (Bs_Gcd.l0 k y0 y1) (Bs_Gcd.l0 (k + 1) y0 y1))
 | 0 => fun _ _ r h => by simp [Bs_Gcd.l0] at h
 | k + 1 => by
  have ih0 := Bs_Gcd.mono_l k
  ·intro y0 y1; unfold Bs_Gcd.l0
   repeat' with_reducible first
    | exact ih0 ..
    | exact LeO.refl ..
    | exact LeO.none ..
    | refine LeO.ite ?_ ?_
    | refine LeO.bind ?_ (fun _ => ?_)
theorem Bs_Gcd.mono : ∀ a0 a1 k, LeO (Bs_Gcd.f k a0 a1) (Bs_Gcd.f (k + 1) a0 a1) := by
 intro a0 a1 k; have ih0 := Bs_Gcd.mono_l k; unfold Bs_Gcd.f
 repeat' with_reducible first
  | exact ih0 ..
  | exact LeO.refl ..
  | exact LeO.none ..
  | refine LeO.ite ?_ ?_
  | refine LeO.bind ?_ (fun _ => ?_)
theorem Bs_Gcd.calls (k : Nat) (a0 : Int) (a1 : Int) (r : Int) (w : World) (H : Bs_Gcd.f k a0 a1 = some r) :
  Calls Try.prog 119 #[.int .i64 a0, .int .i64 a1] w fun e w' => e = .returned (.int .i64 r) ∧ Below w.heap.size w w' := by
 have HB := m0 (Below.refl w.heap.size w); unfold Bs_Gcd.f at H; have H' := m0 H; clear H; go_enter Try.func119, Try.ntmps119
 go_wp2
 repeat (go_quiet (fail); try go_wp2)
 go_loopg [0, 1] k (fun kq v0 v1 w' => ∃ (x0_1 : Int) (x1_1 : Int), v0 = .int .i64 x0_1 ∧ v1 = .int .i64 x1_1 ∧ Aside0 (Bs_Gcd.l0 kq x0_1 x1_1 = some r) ∧ Aside0 (kq ≤ k) ∧ Aside0 (Below w.heap.size w w'))
 case atStart => exact ⟨(a0), (a1), rz, rz, H', ⟨Nat.le_refl _⟩, ⟨bz⟩⟩
 case round =>
  clear H'; obtain ⟨x0_1, x1_1, rfl, rfl, HA, HK1, HB⟩ := hrel
  cases gk with
  | zero => exact absurd HA.out (by simp [Bs_Gcd.l0])
  | succ k1 =>
   have H := HA.out; clear HA; simp only [Bs_Gcd.l0] at H
   by_cases c3 : x1_1 = 0
   ·rw [if_pos c3] at H; have c3b0 := beq_iff_eq.mpr c3; have c3b1 := bne_eq_false_iff_eq.mpr c3; clear c3; replace H := oa H; obtain ⟨t752, A4, H⟩ := H; (try dsimp only at H); obtain rfl := Option.some.inj H
    go_wp2_with (first | (go_at_call 88; (with_reducible refine (Bs_Size.calls x0_1 t752 _ A4.out).mono ?_); rintro e w5 ⟨rfl, hb⟩; replace HB := sb HB hb; (try clear hb)))
    repeat (go_quiet (first | (go_at_call 88; (with_reducible refine (Bs_Size.calls x0_1 t752 _ A4.out).mono ?_); rintro e w5 ⟨rfl, hb⟩; replace HB := sb HB hb; (try clear hb))); try go_wp2_with (first | (go_at_call 88; (with_reducible refine (Bs_Size.calls x0_1 t752 _ A4.out).mono ?_); rintro e w5 ⟨rfl, hb⟩; replace HB := sb HB hb; (try clear hb))))
    go_ret
    exact ez
   ·rw [if_neg c3] at H; have c3b0 := beq_eq_false_iff_ne.mpr c3; have c3b1 := bne_iff_ne.mpr c3; have H' := m0 H; clear H
    go_wp2
    repeat (go_quiet (fail); try go_wp2)
    go_roundg k1
    case measure => have := HK1.out; omega
    case rel => exact ⟨(x1_1), (Int.tmod x0_1 x1_1), rz, rz, H', ⟨by have := HK1.out; omega⟩, ⟨bz⟩⟩
end
section
def Bs_Lowest.f (k : Nat) (a0 : Int) (a1 : Int) : Option (Int × Int) := (Bs_Gcd.f k a0 a1).bind fun t754 => (if a1 < 0 then (if (wrap64 (-t754)) = 0 then (none) else (some (wrap64 (Int.tdiv a0 (wrap64 (-t754))), wrap64 (Int.tdiv a1 (wrap64 (-t754)))))) else (if t754 = 0 then (none) else (some (wrap64 (Int.tdiv a0 t754), wrap64 (Int.tdiv a1 t754)))))
theorem Bs_Lowest.mono : ∀ a0 a1 k, LeO (Bs_Lowest.f k a0 a1) (Bs_Lowest.f (k + 1) a0 a1) := by
 intro a0 a1 k; unfold Bs_Lowest.f
 repeat' with_reducible first
  | exact Bs_Gcd.mono ..
  | exact LeO.refl ..
  | exact LeO.none ..
  | refine LeO.ite ?_ ?_
  | refine LeO.bind ?_ (fun _ => ?_)
def Bs_Lowest.T4 : Bool × List (List Nat × List Nat) := (true, [([], []), ([], []), ([0, 1], [0, 1]), ([], []), ([], []), ([3, 4], [3, 4]), ([2, 5], [2, 5]), ([6, 0, 1, 2, 3, 4, 5, 6], [6])])
def Bs_Lowest.B4 : List Nat := [0, 0, 3, 0, 0, 24, 63, 127]
theorem Bs_Lowest.tab4 : rtab .any (opsOf Try.f97 4) = Bs_Lowest.T4 := by kernel_rfl
theorem Bs_Lowest.bits4 : waitsOk Bs_Lowest.T4.2 Bs_Lowest.B4 = true := by kernel_rfl
theorem Bs_Lowest.calls (k : Nat) (a0 : Int) (a1 : Int) (r1 : Int) (r2 : Int) (w : World) (H : Bs_Lowest.f k a0 a1 = some (r1, r2)) :
  Calls Try.prog 97 #[.int .i64 a0, .int .i64 a1] w fun e w' => e = .returned (.agg #[.int .i64 r1, .int .i64 r2]) ∧ Below w.heap.size w w' := by
 have hu100 := Try.underlying100; have HB := m0 (Below.refl w.heap.size w); unfold Bs_Lowest.f at H; replace H := oa H; obtain ⟨t754, A3, H⟩ := H; (try dsimp only at H)
 by_cases c4 : a1 < 0
 ·rw [if_pos c4] at H; have c4b0 := decide_eq_true c4; clear c4
  by_cases c5 : (wrap64 (-t754)) = 0
  ·rw [if_pos c5] at H; exact absurd H (by simp)
  ·rw [if_neg c5] at H; have c5b0 := beq_eq_false_iff_ne.mpr c5; have c5b1 := bne_iff_ne.mpr c5; simp only [Option.some.injEq, Prod.mk.injEq] at H; obtain ⟨rfl, rfl⟩ := H; go_enter Try.func97, Try.ntmps97
   try go_wp2_with (first | ((with_reducible refine ga 4 rfl ?_); refine be 4 100 #[.int .i64 0, .int .i64 0] ?_; intro gb753 hg w6 hbox hb; have BK753 := m0 hbox; have GE753 := gw w hg; replace HB := sb HB hb; clear hb hbox hg) | ((with_reducible refine gc 119 rfl ?_); refine gl (some 8) Try.func119 #[.int .i64 a0, .int .i64 a1] ?_; (with_reducible refine (Bs_Gcd.calls k a0 a1 t754 _ A3.out).mono ?_); rintro e w7 ⟨rfl, hb⟩; refine ⟨_, rfl, ?_⟩; replace BK753 := bb BK753 hb; replace HB := sb HB hb; (try clear hb)))
   replace BK753 := bd BK753; replace HB := sd HB; refine start_ (n := 8) (S := fun w' => True) (ds := []) _ (by kernel_rfl) rfl rfl trivial (fun hH => ?_); refine with_tabW Bs_Lowest.tab4 Bs_Lowest.bits4 (fun HT_ HW_ => ?_); generalize w7.drew = w8 at BK753 HB hH ⊢; refine pZ 0 (some 13) #[true, false, false, false, false, false, false, false] HT_ ?_; refine pZ 1 (some 14) #[true, true, false, false, false, false, false, false] HT_ ?_; refine pZ 2 (some 15) #[true, true, true, false, false, false, false, false] HT_ ?_; refine pZ 3 (some 16) #[true, true, true, true, false, false, false, false] HT_ ?_; refine pZ 4 (some 17) #[true, true, true, true, true, false, false, false] HT_ ?_; refine pZ 5 (some 18) #[true, true, true, true, true, true, false, false] HT_ ?_; refine pZ 6 (some 19) #[true, true, true, true, true, true, true, false] HT_ ?_; refine oneZ 7 (none) #[true, true, true, true, true, true, true, true] (o1 HT_) fun K hK => ?_; obtain ⟨hs9, hfs9⟩ := q0 BK753; obtain ⟨hs10, hfs10⟩ := q1 BK753; refine skip_ (w1 := ?_) (by rfl) rfl ?_ ?_; rotate_left
   ·go_simp
    rfl
   refine hK.out _ _ trivial (fun hH => ?_); clear hK K; refine done_ (done_of HT_.out (by kernel_rfl)) ?_
   try go_wp2
   refine bodyPost_ret (results_cell_row rfl _ _ gb753 100 #[.int .i64 (wrap64 (Int.tdiv a0 (wrap64 (-t754)))), .int .i64 (wrap64 (Int.tdiv a1 (wrap64 (-t754))))] (0, 0) _ rfl (bq BK753.out) Try.underlying100 rfl (by kernel_rfl)) rfl ?_; exact ez
 ·rw [if_neg c4] at H; have c4b0 := decide_eq_false c4; clear c4
  by_cases c11 : t754 = 0
  ·rw [if_pos c11] at H; exact absurd H (by simp)
  ·rw [if_neg c11] at H; have c11b0 := beq_eq_false_iff_ne.mpr c11; have c11b1 := bne_iff_ne.mpr c11; simp only [Option.some.injEq, Prod.mk.injEq] at H; obtain ⟨rfl, rfl⟩ := H; go_enter Try.func97, Try.ntmps97
   try go_wp2_with (first | ((with_reducible refine ga 4 rfl ?_); refine be 4 100 #[.int .i64 0, .int .i64 0] ?_; intro gb753 hg w12 hbox hb; have BK753 := m0 hbox; have GE753 := gw w hg; replace HB := sb HB hb; clear hb hbox hg) | ((with_reducible refine gc 119 rfl ?_); refine gl (some 8) Try.func119 #[.int .i64 a0, .int .i64 a1] ?_; (with_reducible refine (Bs_Gcd.calls k a0 a1 t754 _ A3.out).mono ?_); rintro e w13 ⟨rfl, hb⟩; refine ⟨_, rfl, ?_⟩; replace BK753 := bb BK753 hb; replace HB := sb HB hb; (try clear hb)))
   replace BK753 := bd BK753; replace HB := sd HB; refine start_ (n := 8) (S := fun w' => True) (ds := []) _ (by kernel_rfl) rfl rfl trivial (fun hH => ?_); refine with_tabW Bs_Lowest.tab4 Bs_Lowest.bits4 (fun HT_ HW_ => ?_); generalize w13.drew = w14 at BK753 HB hH ⊢; refine pZ 0 (some 13) #[true, false, false, false, false, false, false, false] HT_ ?_; refine pZ 1 (some 14) #[true, true, false, false, false, false, false, false] HT_ ?_; refine pZ 2 (some 15) #[true, true, true, false, false, false, false, false] HT_ ?_; refine pZ 3 (some 16) #[true, true, true, true, false, false, false, false] HT_ ?_; refine pZ 4 (some 17) #[true, true, true, true, true, false, false, false] HT_ ?_; refine pZ 5 (some 18) #[true, true, true, true, true, true, false, false] HT_ ?_; refine pZ 6 (some 19) #[true, true, true, true, true, true, true, false] HT_ ?_; refine oneZ 7 (none) #[true, true, true, true, true, true, true, true] (o1 HT_) fun K hK => ?_; obtain ⟨hs15, hfs15⟩ := q0 BK753; obtain ⟨hs16, hfs16⟩ := q1 BK753; refine skip_ (w1 := ?_) (by rfl) rfl ?_ ?_; rotate_left
   ·go_simp
    rfl
   refine hK.out _ _ trivial (fun hH => ?_); clear hK K; refine done_ (done_of HT_.out (by kernel_rfl)) ?_
   try go_wp2
   refine bodyPost_ret (results_cell_row rfl _ _ gb753 100 #[.int .i64 (wrap64 (Int.tdiv a0 t754)), .int .i64 (wrap64 (Int.tdiv a1 t754))] (0, 0) _ rfl (bq BK753.out) Try.underlying100 rfl (by kernel_rfl)) rfl ?_; exact ez
end
end Go.Proofs.Yteiafijbgjgiaaa.A
