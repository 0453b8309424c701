/- Walks of the program's functions (printed, made shorter), each with what it computes. -/
import Derived.Sort.OwnSortedInts
import Derived.Test.YtibhfahbabgbaaaB05
import Derived.Test.YtibhfahbabgbaaaTS02
import Derived.Test.YtibhfahbabgbaaaB04
import Derived.Test.YtibhfahbabgbaaaB13
import Derived.Test.YtibhfahbabgbaaaB15
import Derived.Test.YtibhfahbabgbaaaB12
import Derived.Test.YtibhfahbabgbaaaTS01
namespace Go.Proofs.Ytibhfahbabgbaaa.A
set_option maxHeartbeats 8000000
set_option maxRecDepth 100000
open Go.RowKit Go.Proofs.YtibhfahbabgbaaaW.PrintWords Go.Proofs.YtibhfahbabgbaaaW.PrintLast Go.Proofs.YtibhfahbabgbaaaW.PrintMore
attribute [local go_sem] max2_int min2_int max_two min_two max_three min_three max_four min_four
set_option linter.unusedVariables false
set_option linter.unusedSimpArgs false
section
def slices_Sort_int_int.f (l0 : List Int) : Option (List Int) := if l0.length < 4611686018427387904 then some (l0.mergeSort fun x y => decide (x ≤ y)) else none
theorem slices_Sort_int_int.calls (P0_ : Nat → Prop) (u9000_ : Value) (l0 : List Int) (r : List Int) (w0 w : World) (hB : Below w0.heap.size w0 w) (ho0 : Kd.R (Kd.int .i64) 3 w w0.heap.size P0_ u9000_ l0) (h : slices_Sort_int_int.f l0 = some r) :
  Calls Try.prog 127 #[u9000_] w fun e w' => e = .returned (.tuple #[]) ∧ Kd.R (Kd.int .i64) 3 w' w0.heap.size (fun k_ => (P0_ k_ ∨ w.heap.size ≤ k_)) u9000_ r ∧ Below w0.heap.size w0 w' ∧ Kept w w' (fun k_ => P0_ k_) := by
 unfold slices_Sort_int_int.f at h
 by_cases hsz : l0.length < 4611686018427387904
 case neg => simp [hsz] at h
 rw [if_pos hsz] at h
 obtain rfl : (l0.mergeSort fun x y => decide (x ≤ y)) = r := Option.some.inj h
 have hok := ho0.1
 have ho := Kd.own_of_R ho0
 have hl : (l0.mergeSort fun x y => decide (x ≤ y)).length = l0.length := List.length_mergeSort _
 obtain ⟨hi, ⟨rfl, h0⟩ | ⟨g, cap, cur, rfl, hbase, hb, h1, h2, h3, h4⟩⟩ := ho
 ·obtain rfl : l0 = [] := List.length_eq_zero_iff.1 h0
  refine (Any.slices_Sort_int_none Try.lays189 none 0 w).mono ?_
  rintro e w' ⟨rfl, rfl⟩
  exact ⟨rfl, by rw [List.mergeSort_nil]; exact Kd.R_nil _ _ _ _ _, hB, Kept.refl _ _⟩
 ·have hg : g < w.heap.size := (Array.getElem?_eq_some_iff.1 hb).1
  have h4' : cur.toList.take l0.length = l0.map (Value.int .i64) := by simpa [encs] using h4
  refine (Any.slices_Sort_int Try.lays189 g 0 cap l0 w (holds_of_blockI hb h4') hg hsz).mono ?_
  rintro e w' ⟨rfl, n, os, rfl⟩
  have hgb := grownBy_sortedI (w := w) (g := g) (n := n) (os := os) (l0.mergeSort fun x y => decide (x ≤ y)).toArray
  refine ⟨rfl, ?_, ?_, Kept.of_grown hgb (Kept.refl _ _) (fun k hk => .inl (hok k (by rw [← hk]; rfl)))⟩
  ·have hown := ownsRow_sortedI (n := n) (os := os) (ts := l0.mergeSort fun x y => decide (x ≤ y)) hl hbase hb h1 h2 h3
   refine Kd.R_of_own (enc := Value.int .i64) ?_ (fun k hk => .inl (hok k hk))
   rw [hl]
   simpa [encs] using hown
  ·exact ⟨hB.os, hB.tape, hB.output, Nat.le_trans hB.size hgb.size, fun k hk => (hgb.block k (Nat.lt_of_lt_of_le hk hB.size) (fun e => by cases e; omega)).trans (hB.block k hk)⟩
end
section
def L_IsSure.f (k : Nat) (l0 : List (S126)) (a1 : Int) : Option (Bool × Int) := (L_sightsErr.f k l0).bind fun t1586 => ((L_within.f a1 1 100000).bind fun t1587 => ((L_unless.f t1587 2).bind fun t1588 => ((L_first.f k (([t1586, t1588] : List Int))).bind fun t1592 => (if t1592 = 0 then ((L_scores.f k l0).bind fun t1593 => ((slices_Sort_int_int.f t1593).bind fun t1596 => (if 0 ≤ (wrap64 ((t1593.length : Int) - 1)) then (if (wrap64 ((t1593.length : Int) - 1)) < (t1593.length : Int) then (if 0 ≤ (wrap64 ((wrap64 ((t1593.length : Int) - 1)) - 1)) then (if (wrap64 ((wrap64 ((t1593.length : Int) - 1)) - 1)) < (t1593.length : Int) then (some (decide ((wrap64 ((rd t1596 (wrap64 ((t1593.length : Int) - 1))) - (rd t1596 (wrap64 ((wrap64 ((t1593.length : Int) - 1)) - 1))))) ≥ a1), 0)) else (none)) else (none)) else (none)) else (none)))) else (some (false, t1592))))))
theorem L_IsSure.mono : ∀ a0 a1 k, LeO (L_IsSure.f k a0 a1) (L_IsSure.f (k + 1) a0 a1) := by
 intro a0 a1 k
 unfold L_IsSure.f
 repeat' with_reducible first
  | exact L_first.mono ..
  | exact L_scores.mono ..
  | exact L_sightsErr.mono ..
  | exact LeO.refl ..
  | exact LeO.none ..
  | refine LeO.ite ?_ ?_
  | refine LeO.bind ?_ (fun _ => ?_)
theorem L_IsSure.calls (k : Nat) (A0 : Option Addr) (c0 : Nat) (l0 : List (S126)) (a1 : Int) (r1 : Bool) (r2 : Int) (w : World) (hr0 : Kd.C k126 w A0 l0.length l0) (hc0 : l0.length ≤ c0) (h : L_IsSure.f k l0 a1 = some (r1, r2)) :
  Calls Try.prog 66 #[.slice A0 l0.length c0, .int .i64 a1] w fun e w' => e = .returned (.tuple #[.bool r1, .int .i64 r2]) ∧ Below w.heap.size w w' := by
 have HR0 := m0 hr0
 have HC0 := m0 hc0
 clear hr0 hc0
 have HB := m0 (Below.refl w.heap.size w)
 have H : ((L_sightsErr.f k l0).bind fun t1586 => ((L_within.f a1 1 100000).bind fun t1587 => ((L_unless.f t1587 2).bind fun t1588 => ((L_first.f k (([t1586, t1588] : List Int))).bind fun t1592 => (if t1592 = 0 then ((L_scores.f k l0).bind fun t1593 => ((slices_Sort_int_int.f t1593).bind fun t1596 => (if 0 ≤ (wrap64 ((t1593.length : Int) - 1)) then (if (wrap64 ((t1593.length : Int) - 1)) < (t1593.length : Int) then (if 0 ≤ (wrap64 ((wrap64 ((t1593.length : Int) - 1)) - 1)) then (if (wrap64 ((wrap64 ((t1593.length : Int) - 1)) - 1)) < (t1593.length : Int) then (some (decide ((wrap64 ((rd t1596 (wrap64 ((t1593.length : Int) - 1))) - (rd t1596 (wrap64 ((wrap64 ((t1593.length : Int) - 1)) - 1))))) ≥ a1), 0)) else (none)) else (none)) else (none)) else (none)))) else (some (false, t1592))))))) = some (r1, r2) := h
 clear h
 replace H := ob H
 obtain ⟨t1586, A3, H⟩ := H
 (try dsimp only at H)
 replace A3 := m0 A3
 replace H := ob H
 obtain ⟨t1587, A4, H⟩ := H
 (try dsimp only at H)
 replace A4 := m0 A4
 replace H := ob H
 obtain ⟨t1588, A5, H⟩ := H
 (try dsimp only at H)
 replace A5 := m0 A5
 obtain ⟨y1589, hy1589⟩ : ∃ y_ : List Int, y_ = (([t1586, t1588] : List Int)) := ⟨_, rfl⟩
 replace H : ((L_first.f k y1589).bind fun t1592 => (if t1592 = 0 then ((L_scores.f k l0).bind fun t1593 => ((slices_Sort_int_int.f t1593).bind fun t1596 => (if 0 ≤ (wrap64 ((t1593.length : Int) - 1)) then (if (wrap64 ((t1593.length : Int) - 1)) < (t1593.length : Int) then (if 0 ≤ (wrap64 ((wrap64 ((t1593.length : Int) - 1)) - 1)) then (if (wrap64 ((wrap64 ((t1593.length : Int) - 1)) - 1)) < (t1593.length : Int) then (some (decide ((wrap64 ((rd t1596 (wrap64 ((t1593.length : Int) - 1))) - (rd t1596 (wrap64 ((wrap64 ((t1593.length : Int) - 1)) - 1))))) ≥ a1), 0)) else (none)) else (none)) else (none)) else (none)))) else (some (false, t1592)))) = some (r1, r2) := by first | (rw [hy1589]; with_reducible exact H) | (have H2_ := (Option.bind_some _ _).symm.trans H; rw [hy1589]; with_reducible exact H2_) | (have H2_ := (Option.bind_some _ _).symm.trans H; with_reducible exact H2_) | with_reducible exact H | (rw [hy1589]; exact H) | exact H
 have Ny1589 := m0 hy1589
 clear hy1589
 replace H := ob H
 obtain ⟨t1592, A6, H⟩ := H
 (try dsimp only at H)
 replace A6 := m0 A6
 by_cases c7 : t1592 = 0
 ·rw [if_pos c7] at H
  have c7b0 := beq_iff_eq.mpr c7
  have c7b1 := bne_eq_false_iff_eq.mpr c7
  clear c7
  replace H := ob H
  obtain ⟨t1593, A8, H⟩ := H
  (try dsimp only at H)
  replace A8 := m0 A8
  replace H := ob H
  obtain ⟨t1596, A9, H⟩ := H
  (try dsimp only at H)
  replace A9 := m0 A9
  obtain ⟨ji10, hji10⟩ : ∃ j_ : Int, (wrap64 ((t1593.length : Int) - 1)) = j_ := ⟨_, rfl⟩
  replace H : (if 0 ≤ (ji10) then (if (ji10) < (t1593.length : Int) then (if 0 ≤ (wrap64 ((ji10) - 1)) then (if (wrap64 ((ji10) - 1)) < (t1593.length : Int) then (some (decide ((wrap64 ((rd t1596 (ji10)) - (rd t1596 (wrap64 ((ji10) - 1))))) ≥ a1), 0)) else (none)) else (none)) else (none)) else (none)) = some (r1, r2) := by first | (rw [hji10] at H; exact H) | (simp only [hji10] at H ⊢; exact H)
  (try rw [hji10] at A3)
  (try rw [hji10] at A4)
  (try rw [hji10] at A5)
  (try rw [hji10] at A6)
  (try rw [hji10] at A8)
  (try rw [hji10] at A9)
  have hji10w : (IntKind.i64.wrap ((t1593.length : Int) - 1)) = ji10 := (i64_w _).trans hji10
  by_cases c11 : 0 ≤ (ji10)
  ·rw [if_pos c11] at H
   have c11b0 := decide_eq_true c11
   clear c11
   by_cases c12 : (ji10) < (t1593.length : Int)
   ·rw [if_pos c12] at H
    have c12b0 := decide_eq_true c12
    clear c12
    obtain ⟨ji13, hji13⟩ : ∃ j_ : Int, (wrap64 ((ji10) - 1)) = j_ := ⟨_, rfl⟩
    replace H : (if 0 ≤ (ji13) then (if (ji13) < (t1593.length : Int) then (some (decide ((wrap64 ((rd t1596 (ji10)) - (rd t1596 (ji13)))) ≥ a1), 0)) else (none)) else (none)) = some (r1, r2) := by first | (rw [hji13] at H; exact H) | (simp only [hji13] at H ⊢; exact H)
    (try rw [hji13] at A3)
    (try rw [hji13] at A4)
    (try rw [hji13] at A5)
    (try rw [hji13] at A6)
    (try rw [hji13] at A8)
    (try rw [hji13] at A9)
    have hji13w : (IntKind.i64.wrap ((ji10) - 1)) = ji13 := (i64_w _).trans hji13
    by_cases c14 : 0 ≤ (ji13)
    ·rw [if_pos c14] at H
     have c14b0 := decide_eq_true c14
     clear c14
     by_cases c15 : (ji13) < (t1593.length : Int)
     ·rw [if_pos c15] at H
      have c15b0 := decide_eq_true c15
      clear c15
      simp only [Option.some.injEq, Prod.mk.injEq] at H
      obtain ⟨rfl, rfl⟩ := H
      go_enter Try.func66, Try.ntmps66
      go_wp2_with (first | (go_at_call 123; (with_reducible refine (L_sightsErr.calls k _ _ l0 t1586 _ ?side1 ?side2 A3.out).mono ?_); (case side1 => repeat (first | exact HR0.out | (with_reducible refine Kd.C_alloc ?_ _) | (with_reducible refine Kd.C_drewN ?_ _) | (with_reducible refine Kd.C_drew ?_))); (case side2 => exact HC0.out); rintro e w16 ⟨rfl, hb⟩; replace HB := sb HB hb; (try clear hb)) | (go_at_call 78; (with_reducible refine (L_within.calls a1 1 100000 t1587 _ A4.out).mono ?_); rintro e w' ⟨rfl, ⟨nd, rfl⟩⟩; (try first | exact ⟨rfl, _, World.drewN_drewN _ _ _⟩ | exact ⟨rfl, _, Eq.trans (World.drewN_drewN _ _ _) (congrArg (World.drewN _) (Nat.add_assoc _ _ _))⟩)) | (go_at_call 76; (with_reducible refine (L_unless.calls t1587 2 t1588 _ A5.out).mono ?_); rintro e w' ⟨rfl, ⟨nd, rfl⟩⟩; (try first | exact ⟨rfl, _, World.drewN_drewN _ _ _⟩ | exact ⟨rfl, _, Eq.trans (World.drewN_drewN _ _ _) (congrArg (World.drewN _) (Nat.add_assoc _ _ _))⟩)) | ((with_reducible refine gate_dst (N := 14) rfl ?_); refine Kd.R_lit (Kd.int .i64) _ 24 ?hg (N := 14) ?hd (xs := ([t1586, t1588] : List Int)) (inner := [.int .i64 t1586, .int .i64 t1588]) (ok := fun _ => True) (okp := fun _ => True) ?hr ?hp (fun _ hk => hk) trivial (Below.refl _ _) (Nat.le_refl _) (by simp) ?_; (case hd => rfl); (case hg => rfl); (case hr => first | (go_simp; done) | (go_simp; rfl)); (case hp => exact (Reps.one (show Kd.M (Kd.int .i64) _ _ _ t1586 [.int .i64 t1586] from rfl) (Reps.one (show Kd.M (Kd.int .i64) _ _ _ t1588 [.int .i64 t1588] from rfl) (Reps.none _ _)))); intro v1590 w17 ho18 hb hg_ hnew_; clear hg_ hnew_; (first | rw [← Ny1589.out] at ho18 | (simp only [Int.reduceToNat] at ho18; rw [← Ny1589.out] at ho18)); have HO1591 := m0 (Kd.R_lower ho18 (below_size bz)); replace HB := sb HB hb; clear hb ho18; obtain ⟨Ao19, co19, eo19⟩ := Kd.R_slice HO1591.out; subst eo19) | (go_at_call 75; (with_reducible refine (L_first.calls k _ _ y1589 t1592 _ ?side1 ?side2 A6.out).mono ?_); (case side1 => exact bc (Kd.R_reads' HO1591.out).2.2); (case side2 => exact (Kd.R_reads' HO1591.out).2.1); rintro e w' ⟨rfl, ⟨nd, rfl⟩⟩; (try first | exact ⟨rfl, _, World.drewN_drewN _ _ _⟩ | exact ⟨rfl, _, Eq.trans (World.drewN_drewN _ _ _) (congrArg (World.drewN _) (Nat.add_assoc _ _ _))⟩)) | (go_at_call 124; (with_reducible refine (L_scores.calls k _ _ l0 t1593 _ ?side1 ?side2 A8.out).mono ?_); (case side1 => repeat (first | exact (Kd.C_below HR0.out bz) | (with_reducible refine Kd.C_alloc ?_ _) | (with_reducible refine Kd.C_drewN ?_ _) | (with_reducible refine Kd.C_drew ?_))); (case side2 => exact HC0.out); rintro e w20 ⟨v1594, rfl, ho0, hb⟩; replace HO1591 := rb HO1591 hb; have HO1595 := m0 (Kd.R_lower ho0 (below_size bz)); replace HB := sb HB hb; (try clear hb); (try clear ho0); obtain ⟨Ao21, co21, eo21⟩ := Kd.R_slice HO1595.out; subst eo21) | (go_at_call 127; (with_reducible refine (slices_Sort_int_int.calls (fun k_ => some k_ = (.slice Ao21 t1593.length co21 : Value).ownBlock) (.slice Ao21 t1593.length co21) t1593 t1596 w _ ?side1 ?side2 A9.out).mono ?_); (case side1 => repeat (first | (with_reducible first | exact HB.out | apply below_alloc | apply pw_below_drewN | apply below_drew1) | exact HB.out)); (case side2 => exact Kd.R_tight rfl HO1595.out); rintro e w22 ⟨rfl, hy0, hb, hkp⟩; replace HO1591 := m0 (Kd.R_mono (ok' := fun k_ => True) (Kd.R_keptB ((Kd.R_apart' HO1591.out (Kd.R_typed HO1595.out) (by decide))) hkp (fun k_ hk_ hs_ => (hk_.2) hs_)) (fun k_ hk_ => trivial)); replace HO1595 := m0 (Kd.R_reok rfl hy0 (fun k_ e_ => HO1595.out.1 k_ e_)); replace HB := m0 (hb); (try clear hb); (try clear hkp); (try clear hy0); have p1597 : 0 ≤ ((ji10) : Int) := od; have q1597 : (ji10) < (t1596.length : Int) := (by have h_ : ((ji10) : Int) < ((t1593.length : Int) : Int) := od; have e_ := (Kd.R_reads' HO1595.out).1; omega); have ql1597 : (((ji10) : Int) < ((t1593.length : Int) : Int)) = True := eq_true (od); obtain ⟨ad1597, e1597, hx1597_0⟩ := Kd.at_int (Kd.R_reads' HO1595.out).2.2 (ji10) p1597 q1597; cases e1597; replace p1597 := eq_true p1597; replace q1597 := eq_true q1597; have p1598 : 0 ≤ ((ji13) : Int) := od; have q1598 : (ji13) < (t1596.length : Int) := (by have h_ : ((ji13) : Int) < ((t1593.length : Int) : Int) := od; have e_ := (Kd.R_reads' HO1595.out).1; omega); have ql1598 : (((ji13) : Int) < ((t1593.length : Int) : Int)) = True := eq_true (od); obtain ⟨ad1598, e1598, hx1598_0⟩ := Kd.at_int (Kd.R_reads' HO1595.out).2.2 (ji13) p1598 q1598; obtain rfl : ad1597 = ad1598 := (by injection e1598); replace p1598 := eq_true p1598; replace q1598 := eq_true q1598))
      repeat (go_quiet (first | (go_at_call 123; (with_reducible refine (L_sightsErr.calls k _ _ l0 t1586 _ ?side1 ?side2 A3.out).mono ?_); (case side1 => repeat (first | exact HR0.out | (with_reducible refine Kd.C_alloc ?_ _) | (with_reducible refine Kd.C_drewN ?_ _) | (with_reducible refine Kd.C_drew ?_))); (case side2 => exact HC0.out); rintro e w16 ⟨rfl, hb⟩; replace HB := sb HB hb; (try clear hb)) | (go_at_call 78; (with_reducible refine (L_within.calls a1 1 100000 t1587 _ A4.out).mono ?_); rintro e w' ⟨rfl, ⟨nd, rfl⟩⟩; (try first | exact ⟨rfl, _, World.drewN_drewN _ _ _⟩ | exact ⟨rfl, _, Eq.trans (World.drewN_drewN _ _ _) (congrArg (World.drewN _) (Nat.add_assoc _ _ _))⟩)) | (go_at_call 76; (with_reducible refine (L_unless.calls t1587 2 t1588 _ A5.out).mono ?_); rintro e w' ⟨rfl, ⟨nd, rfl⟩⟩; (try first | exact ⟨rfl, _, World.drewN_drewN _ _ _⟩ | exact ⟨rfl, _, Eq.trans (World.drewN_drewN _ _ _) (congrArg (World.drewN _) (Nat.add_assoc _ _ _))⟩)) | ((with_reducible refine gate_dst (N := 14) rfl ?_); refine Kd.R_lit (Kd.int .i64) _ 24 ?hg (N := 14) ?hd (xs := ([t1586, t1588] : List Int)) (inner := [.int .i64 t1586, .int .i64 t1588]) (ok := fun _ => True) (okp := fun _ => True) ?hr ?hp (fun _ hk => hk) trivial (Below.refl _ _) (Nat.le_refl _) (by simp) ?_; (case hd => rfl); (case hg => rfl); (case hr => first | (go_simp; done) | (go_simp; rfl)); (case hp => exact (Reps.one (show Kd.M (Kd.int .i64) _ _ _ t1586 [.int .i64 t1586] from rfl) (Reps.one (show Kd.M (Kd.int .i64) _ _ _ t1588 [.int .i64 t1588] from rfl) (Reps.none _ _)))); intro v1590 w17 ho18 hb hg_ hnew_; clear hg_ hnew_; (first | rw [← Ny1589.out] at ho18 | (simp only [Int.reduceToNat] at ho18; rw [← Ny1589.out] at ho18)); have HO1591 := m0 (Kd.R_lower ho18 (below_size bz)); replace HB := sb HB hb; clear hb ho18; obtain ⟨Ao19, co19, eo19⟩ := Kd.R_slice HO1591.out; subst eo19) | (go_at_call 75; (with_reducible refine (L_first.calls k _ _ y1589 t1592 _ ?side1 ?side2 A6.out).mono ?_); (case side1 => exact bc (Kd.R_reads' HO1591.out).2.2); (case side2 => exact (Kd.R_reads' HO1591.out).2.1); rintro e w' ⟨rfl, ⟨nd, rfl⟩⟩; (try first | exact ⟨rfl, _, World.drewN_drewN _ _ _⟩ | exact ⟨rfl, _, Eq.trans (World.drewN_drewN _ _ _) (congrArg (World.drewN _) (Nat.add_assoc _ _ _))⟩)) | (go_at_call 124; (with_reducible refine (L_scores.calls k _ _ l0 t1593 _ ?side1 ?side2 A8.out).mono ?_); (case side1 => repeat (first | exact (Kd.C_below HR0.out bz) | (with_reducible refine Kd.C_alloc ?_ _) | (with_reducible refine Kd.C_drewN ?_ _) | (with_reducible refine Kd.C_drew ?_))); (case side2 => exact HC0.out); rintro e w20 ⟨v1594, rfl, ho0, hb⟩; replace HO1591 := rb HO1591 hb; have HO1595 := m0 (Kd.R_lower ho0 (below_size bz)); replace HB := sb HB hb; (try clear hb); (try clear ho0); obtain ⟨Ao21, co21, eo21⟩ := Kd.R_slice HO1595.out; subst eo21) | (go_at_call 127; (with_reducible refine (slices_Sort_int_int.calls (fun k_ => some k_ = (.slice Ao21 t1593.length co21 : Value).ownBlock) (.slice Ao21 t1593.length co21) t1593 t1596 w _ ?side1 ?side2 A9.out).mono ?_); (case side1 => repeat (first | (with_reducible first | exact HB.out | apply below_alloc | apply pw_below_drewN | apply below_drew1) | exact HB.out)); (case side2 => exact Kd.R_tight rfl HO1595.out); rintro e w22 ⟨rfl, hy0, hb, hkp⟩; replace HO1591 := m0 (Kd.R_mono (ok' := fun k_ => True) (Kd.R_keptB ((Kd.R_apart' HO1591.out (Kd.R_typed HO1595.out) (by decide))) hkp (fun k_ hk_ hs_ => (hk_.2) hs_)) (fun k_ hk_ => trivial)); replace HO1595 := m0 (Kd.R_reok rfl hy0 (fun k_ e_ => HO1595.out.1 k_ e_)); replace HB := m0 (hb); (try clear hb); (try clear hkp); (try clear hy0); have p1597 : 0 ≤ ((ji10) : Int) := od; have q1597 : (ji10) < (t1596.length : Int) := (by have h_ : ((ji10) : Int) < ((t1593.length : Int) : Int) := od; have e_ := (Kd.R_reads' HO1595.out).1; omega); have ql1597 : (((ji10) : Int) < ((t1593.length : Int) : Int)) = True := eq_true (od); obtain ⟨ad1597, e1597, hx1597_0⟩ := Kd.at_int (Kd.R_reads' HO1595.out).2.2 (ji10) p1597 q1597; cases e1597; replace p1597 := eq_true p1597; replace q1597 := eq_true q1597; have p1598 : 0 ≤ ((ji13) : Int) := od; have q1598 : (ji13) < (t1596.length : Int) := (by have h_ : ((ji13) : Int) < ((t1593.length : Int) : Int) := od; have e_ := (Kd.R_reads' HO1595.out).1; omega); have ql1598 : (((ji13) : Int) < ((t1593.length : Int) : Int)) = True := eq_true (od); obtain ⟨ad1598, e1598, hx1598_0⟩ := Kd.at_int (Kd.R_reads' HO1595.out).2.2 (ji13) p1598 q1598; obtain rfl : ad1597 = ad1598 := (by injection e1598); replace p1598 := eq_true p1598; replace q1598 := eq_true q1598)); try go_wp2_with (first | (go_at_call 123; (with_reducible refine (L_sightsErr.calls k _ _ l0 t1586 _ ?side1 ?side2 A3.out).mono ?_); (case side1 => repeat (first | exact HR0.out | (with_reducible refine Kd.C_alloc ?_ _) | (with_reducible refine Kd.C_drewN ?_ _) | (with_reducible refine Kd.C_drew ?_))); (case side2 => exact HC0.out); rintro e w16 ⟨rfl, hb⟩; replace HB := sb HB hb; (try clear hb)) | (go_at_call 78; (with_reducible refine (L_within.calls a1 1 100000 t1587 _ A4.out).mono ?_); rintro e w' ⟨rfl, ⟨nd, rfl⟩⟩; (try first | exact ⟨rfl, _, World.drewN_drewN _ _ _⟩ | exact ⟨rfl, _, Eq.trans (World.drewN_drewN _ _ _) (congrArg (World.drewN _) (Nat.add_assoc _ _ _))⟩)) | (go_at_call 76; (with_reducible refine (L_unless.calls t1587 2 t1588 _ A5.out).mono ?_); rintro e w' ⟨rfl, ⟨nd, rfl⟩⟩; (try first | exact ⟨rfl, _, World.drewN_drewN _ _ _⟩ | exact ⟨rfl, _, Eq.trans (World.drewN_drewN _ _ _) (congrArg (World.drewN _) (Nat.add_assoc _ _ _))⟩)) | ((with_reducible refine gate_dst (N := 14) rfl ?_); refine Kd.R_lit (Kd.int .i64) _ 24 ?hg (N := 14) ?hd (xs := ([t1586, t1588] : List Int)) (inner := [.int .i64 t1586, .int .i64 t1588]) (ok := fun _ => True) (okp := fun _ => True) ?hr ?hp (fun _ hk => hk) trivial (Below.refl _ _) (Nat.le_refl _) (by simp) ?_; (case hd => rfl); (case hg => rfl); (case hr => first | (go_simp; done) | (go_simp; rfl)); (case hp => exact (Reps.one (show Kd.M (Kd.int .i64) _ _ _ t1586 [.int .i64 t1586] from rfl) (Reps.one (show Kd.M (Kd.int .i64) _ _ _ t1588 [.int .i64 t1588] from rfl) (Reps.none _ _)))); intro v1590 w17 ho18 hb hg_ hnew_; clear hg_ hnew_; (first | rw [← Ny1589.out] at ho18 | (simp only [Int.reduceToNat] at ho18; rw [← Ny1589.out] at ho18)); have HO1591 := m0 (Kd.R_lower ho18 (below_size bz)); replace HB := sb HB hb; clear hb ho18; obtain ⟨Ao19, co19, eo19⟩ := Kd.R_slice HO1591.out; subst eo19) | (go_at_call 75; (with_reducible refine (L_first.calls k _ _ y1589 t1592 _ ?side1 ?side2 A6.out).mono ?_); (case side1 => exact bc (Kd.R_reads' HO1591.out).2.2); (case side2 => exact (Kd.R_reads' HO1591.out).2.1); rintro e w' ⟨rfl, ⟨nd, rfl⟩⟩; (try first | exact ⟨rfl, _, World.drewN_drewN _ _ _⟩ | exact ⟨rfl, _, Eq.trans (World.drewN_drewN _ _ _) (congrArg (World.drewN _) (Nat.add_assoc _ _ _))⟩)) | (go_at_call 124; (with_reducible refine (L_scores.calls k _ _ l0 t1593 _ ?side1 ?side2 A8.out).mono ?_); (case side1 => repeat (first | exact (Kd.C_below HR0.out bz) | (with_reducible refine Kd.C_alloc ?_ _) | (with_reducible refine Kd.C_drewN ?_ _) | (with_reducible refine Kd.C_drew ?_))); (case side2 => exact HC0.out); rintro e w20 ⟨v1594, rfl, ho0, hb⟩; replace HO1591 := rb HO1591 hb; have HO1595 := m0 (Kd.R_lower ho0 (below_size bz)); replace HB := sb HB hb; (try clear hb); (try clear ho0); obtain ⟨Ao21, co21, eo21⟩ := Kd.R_slice HO1595.out; subst eo21) | (go_at_call 127; (with_reducible refine (slices_Sort_int_int.calls (fun k_ => some k_ = (.slice Ao21 t1593.length co21 : Value).ownBlock) (.slice Ao21 t1593.length co21) t1593 t1596 w _ ?side1 ?side2 A9.out).mono ?_); (case side1 => repeat (first | (with_reducible first | exact HB.out | apply below_alloc | apply pw_below_drewN | apply below_drew1) | exact HB.out)); (case side2 => exact Kd.R_tight rfl HO1595.out); rintro e w22 ⟨rfl, hy0, hb, hkp⟩; replace HO1591 := m0 (Kd.R_mono (ok' := fun k_ => True) (Kd.R_keptB ((Kd.R_apart' HO1591.out (Kd.R_typed HO1595.out) (by decide))) hkp (fun k_ hk_ hs_ => (hk_.2) hs_)) (fun k_ hk_ => trivial)); replace HO1595 := m0 (Kd.R_reok rfl hy0 (fun k_ e_ => HO1595.out.1 k_ e_)); replace HB := m0 (hb); (try clear hb); (try clear hkp); (try clear hy0); have p1597 : 0 ≤ ((ji10) : Int) := od; have q1597 : (ji10) < (t1596.length : Int) := (by have h_ : ((ji10) : Int) < ((t1593.length : Int) : Int) := od; have e_ := (Kd.R_reads' HO1595.out).1; omega); have ql1597 : (((ji10) : Int) < ((t1593.length : Int) : Int)) = True := eq_true (od); obtain ⟨ad1597, e1597, hx1597_0⟩ := Kd.at_int (Kd.R_reads' HO1595.out).2.2 (ji10) p1597 q1597; cases e1597; replace p1597 := eq_true p1597; replace q1597 := eq_true q1597; have p1598 : 0 ≤ ((ji13) : Int) := od; have q1598 : (ji13) < (t1596.length : Int) := (by have h_ : ((ji13) : Int) < ((t1593.length : Int) : Int) := od; have e_ := (Kd.R_reads' HO1595.out).1; omega); have ql1598 : (((ji13) : Int) < ((t1593.length : Int) : Int)) = True := eq_true (od); obtain ⟨ad1598, e1598, hx1598_0⟩ := Kd.at_int (Kd.R_reads' HO1595.out).2.2 (ji13) p1598 q1598; obtain rfl : ad1597 = ad1598 := (by injection e1598); replace p1598 := eq_true p1598; replace q1598 := eq_true q1598)))
      go_ret2
      exact ⟨by first | rfl | (simp [errW_none, errW_some] <;> rfl) | (simp only [← hji10, ← hji13]; first | rfl | (simp [errW_none, errW_some] <;> rfl)) | (simp [*, errW_none, errW_some] <;> rfl), by repeat (first | (with_reducible first | exact HB.out | apply below_alloc | apply pw_below_drewN | apply below_drew1) | exact HB.out)⟩
     ·rw [if_neg c15] at H
      exact absurd H (by simp)
    ·rw [if_neg c14] at H
     exact absurd H (by simp)
   ·rw [if_neg c12] at H
    exact absurd H (by simp)
  ·rw [if_neg c11] at H
   exact absurd H (by simp)
 ·rw [if_neg c7] at H
  have c7b0 := beq_eq_false_iff_ne.mpr c7
  have c7b1 := bne_iff_ne.mpr c7
  simp only [Option.some.injEq, Prod.mk.injEq] at H
  obtain ⟨rfl, rfl⟩ := H
  go_enter Try.func66, Try.ntmps66
  go_wp2_with (first | (go_at_call 123; (with_reducible refine (L_sightsErr.calls k _ _ l0 t1586 _ ?side1 ?side2 A3.out).mono ?_); (case side1 => repeat (first | exact HR0.out | (with_reducible refine Kd.C_alloc ?_ _) | (with_reducible refine Kd.C_drewN ?_ _) | (with_reducible refine Kd.C_drew ?_))); (case side2 => exact HC0.out); rintro e w23 ⟨rfl, hb⟩; replace HB := sb HB hb; (try clear hb)) | (go_at_call 78; (with_reducible refine (L_within.calls a1 1 100000 t1587 _ A4.out).mono ?_); rintro e w' ⟨rfl, ⟨nd, rfl⟩⟩; (try first | exact ⟨rfl, _, World.drewN_drewN _ _ _⟩ | exact ⟨rfl, _, Eq.trans (World.drewN_drewN _ _ _) (congrArg (World.drewN _) (Nat.add_assoc _ _ _))⟩)) | (go_at_call 76; (with_reducible refine (L_unless.calls t1587 2 t1588 _ A5.out).mono ?_); rintro e w' ⟨rfl, ⟨nd, rfl⟩⟩; (try first | exact ⟨rfl, _, World.drewN_drewN _ _ _⟩ | exact ⟨rfl, _, Eq.trans (World.drewN_drewN _ _ _) (congrArg (World.drewN _) (Nat.add_assoc _ _ _))⟩)) | ((with_reducible refine gate_dst (N := 14) rfl ?_); refine Kd.R_lit (Kd.int .i64) _ 24 ?hg (N := 14) ?hd (xs := ([t1586, t1588] : List Int)) (inner := [.int .i64 t1586, .int .i64 t1588]) (ok := fun _ => True) (okp := fun _ => True) ?hr ?hp (fun _ hk => hk) trivial (Below.refl _ _) (Nat.le_refl _) (by simp) ?_; (case hd => rfl); (case hg => rfl); (case hr => first | (go_simp; done) | (go_simp; rfl)); (case hp => exact (Reps.one (show Kd.M (Kd.int .i64) _ _ _ t1586 [.int .i64 t1586] from rfl) (Reps.one (show Kd.M (Kd.int .i64) _ _ _ t1588 [.int .i64 t1588] from rfl) (Reps.none _ _)))); intro v1590 w24 ho25 hb hg_ hnew_; clear hg_ hnew_; (first | rw [← Ny1589.out] at ho25 | (simp only [Int.reduceToNat] at ho25; rw [← Ny1589.out] at ho25)); have HO1591 := m0 (Kd.R_lower ho25 (below_size bz)); replace HB := sb HB hb; clear hb ho25; obtain ⟨Ao26, co26, eo26⟩ := Kd.R_slice HO1591.out; subst eo26) | (go_at_call 75; (with_reducible refine (L_first.calls k _ _ y1589 t1592 _ ?side1 ?side2 A6.out).mono ?_); (case side1 => exact bc (Kd.R_reads' HO1591.out).2.2); (case side2 => exact (Kd.R_reads' HO1591.out).2.1); rintro e w' ⟨rfl, ⟨nd, rfl⟩⟩; (try first | exact ⟨rfl, _, World.drewN_drewN _ _ _⟩ | exact ⟨rfl, _, Eq.trans (World.drewN_drewN _ _ _) (congrArg (World.drewN _) (Nat.add_assoc _ _ _))⟩)))
  repeat (go_quiet (first | (go_at_call 123; (with_reducible refine (L_sightsErr.calls k _ _ l0 t1586 _ ?side1 ?side2 A3.out).mono ?_); (case side1 => repeat (first | exact HR0.out | (with_reducible refine Kd.C_alloc ?_ _) | (with_reducible refine Kd.C_drewN ?_ _) | (with_reducible refine Kd.C_drew ?_))); (case side2 => exact HC0.out); rintro e w23 ⟨rfl, hb⟩; replace HB := sb HB hb; (try clear hb)) | (go_at_call 78; (with_reducible refine (L_within.calls a1 1 100000 t1587 _ A4.out).mono ?_); rintro e w' ⟨rfl, ⟨nd, rfl⟩⟩; (try first | exact ⟨rfl, _, World.drewN_drewN _ _ _⟩ | exact ⟨rfl, _, Eq.trans (World.drewN_drewN _ _ _) (congrArg (World.drewN _) (Nat.add_assoc _ _ _))⟩)) | (go_at_call 76; (with_reducible refine (L_unless.calls t1587 2 t1588 _ A5.out).mono ?_); rintro e w' ⟨rfl, ⟨nd, rfl⟩⟩; (try first | exact ⟨rfl, _, World.drewN_drewN _ _ _⟩ | exact ⟨rfl, _, Eq.trans (World.drewN_drewN _ _ _) (congrArg (World.drewN _) (Nat.add_assoc _ _ _))⟩)) | ((with_reducible refine gate_dst (N := 14) rfl ?_); refine Kd.R_lit (Kd.int .i64) _ 24 ?hg (N := 14) ?hd (xs := ([t1586, t1588] : List Int)) (inner := [.int .i64 t1586, .int .i64 t1588]) (ok := fun _ => True) (okp := fun _ => True) ?hr ?hp (fun _ hk => hk) trivial (Below.refl _ _) (Nat.le_refl _) (by simp) ?_; (case hd => rfl); (case hg => rfl); (case hr => first | (go_simp; done) | (go_simp; rfl)); (case hp => exact (Reps.one (show Kd.M (Kd.int .i64) _ _ _ t1586 [.int .i64 t1586] from rfl) (Reps.one (show Kd.M (Kd.int .i64) _ _ _ t1588 [.int .i64 t1588] from rfl) (Reps.none _ _)))); intro v1590 w24 ho25 hb hg_ hnew_; clear hg_ hnew_; (first | rw [← Ny1589.out] at ho25 | (simp only [Int.reduceToNat] at ho25; rw [← Ny1589.out] at ho25)); have HO1591 := m0 (Kd.R_lower ho25 (below_size bz)); replace HB := sb HB hb; clear hb ho25; obtain ⟨Ao26, co26, eo26⟩ := Kd.R_slice HO1591.out; subst eo26) | (go_at_call 75; (with_reducible refine (L_first.calls k _ _ y1589 t1592 _ ?side1 ?side2 A6.out).mono ?_); (case side1 => exact bc (Kd.R_reads' HO1591.out).2.2); (case side2 => exact (Kd.R_reads' HO1591.out).2.1); rintro e w' ⟨rfl, ⟨nd, rfl⟩⟩; (try first | exact ⟨rfl, _, World.drewN_drewN _ _ _⟩ | exact ⟨rfl, _, Eq.trans (World.drewN_drewN _ _ _) (congrArg (World.drewN _) (Nat.add_assoc _ _ _))⟩))); try go_wp2_with (first | (go_at_call 123; (with_reducible refine (L_sightsErr.calls k _ _ l0 t1586 _ ?side1 ?side2 A3.out).mono ?_); (case side1 => repeat (first | exact HR0.out | (with_reducible refine Kd.C_alloc ?_ _) | (with_reducible refine Kd.C_drewN ?_ _) | (with_reducible refine Kd.C_drew ?_))); (case side2 => exact HC0.out); rintro e w23 ⟨rfl, hb⟩; replace HB := sb HB hb; (try clear hb)) | (go_at_call 78; (with_reducible refine (L_within.calls a1 1 100000 t1587 _ A4.out).mono ?_); rintro e w' ⟨rfl, ⟨nd, rfl⟩⟩; (try first | exact ⟨rfl, _, World.drewN_drewN _ _ _⟩ | exact ⟨rfl, _, Eq.trans (World.drewN_drewN _ _ _) (congrArg (World.drewN _) (Nat.add_assoc _ _ _))⟩)) | (go_at_call 76; (with_reducible refine (L_unless.calls t1587 2 t1588 _ A5.out).mono ?_); rintro e w' ⟨rfl, ⟨nd, rfl⟩⟩; (try first | exact ⟨rfl, _, World.drewN_drewN _ _ _⟩ | exact ⟨rfl, _, Eq.trans (World.drewN_drewN _ _ _) (congrArg (World.drewN _) (Nat.add_assoc _ _ _))⟩)) | ((with_reducible refine gate_dst (N := 14) rfl ?_); refine Kd.R_lit (Kd.int .i64) _ 24 ?hg (N := 14) ?hd (xs := ([t1586, t1588] : List Int)) (inner := [.int .i64 t1586, .int .i64 t1588]) (ok := fun _ => True) (okp := fun _ => True) ?hr ?hp (fun _ hk => hk) trivial (Below.refl _ _) (Nat.le_refl _) (by simp) ?_; (case hd => rfl); (case hg => rfl); (case hr => first | (go_simp; done) | (go_simp; rfl)); (case hp => exact (Reps.one (show Kd.M (Kd.int .i64) _ _ _ t1586 [.int .i64 t1586] from rfl) (Reps.one (show Kd.M (Kd.int .i64) _ _ _ t1588 [.int .i64 t1588] from rfl) (Reps.none _ _)))); intro v1590 w24 ho25 hb hg_ hnew_; clear hg_ hnew_; (first | rw [← Ny1589.out] at ho25 | (simp only [Int.reduceToNat] at ho25; rw [← Ny1589.out] at ho25)); have HO1591 := m0 (Kd.R_lower ho25 (below_size bz)); replace HB := sb HB hb; clear hb ho25; obtain ⟨Ao26, co26, eo26⟩ := Kd.R_slice HO1591.out; subst eo26) | (go_at_call 75; (with_reducible refine (L_first.calls k _ _ y1589 t1592 _ ?side1 ?side2 A6.out).mono ?_); (case side1 => exact bc (Kd.R_reads' HO1591.out).2.2); (case side2 => exact (Kd.R_reads' HO1591.out).2.1); rintro e w' ⟨rfl, ⟨nd, rfl⟩⟩; (try first | exact ⟨rfl, _, World.drewN_drewN _ _ _⟩ | exact ⟨rfl, _, Eq.trans (World.drewN_drewN _ _ _) (congrArg (World.drewN _) (Nat.add_assoc _ _ _))⟩))))
  go_ret2
  exact ez
end
section
attribute [local go_sem high] eqA44
mutual
def Rf_SightsErr.l0 : Nat → List (S126) → Int → Option (Int)
  | 0, _, _ => none
  | k + 1, x0, x3 => if x3 < (x0.length : Int) then (if 0 ≤ x3 then ((Rf_isDirection.f k ((rd_T126 x0 x3).f0.f0) ((rd_T126 x0 x3).f0.f1) ((rd_T126 x0 x3).f0.f2)).bind fun t1600 => (if t1600 = true then ((Rf_isDirection.f k ((rd_T126 x0 x3).f1.f0) ((rd_T126 x0 x3).f1.f1) ((rd_T126 x0 x3).f1.f2)).bind fun t1602 => (Rf_SightsErr.j1 k x0 x3 (!t1602))) else (Rf_SightsErr.j1 k x0 x3 true))) else (none)) else (some 0)
def Rf_SightsErr.j1 : Nat → List (S126) → Int → Bool → Option (Int)
  | 0, _, _, _ => none
  | k + 1, x0, x3, x31 => if x31 = true then (some 2) else (if 0 ≤ x3 then (if x3 < (x0.length : Int) then (if (((rd_T126 x0 x3).f0.f0) == 0 && (((rd_T126 x0 x3).f0.f1) == 0 && (((rd_T126 x0 x3).f0.f2) == 0))) = true then (some 11) else (if (((rd_T126 x0 x3).f1.f0) == 0 && (((rd_T126 x0 x3).f1.f1) == 0 && (((rd_T126 x0 x3).f1.f2) == 0))) = true then (some 11) else (Rf_SightsErr.l0 k x0 (wrap64 (x3 + 1))))) else (none)) else (none))
end
def Rf_SightsErr.f (k : Nat) (l0 : List (S126)) : Option (Int) := if (l0.length : Int) = 0 then (some 10) else (if (l0.length : Int) > 8 then (some 8) else (Rf_SightsErr.l0 k l0 0))
theorem Rf_SightsErr.mono_l : ∀ k, (∀ y0 y1, LeO (Rf_SightsErr.l0 k y0 y1) (Rf_SightsErr.l0 (k + 1) y0 y1)) ∧ (∀ y0 y1 y2, LeO (Rf_SightsErr.j1 k y0 y1 y2) (Rf_SightsErr.j1 (k + 1) y0 y1 y2))
  | 0 => ⟨fun _ _ r h => by simp [Rf_SightsErr.l0] at h, fun _ _ _ r h => by simp [Rf_SightsErr.j1] at h⟩
  | k + 1 => by
    obtain ⟨ih0, ih1⟩ := Rf_SightsErr.mono_l k
    refine ⟨?_, ?_⟩
    · intro y0 y1
      unfold Rf_SightsErr.l0
      repeat' with_reducible first
        | exact ih0 ..
        | exact ih1 ..
        | exact Rf_isDirection.mono ..
        | exact LeO.refl ..
        | exact LeO.none ..
        | refine LeO.ite ?_ ?_
        | refine LeO.bind ?_ (fun _ => ?_)
    · intro y0 y1 y2
      unfold Rf_SightsErr.j1
      repeat' with_reducible first
        | exact ih0 ..
        | exact ih1 ..
        | exact Rf_isDirection.mono ..
        | exact LeO.refl ..
        | exact LeO.none ..
        | refine LeO.ite ?_ ?_
        | refine LeO.bind ?_ (fun _ => ?_)
theorem Rf_SightsErr.mono : ∀ a0 k, LeO (Rf_SightsErr.f k a0) (Rf_SightsErr.f (k + 1) a0) := by
  intro a0 k
  obtain ⟨ih0, ih1⟩ := Rf_SightsErr.mono_l k
  unfold Rf_SightsErr.f
  repeat' with_reducible first
    | exact ih0 ..
    | exact ih1 ..
    | exact Rf_isDirection.mono ..
    | exact LeO.refl ..
    | exact LeO.none ..
    | refine LeO.ite ?_ ?_
    | refine LeO.bind ?_ (fun _ => ?_)
theorem Rf_SightsErr.calls (k : Nat) (A0 : Option Addr) (c0 : Nat) (l0 : List (S126)) (r : Int) (w : World) (hr0 : Kd.C k126 w A0 l0.length l0) (hc0 : l0.length ≤ c0) (h : Rf_SightsErr.f k l0 = some r) :
    Calls Try.prog 67 #[.slice A0 l0.length c0] w fun e w' => e = .returned (.int .i64 r) ∧ Below w.heap.size w w' := by
  have hu44 := Try.underlying44
  have HR0 := m0 hr0
  have HC0 := m0 hc0
  clear hr0 hc0
  have HB := m0 (Below.refl w.heap.size w)
  have H : (if (l0.length : Int) = 0 then (some 10) else (if (l0.length : Int) > 8 then (some 8) else (Rf_SightsErr.l0 k l0 0))) = some r := h
  clear h
  by_cases c2 : (l0.length : Int) = 0
  · rw [if_pos c2] at H
    have c2b0 := beq_iff_eq.mpr c2
    have c2b1 := bne_eq_false_iff_eq.mpr c2
    clear c2
    obtain rfl := Option.some.inj H
    go_enter Try.func67, Try.ntmps67
    go_wp2
    go_ret
    exact ez
  · rw [if_neg c2] at H
    have c2b0 := beq_eq_false_iff_ne.mpr c2
    have c2b1 := bne_iff_ne.mpr c2
    have c2b2 : ¬ (l0 = []) := fun h_ => c2 (by rw [h_]; rfl)
    by_cases c3 : (l0.length : Int) > 8
    · rw [if_pos c3] at H
      have c3b0 := decide_eq_true c3
      have c3b1 : decide (8 < l0.length) = true := decide_eq_true (by omega)
      clear c3
      obtain rfl := Option.some.inj H
      go_enter Try.func67, Try.ntmps67
      go_wp2
      go_ret
      exact ez
    · rw [if_neg c3] at H
      have c3b0 := decide_eq_false c3
      have c3b1 : decide (8 < l0.length) = false := decide_eq_false (by omega)
      clear c3
      have H' := m0 H
      clear H
      go_enter Try.func67, Try.ntmps67
      go_wp2
      go_loopg [3] k (fun kq v3 w' => ∃ (x3_1 : Int), v3 = .int .i64 x3_1 ∧ Aside0 (Rf_SightsErr.l0 kq l0 x3_1 = some r) ∧ Aside0 (kq ≤ k) ∧ Aside0 (Below w.heap.size w w'))
      case atStart => exact ⟨(0), (by first | rfl | (simp; done) | (simp [*]; done)), H', ⟨Nat.le_refl _⟩, ⟨bz⟩⟩
      case round =>
        clear H'
        obtain ⟨x3_1, rfl, HA, HK1, HB⟩ := hrel
        cases gk with
        | zero => exact absurd HA.out (by simp [Rf_SightsErr.l0])
        | succ k1 =>
          have H := HA.out
          clear HA
          simp only [Rf_SightsErr.l0] at H
          by_cases c4 : x3_1 < (l0.length : Int)
          · rw [if_pos c4] at H
            have c4b0 := decide_eq_true c4
            clear c4
            have HC5 := m0 H
            clear H
            go_upto_region 8 with (fail)
            go_cut [31] (fun v31 wc => ∃ (kq : Nat) (x31_4 : Bool), v31 = .bool x31_4 ∧ Aside0 (Rf_SightsErr.j1 kq l0 x3_1 x31_4 = some r) ∧ Aside0 (kq ≤ k1) ∧ Aside0 (Below w.heap.size w wc))
            case first =>
              have H := HC5.out
              clear HC5
              by_cases c6 : 0 ≤ x3_1
              · rw [if_pos c6] at H
                have c6b0 := decide_eq_true c6
                clear c6
                (first | rw [c6b0] | (simp only [i64_w, i32_w]; rw [c6b0]) | skip)
                replace H := ob H
                obtain ⟨t1600, A7, H⟩ := H
                (try dsimp only at H)
                replace A7 := m0 A7
                by_cases c8 : t1600 = true
                · subst c8
                  rw [if_pos rfl] at H
                  replace H := ob H
                  obtain ⟨t1602, A9, H⟩ := H
                  (try dsimp only at H)
                  replace A9 := m0 A9
                  have H' := m0 H
                  clear H
                  have p1599 : 0 ≤ (x3_1 : Int) := od
                  have q1599 : x3_1 < (l0.length : Int) := od
                  obtain ⟨ad1599, e1599, hx1599_0, hx1599_1, hx1599_2, hx1599_3, hx1599_4, hx1599_5⟩ := at_T126 HR0.out x3_1 p1599 q1599
                  cases e1599
                  replace hx1599_0 := (HB.out.cell (World.block_lt_of_cell? w _ hx1599_0)).trans hx1599_0
                  replace hx1599_1 := (HB.out.cell (World.block_lt_of_cell? w _ hx1599_1)).trans hx1599_1
                  replace hx1599_2 := (HB.out.cell (World.block_lt_of_cell? w _ hx1599_2)).trans hx1599_2
                  replace hx1599_3 := (HB.out.cell (World.block_lt_of_cell? w _ hx1599_3)).trans hx1599_3
                  replace hx1599_4 := (HB.out.cell (World.block_lt_of_cell? w _ hx1599_4)).trans hx1599_4
                  replace hx1599_5 := (HB.out.cell (World.block_lt_of_cell? w _ hx1599_5)).trans hx1599_5
                  replace p1599 := eq_true p1599
                  replace q1599 := eq_true q1599
                  go_wp2_with (first | ((with_reducible refine gate_callee (f := 89) rfl ?_); refine gl (some 21) Try.func89 #[.agg #[.int .i64 ((rd_T126 l0 x3_1).f0.f0), .int .i64 ((rd_T126 l0 x3_1).f0.f1), .int .i64 ((rd_T126 l0 x3_1).f0.f2)]] ?_; (with_reducible refine (Rf_isDirection.calls k1 ((rd_T126 l0 x3_1).f0.f0) ((rd_T126 l0 x3_1).f0.f1) ((rd_T126 l0 x3_1).f0.f2) true _ A7.out).mono ?_); rintro e w10 ⟨rfl, hb⟩; refine ⟨_, rfl, ?_⟩; replace HB := sb HB hb; (try clear hb); have p1601 : 0 ≤ (x3_1 : Int) := od; have q1601 : x3_1 < (l0.length : Int) := od; obtain ⟨ad1601, e1601, hx1601_0, hx1601_1, hx1601_2, hx1601_3, hx1601_4, hx1601_5⟩ := at_T126 HR0.out x3_1 p1601 q1601; obtain rfl : ad1599 = ad1601 := (by injection e1601); replace hx1601_0 := (HB.out.cell (World.block_lt_of_cell? w _ hx1601_0)).trans hx1601_0; replace hx1601_1 := (HB.out.cell (World.block_lt_of_cell? w _ hx1601_1)).trans hx1601_1; replace hx1601_2 := (HB.out.cell (World.block_lt_of_cell? w _ hx1601_2)).trans hx1601_2; replace hx1601_3 := (HB.out.cell (World.block_lt_of_cell? w _ hx1601_3)).trans hx1601_3; replace hx1601_4 := (HB.out.cell (World.block_lt_of_cell? w _ hx1601_4)).trans hx1601_4; replace hx1601_5 := (HB.out.cell (World.block_lt_of_cell? w _ hx1601_5)).trans hx1601_5; replace p1601 := eq_true p1601; replace q1601 := eq_true q1601) | (go_at_call 89; (with_reducible refine (Rf_isDirection.calls k1 ((rd_T126 l0 x3_1).f1.f0) ((rd_T126 l0 x3_1).f1.f1) ((rd_T126 l0 x3_1).f1.f2) t1602 _ A9.out).mono ?_); rintro e w11 ⟨rfl, hb⟩; replace HB := sb HB hb; (try clear hb)))
                  go_meet
                  case rel => exact ⟨_, (!t1602), (by first | rfl | (simp; done) | (simp [*]; done)), H', ⟨by have := HK1.out; first | omega | exact Nat.le_refl _⟩, ⟨bz⟩⟩
                · replace c8 := Bool.eq_false_iff.mpr c8
                  subst c8
                  rw [if_neg (show ¬ (false = true) by decide)] at H
                  have H' := m0 H
                  clear H
                  have p1599 : 0 ≤ (x3_1 : Int) := od
                  have q1599 : x3_1 < (l0.length : Int) := od
                  obtain ⟨ad1599, e1599, hx1599_0, hx1599_1, hx1599_2, hx1599_3, hx1599_4, hx1599_5⟩ := at_T126 HR0.out x3_1 p1599 q1599
                  cases e1599
                  replace hx1599_0 := (HB.out.cell (World.block_lt_of_cell? w _ hx1599_0)).trans hx1599_0
                  replace hx1599_1 := (HB.out.cell (World.block_lt_of_cell? w _ hx1599_1)).trans hx1599_1
                  replace hx1599_2 := (HB.out.cell (World.block_lt_of_cell? w _ hx1599_2)).trans hx1599_2
                  replace hx1599_3 := (HB.out.cell (World.block_lt_of_cell? w _ hx1599_3)).trans hx1599_3
                  replace hx1599_4 := (HB.out.cell (World.block_lt_of_cell? w _ hx1599_4)).trans hx1599_4
                  replace hx1599_5 := (HB.out.cell (World.block_lt_of_cell? w _ hx1599_5)).trans hx1599_5
                  replace p1599 := eq_true p1599
                  replace q1599 := eq_true q1599
                  go_wp2_with (first | ((with_reducible refine gate_callee (f := 89) rfl ?_); refine gl (some 21) Try.func89 #[.agg #[.int .i64 ((rd_T126 l0 x3_1).f0.f0), .int .i64 ((rd_T126 l0 x3_1).f0.f1), .int .i64 ((rd_T126 l0 x3_1).f0.f2)]] ?_; (with_reducible refine (Rf_isDirection.calls k1 ((rd_T126 l0 x3_1).f0.f0) ((rd_T126 l0 x3_1).f0.f1) ((rd_T126 l0 x3_1).f0.f2) false _ A7.out).mono ?_); rintro e w12 ⟨rfl, hb⟩; refine ⟨_, rfl, ?_⟩; replace HB := sb HB hb; (try clear hb)))
                  go_meet
                  case rel => exact ⟨_, (true), (by first | rfl | (simp; done) | (simp [*]; done)), H', ⟨by have := HK1.out; first | omega | exact Nat.le_refl _⟩, ⟨bz⟩⟩
              · rw [if_neg c6] at H
                exact absurd H (by simp)
            case rest =>
              clear HC5
              try clear hx1
              try clear hx1599_0
              try clear hx1599_1
              try clear hx1599_2
              try clear hx1599_3
              try clear hx1599_4
              try clear hx1599_5
              try clear hx1601_0
              try clear hx1601_1
              try clear hx1601_2
              try clear hx1601_3
              try clear hx1601_4
              try clear hx1601_5
              obtain ⟨kq, x31_4, rfl, HA, HJ4, HB⟩ := hcut
              cases kq with
              | zero => exact absurd HA.out (by simp [Rf_SightsErr.j1])
              | succ kj4 =>
                have H := HA.out
                clear HA
                simp only [Rf_SightsErr.j1] at H
                by_cases c13 : x31_4 = true
                · subst c13
                  rw [if_pos rfl] at H
                  obtain rfl := Option.some.inj H
                  go_wp2
                  go_ret
                  exact ez
                · replace c13 := Bool.eq_false_iff.mpr c13
                  subst c13
                  rw [if_neg (show ¬ (false = true) by decide)] at H
                  by_cases c14 : 0 ≤ x3_1
                  · rw [if_pos c14] at H
                    have c14b0 := decide_eq_true c14
                    clear c14
                    by_cases c15 : x3_1 < (l0.length : Int)
                    · rw [if_pos c15] at H
                      have c15b0 := decide_eq_true c15
                      clear c15
                      by_cases c16 : (((rd_T126 l0 x3_1).f0.f0) == 0 && (((rd_T126 l0 x3_1).f0.f1) == 0 && (((rd_T126 l0 x3_1).f0.f2) == 0))) = true
                      · rw [if_pos c16] at H
                        have c16b0 : (((rd_T126 l0 x3_1).f0.f0) == 0 && (((rd_T126 l0 x3_1).f0.f1) == 0 && (((rd_T126 l0 x3_1).f0.f2) == 0))) = true := c16
                        (try (have c16b1 : decide (((rd_T126 l0 x3_1).f0.f0) = 0 && (((rd_T126 l0 x3_1).f0.f1) == 0 && (((rd_T126 l0 x3_1).f0.f2) == 0))) = true := by simpa using c16))
                        (try (have c16b2 : (((rd_T126 l0 x3_1).f0.f0) == 0 && (((rd_T126 l0 x3_1).f0.f1) == 0 && (((rd_T126 l0 x3_1).f0.f2) == 0))) = true := by simpa using c16))
                        clear c16
                        obtain rfl := Option.some.inj H
                        have p1603 : 0 ≤ (x3_1 : Int) := od
                        have q1603 : x3_1 < (l0.length : Int) := od
                        obtain ⟨ad1603, e1603, hx1603_0, hx1603_1, hx1603_2, hx1603_3, hx1603_4, hx1603_5⟩ := at_T126 HR0.out x3_1 p1603 q1603
                        cases e1603
                        replace hx1603_0 := (HB.out.cell (World.block_lt_of_cell? w _ hx1603_0)).trans hx1603_0
                        replace hx1603_1 := (HB.out.cell (World.block_lt_of_cell? w _ hx1603_1)).trans hx1603_1
                        replace hx1603_2 := (HB.out.cell (World.block_lt_of_cell? w _ hx1603_2)).trans hx1603_2
                        replace hx1603_3 := (HB.out.cell (World.block_lt_of_cell? w _ hx1603_3)).trans hx1603_3
                        replace hx1603_4 := (HB.out.cell (World.block_lt_of_cell? w _ hx1603_4)).trans hx1603_4
                        replace hx1603_5 := (HB.out.cell (World.block_lt_of_cell? w _ hx1603_5)).trans hx1603_5
                        replace p1603 := eq_true p1603
                        replace q1603 := eq_true q1603
                        go_wp2
                        go_ret
                        exact ez
                      · rw [if_neg c16] at H
                        have c16b0 : (((rd_T126 l0 x3_1).f0.f0) == 0 && (((rd_T126 l0 x3_1).f0.f1) == 0 && (((rd_T126 l0 x3_1).f0.f2) == 0))) = false := by simpa using c16
                        (try (have c16b1 : decide (((rd_T126 l0 x3_1).f0.f0) = 0 && (((rd_T126 l0 x3_1).f0.f1) == 0 && (((rd_T126 l0 x3_1).f0.f2) == 0))) = false := by simpa using c16))
                        (try (have c16b2 : (((rd_T126 l0 x3_1).f0.f0) == 0 && (((rd_T126 l0 x3_1).f0.f1) == 0 && (((rd_T126 l0 x3_1).f0.f2) == 0))) = false := by simpa using c16))
                        (try (have c16b3 : ¬ (((rd_T126 l0 x3_1).f0.f0) = 0 && (((rd_T126 l0 x3_1).f0.f1) == 0 && (((rd_T126 l0 x3_1).f0.f2) == 0))) := by simpa using c16))
                        clear c16
                        by_cases c17 : (((rd_T126 l0 x3_1).f1.f0) == 0 && (((rd_T126 l0 x3_1).f1.f1) == 0 && (((rd_T126 l0 x3_1).f1.f2) == 0))) = true
                        · rw [if_pos c17] at H
                          have c17b0 : (((rd_T126 l0 x3_1).f1.f0) == 0 && (((rd_T126 l0 x3_1).f1.f1) == 0 && (((rd_T126 l0 x3_1).f1.f2) == 0))) = true := c17
                          (try (have c17b1 : decide (((rd_T126 l0 x3_1).f1.f0) = 0 && (((rd_T126 l0 x3_1).f1.f1) == 0 && (((rd_T126 l0 x3_1).f1.f2) == 0))) = true := by simpa using c17))
                          (try (have c17b2 : (((rd_T126 l0 x3_1).f1.f0) == 0 && (((rd_T126 l0 x3_1).f1.f1) == 0 && (((rd_T126 l0 x3_1).f1.f2) == 0))) = true := by simpa using c17))
                          clear c17
                          obtain rfl := Option.some.inj H
                          have p1603 : 0 ≤ (x3_1 : Int) := od
                          have q1603 : x3_1 < (l0.length : Int) := od
                          obtain ⟨ad1603, e1603, hx1603_0, hx1603_1, hx1603_2, hx1603_3, hx1603_4, hx1603_5⟩ := at_T126 HR0.out x3_1 p1603 q1603
                          cases e1603
                          replace hx1603_0 := (HB.out.cell (World.block_lt_of_cell? w _ hx1603_0)).trans hx1603_0
                          replace hx1603_1 := (HB.out.cell (World.block_lt_of_cell? w _ hx1603_1)).trans hx1603_1
                          replace hx1603_2 := (HB.out.cell (World.block_lt_of_cell? w _ hx1603_2)).trans hx1603_2
                          replace hx1603_3 := (HB.out.cell (World.block_lt_of_cell? w _ hx1603_3)).trans hx1603_3
                          replace hx1603_4 := (HB.out.cell (World.block_lt_of_cell? w _ hx1603_4)).trans hx1603_4
                          replace hx1603_5 := (HB.out.cell (World.block_lt_of_cell? w _ hx1603_5)).trans hx1603_5
                          replace p1603 := eq_true p1603
                          replace q1603 := eq_true q1603
                          have p1604 : 0 ≤ (x3_1 : Int) := od
                          have q1604 : x3_1 < (l0.length : Int) := od
                          obtain ⟨ad1604, e1604, hx1604_0, hx1604_1, hx1604_2, hx1604_3, hx1604_4, hx1604_5⟩ := at_T126 HR0.out x3_1 p1604 q1604
                          obtain rfl : ad1603 = ad1604 := (by injection e1604)
                          replace hx1604_0 := (HB.out.cell (World.block_lt_of_cell? w _ hx1604_0)).trans hx1604_0
                          replace hx1604_1 := (HB.out.cell (World.block_lt_of_cell? w _ hx1604_1)).trans hx1604_1
                          replace hx1604_2 := (HB.out.cell (World.block_lt_of_cell? w _ hx1604_2)).trans hx1604_2
                          replace hx1604_3 := (HB.out.cell (World.block_lt_of_cell? w _ hx1604_3)).trans hx1604_3
                          replace hx1604_4 := (HB.out.cell (World.block_lt_of_cell? w _ hx1604_4)).trans hx1604_4
                          replace hx1604_5 := (HB.out.cell (World.block_lt_of_cell? w _ hx1604_5)).trans hx1604_5
                          replace p1604 := eq_true p1604
                          replace q1604 := eq_true q1604
                          go_wp2
                          go_ret
                          exact ez
                        · rw [if_neg c17] at H
                          have c17b0 : (((rd_T126 l0 x3_1).f1.f0) == 0 && (((rd_T126 l0 x3_1).f1.f1) == 0 && (((rd_T126 l0 x3_1).f1.f2) == 0))) = false := by simpa using c17
                          (try (have c17b1 : decide (((rd_T126 l0 x3_1).f1.f0) = 0 && (((rd_T126 l0 x3_1).f1.f1) == 0 && (((rd_T126 l0 x3_1).f1.f2) == 0))) = false := by simpa using c17))
                          (try (have c17b2 : (((rd_T126 l0 x3_1).f1.f0) == 0 && (((rd_T126 l0 x3_1).f1.f1) == 0 && (((rd_T126 l0 x3_1).f1.f2) == 0))) = false := by simpa using c17))
                          (try (have c17b3 : ¬ (((rd_T126 l0 x3_1).f1.f0) = 0 && (((rd_T126 l0 x3_1).f1.f1) == 0 && (((rd_T126 l0 x3_1).f1.f2) == 0))) := by simpa using c17))
                          clear c17
                          have H' := m0 H
                          clear H
                          have p1603 : 0 ≤ (x3_1 : Int) := od
                          have q1603 : x3_1 < (l0.length : Int) := od
                          obtain ⟨ad1603, e1603, hx1603_0, hx1603_1, hx1603_2, hx1603_3, hx1603_4, hx1603_5⟩ := at_T126 HR0.out x3_1 p1603 q1603
                          cases e1603
                          replace hx1603_0 := (HB.out.cell (World.block_lt_of_cell? w _ hx1603_0)).trans hx1603_0
                          replace hx1603_1 := (HB.out.cell (World.block_lt_of_cell? w _ hx1603_1)).trans hx1603_1
                          replace hx1603_2 := (HB.out.cell (World.block_lt_of_cell? w _ hx1603_2)).trans hx1603_2
                          replace hx1603_3 := (HB.out.cell (World.block_lt_of_cell? w _ hx1603_3)).trans hx1603_3
                          replace hx1603_4 := (HB.out.cell (World.block_lt_of_cell? w _ hx1603_4)).trans hx1603_4
                          replace hx1603_5 := (HB.out.cell (World.block_lt_of_cell? w _ hx1603_5)).trans hx1603_5
                          replace p1603 := eq_true p1603
                          replace q1603 := eq_true q1603
                          have p1604 : 0 ≤ (x3_1 : Int) := od
                          have q1604 : x3_1 < (l0.length : Int) := od
                          obtain ⟨ad1604, e1604, hx1604_0, hx1604_1, hx1604_2, hx1604_3, hx1604_4, hx1604_5⟩ := at_T126 HR0.out x3_1 p1604 q1604
                          obtain rfl : ad1603 = ad1604 := (by injection e1604)
                          replace hx1604_0 := (HB.out.cell (World.block_lt_of_cell? w _ hx1604_0)).trans hx1604_0
                          replace hx1604_1 := (HB.out.cell (World.block_lt_of_cell? w _ hx1604_1)).trans hx1604_1
                          replace hx1604_2 := (HB.out.cell (World.block_lt_of_cell? w _ hx1604_2)).trans hx1604_2
                          replace hx1604_3 := (HB.out.cell (World.block_lt_of_cell? w _ hx1604_3)).trans hx1604_3
                          replace hx1604_4 := (HB.out.cell (World.block_lt_of_cell? w _ hx1604_4)).trans hx1604_4
                          replace hx1604_5 := (HB.out.cell (World.block_lt_of_cell? w _ hx1604_5)).trans hx1604_5
                          replace p1604 := eq_true p1604
                          replace q1604 := eq_true q1604
                          go_wp2
                          go_roundg kj4
                          case measure => have := HK1.out; have := HJ4.out; omega
                          case rel => exact ⟨(wrap64 (x3_1 + 1)), (by first | rfl | (simp; done) | (simp [*]; done)), H', ⟨by have := HK1.out; have := HJ4.out; omega⟩, ⟨bz⟩⟩
                    · rw [if_neg c15] at H
                      exact absurd H (by simp)
                  · rw [if_neg c14] at H
                    exact absurd H (by simp)
          · rw [if_neg c4] at H
            have c4b0 := decide_eq_false c4
            clear c4
            obtain rfl := Option.some.inj H
            go_wp2
            go_ret
            exact ez
end
end Go.Proofs.Ytibhfahbabgbaaa.A
