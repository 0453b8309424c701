/- Walks of the program's functions (printed, made shorter), each with what it computes. -/
import Derived.Sort.OwnSortedInts
import Derived.Test.YteiafijbgjgiaaaB08
import Derived.Shelf.Slices.CompactI
import Derived.Test.YteiafijbgjgiaaaB07
namespace Go.Proofs.Yteiafijbgjgiaaa.A
set_option maxHeartbeats 8000000
set_option maxRecDepth 100000
open Go.RowKit Go.Proofs.YteiafijbgjgiaaaW.PrintWords Go.Proofs.YteiafijbgjgiaaaW.PrintLast Go.Proofs.YteiafijbgjgiaaaW.PrintMore
attribute [local go_sem] max2_int min2_int max_two min_two max_three min_three max_four min_four
set_option linter.unusedVariables false
set_option linter.unusedSimpArgs false
section
def slices_Sort_int_int.f (l0 : List Int) : Option (List Int) := if l0.length < 4611686018427387904 then some (isort l0) else none
theorem slices_Sort_int_int.calls (P0_ : Nat → Prop) (u9000_ : Value) (l0 : List Int) (r : List Int) (w0 w : World) (hB : Below w0.heap.size w0 w) (ho0 : Kd.R (Kd.int .i64) 3 w w0.heap.size P0_ u9000_ l0) (h : slices_Sort_int_int.f l0 = some r) :
  Calls Try.prog 106 #[u9000_] w fun e w' => e = .returned (.tuple #[]) ∧ Kd.R (Kd.int .i64) 3 w' w0.heap.size (fun k_ => (P0_ k_ ∨ w.heap.size ≤ k_)) u9000_ r ∧ Below w0.heap.size w0 w' ∧ Kept w w' (fun k_ => P0_ k_) := by
 unfold slices_Sort_int_int.f at h
 by_cases hsz : l0.length < 4611686018427387904
 case neg => simp [hsz] at h
 rw [if_pos hsz, isort_eq] at h; obtain rfl : (l0.mergeSort fun x y => decide (x ≤ y)) = r := Option.some.inj h; have hok := ho0.1; have ho := Kd.own_of_R ho0; have hl : (l0.mergeSort fun x y => decide (x ≤ y)).length = l0.length := List.length_mergeSort _; obtain ⟨hi, ⟨rfl, h0⟩ | ⟨g, cap, cur, rfl, hbase, hb, h1, h2, h3, h4⟩⟩ := ho
 ·obtain rfl : l0 = [] := List.length_eq_zero_iff.1 h0; refine (Any.slices_Sort_int_none Try.lays189 none 0 w).mono ?_; rintro e w' ⟨rfl, rfl⟩; exact ⟨rfl, by rw [List.mergeSort_nil]; exact Kd.R_nil _ _ _ _ _, hB, Kept.refl _ _⟩
 ·have hg : g < w.heap.size := (Array.getElem?_eq_some_iff.1 hb).1; have h4' : cur.toList.take l0.length = l0.map (Value.int .i64) := by simpa [encs] using h4
  refine (Any.slices_Sort_int Try.lays189 g 0 cap l0 w (holds_of_blockI hb h4') hg hsz).mono ?_; rintro e w' ⟨rfl, n, os, rfl⟩; have hgb := grownBy_sortedI (w := w) (g := g) (n := n) (os := os) (l0.mergeSort fun x y => decide (x ≤ y)).toArray; refine ⟨rfl, ?_, ?_, Kept.of_grown hgb (Kept.refl _ _) (fun k hk => .inl (hok k (by rw [← hk]; rfl)))⟩
  ·have hown := ownsRow_sortedI (n := n) (os := os) (ts := l0.mergeSort fun x y => decide (x ≤ y)) hl hbase hb h1 h2 h3; refine Kd.R_of_own (enc := Value.int .i64) ?_ (fun k hk => .inl (hok k hk)); rw [hl]
   simpa [encs] using hown
  ·exact ⟨hB.os, hB.tape, hB.output, Nat.le_trans hB.size hgb.size, fun k hk => (hgb.block k (Nat.lt_of_lt_of_le hk hB.size) (fun e => by cases e; omega)).trans (hB.block k hk)⟩
end
section
def slices_Compact_int_int.ren : Go.Shelf.Ren := ⟨fun | 20 => 107 | n => n, fun | 0 => 0 | 3 => 3 | 4 => 4 | 22 => 41 | n => n, fun | n => n⟩
theorem slices_Compact_int_int.lays : Lays2.n20 Try.prog slices_Compact_int_int.ren where
 mixed := by kernel_rfl
 f20 := Try.func107.trans (congrArg some (by kernel_rfl))
 t0 := Try.underlying0
 a0 := Try.isAgg0
 z0 := Try.sizeOf0
 v0 := Try.zeroValue0
 t3 := Try.underlying3
 a3 := Try.isAgg3
 z3 := Try.sizeOf3
 v3 := Try.zeroValue3
 t4 := Try.underlying4
 a4 := Try.isAgg4
 z4 := Try.sizeOf4
 v4 := Try.zeroValue4
 t22 := Try.underlying41
 a22 := Try.isAgg41
 z22 := Try.sizeOf41
 v22 := Try.zeroValue41
 i3 := info3
def slices_Compact_int_int.f (l0 : List Int) : Option (List Int) := if l0.length < 4611686018427387904 then some (Lib.compact l0) else none
theorem compact_len_ (l : List Int) : (Lib.compact l).length ≤ l.length := by
 unfold Lib.compact Lib.compactUpTo; rw [List.length_map]; exact Nat.le_trans (List.length_filter_le _ _) (by simp)
theorem slices_Compact_int_int.calls (P0_ : Nat → Prop) (u9000_ : Value) (l0 : List Int) (r : List Int) (w0 w : World) (hB : Below w0.heap.size w0 w) (ho0 : Kd.R (Kd.int .i64) 3 w w0.heap.size P0_ u9000_ l0) (h : slices_Compact_int_int.f l0 = some r) :
  Calls Try.prog 107 #[u9000_] w fun e w' => ∃ v0_ : Value, e = .returned v0_ ∧ Kd.R (Kd.int .i64) 3 w' w0.heap.size (fun k_ => (P0_ k_ ∨ w.heap.size ≤ k_)) v0_ r ∧ Below w0.heap.size w0 w' ∧ Kept w w' (fun k_ => P0_ k_) := by
 unfold slices_Compact_int_int.f at h
 by_cases hsz : l0.length < 4611686018427387904
 case neg => simp [hsz] at h
 rw [if_pos hsz] at h; obtain rfl := Option.some.inj h; have hok := ho0.1; have ho := Kd.own_of_R ho0; have hcl := compact_len_ l0; obtain ⟨hi, ⟨rfl, h0⟩ | ⟨g, cap, cur, rfl, hbase, hb, h1, h2, h3, h4⟩⟩ := ho
 ·obtain rfl : l0 = [] := List.length_eq_zero_iff.1 h0; refine (Any.slices_Compact_int_empty slices_Compact_int_int.lays none 0 w).mono ?_; rintro e w' ⟨rfl, rfl⟩; exact ⟨_, rfl, by rw [show Lib.compact ([] : List Int) = [] from rfl]; exact Kd.R_nil _ _ _ _ _, hB, Kept.refl _ _⟩
 ·have hg : g < w.heap.size := (Array.getElem?_eq_some_iff.1 hb).1; have h4' : cur.toList.take l0.length = l0.map (Value.int .i64) := by simpa [encs] using h4
  refine (Any.slices_Compact_int slices_Compact_int_int.lays g 0 cap l0 w (holds_of_blockI hb h4') (by omega) h1).mono ?_; rintro e w' ⟨rfl, q, rfl⟩; generalize hcc : Lib.compact l0 ++ List.replicate (l0.length - (Lib.compact l0).length) 0 = ts; have htl : ts.length = l0.length := by rw [← hcc, List.length_append, List.length_replicate]; omega
  have hgb := grownBy_sortedI (w := w) (g := g) (n := q) (os := #[]) ts.toArray; have hown := ownsRow_sortedI (n := q) (os := #[]) (ts := ts) htl hbase hb h1 h2 h3; rw [Go.Sort.grow_empty] at hgb hown; have hR : Kd.R (Kd.int .i64) 3 (Go.Sort.putRow (Value.int .i64) (Sort.ahead w q) g 0 ts.toArray) w0.heap.size (fun k_ => (P0_ k_ ∨ w.heap.size ≤ k_)) (.slice (some ⟨g, 0, none⟩) l0.length cap) ts := by
   refine Kd.R_of_own (enc := Value.int .i64) ?_ (fun k hk => .inl (hok k hk)); rw [← htl] at hown ⊢
   simpa [encs] using hown
  have hT := Kd.R_take (m := (Lib.compact l0).length) (by rw [← htl] at hR; exact hR) (by rw [← hcc, List.length_append]; omega); rw [show ts.take (Lib.compact l0).length = Lib.compact l0 by rw [← hcc]; simp] at hT; refine ⟨_, rfl, hT, ?_, Kept.of_grown hgb (Kept.refl _ _) (fun k hk => .inl (hok k (by rw [← hk]; rfl)))⟩; exact ⟨hB.os, hB.tape, hB.output, Nat.le_trans hB.size hgb.size, fun k hk => (hgb.block k (Nat.lt_of_lt_of_le hk hB.size) (fun e => by cases e; omega)).trans (hB.block k hk)⟩
end
section
def L_shots_turns.l0 : Nat → Int → List Int → List (S108) → Int → Int → Option (List Int)
 | 0, _, _, _, _, _ => none
 | k + 1, x1, x5, x9, x10, x11 => if x11 < x10 then (if 0 ≤ x11 then (if x11 < (x9.length : Int) then ((some (([(rd_T108 x9 x11).f0, (rd_T108 x9 x11).f1, wrap64 (((rd_T108 x9 x11).f0) + x1), wrap64 (((rd_T108 x9 x11).f1) + x1)] : List Int) : List Int)).bind fun y141 => (if x5.length + y141.length < 17592186044416 then (L_shots_turns.l0 k x1 (x5 ++ y141) x9 x10 (wrap64 (x11 + 1))) else (none))) else (none)) else (none)) else ((slices_Sort_int_int.f x5).bind fun t147 => ((slices_Compact_int_int.f t147).bind fun t148 => (some t148)))
def L_shots_turns.f (k : Nat) (l0 : List (S108)) (a1 : Int) : Option (List Int) := L_shots_turns.l0 k a1 (([0] : List Int)) l0 (l0.length : Int) 0
theorem L_shots_turns.mono_l : ∀ k, (∀ y0 y1 y2 y3 y4, LeO (L_shots_turns.l0 k y0 y1 y2 y3 y4) (L_shots_turns.l0 (k + 1) y0 y1 y2 y3 y4))
 | 0 => fun _ _ _ _ _ r h => by simp [L_shots_turns.l0] at h
 | k + 1 => by
  have ih0 := L_shots_turns.mono_l k
  ·intro y0 y1 y2 y3 y4; unfold L_shots_turns.l0
   repeat' with_reducible first
    | exact ih0 ..
    | exact LeO.refl ..
    | exact LeO.none ..
    | refine LeO.ite ?_ ?_
    | refine LeO.bind ?_ (fun _ => ?_)
theorem L_shots_turns.mono : ∀ a0 a1 k, LeO (L_shots_turns.f k a0 a1) (L_shots_turns.f (k + 1) a0 a1) := by
 intro a0 a1 k; have ih0 := L_shots_turns.mono_l k; unfold L_shots_turns.f
 repeat' with_reducible first
  | exact ih0 ..
  | exact LeO.refl ..
  | exact LeO.none ..
  | refine LeO.ite ?_ ?_
  | refine LeO.bind ?_ (fun _ => ?_)
theorem L_shots_turns.calls (k : Nat) (A0 : Option Addr) (c0 : Nat) (l0 : List (S108)) (a1 : Int) (r : List Int) (w : World) (hr0 : Kd.C k108 w A0 l0.length l0) (hc0 : l0.length ≤ c0) (H : L_shots_turns.f k l0 a1 = some r) :
  Calls Try.prog 66 #[.slice A0 l0.length c0, .int .i64 a1] w fun e w' => ∃ v0_ : Value, e = .returned (v0_) ∧ Kd.R (Kd.int .i64) 3 w' w.heap.size (fun _ => True) v0_ r ∧ Below w.heap.size w w' := by
 have hu108 := Try.underlying108; have HR0 := m0 hr0; have HC0 := m0 hc0; clear hr0 hc0; have HB := m0 (Below.refl w.heap.size w); unfold L_shots_turns.f at H; obtain ⟨y136, hy136⟩ : ∃ y_ : List Int, y_ = (([0] : List Int)) := ⟨_, rfl⟩; replace H : (L_shots_turns.l0 k a1 y136 l0 (l0.length : Int) 0) = some r := by first | (rw [hy136]; with_reducible exact H) | (have H2_ := (Option.bind_some _ _).symm.trans H; rw [hy136]; with_reducible exact H2_) | (have H2_ := (Option.bind_some _ _).symm.trans H; with_reducible exact H2_) | with_reducible exact H | (rw [hy136]; exact H) | exact H
 have Ny136 := m0 hy136; clear hy136; have H' := m0 H; clear H; go_enter Try.func66, Try.ntmps66
 go_wp2_with (first | ((with_reducible refine ga 8 rfl ?_); refine Kd.R_lit (Kd.int .i64) _ 3 ?hg (N := 8) ?hd (xs := ([0] : List Int)) (inner := [.int .i64 0]) (ok := fun _ => True) (okp := fun _ => True) ?hr ?hp (fun _ hk => hk) trivial (Below.refl _ _) (Nat.le_refl _) (by simp) ?_; (case hd => rfl); (case hg => rfl); (case hr => first | (go_simp; done) | (go_simp; rfl)); (case hp => exact (Reps.one (ki 0) (Reps.none _ _))); intro v137 w3 ho4 hb hg_ hnew_; clear hg_ hnew_; (first | rw [← Ny136.out] at ho4 | (simp only [Int.reduceToNat] at ho4; rw [← Ny136.out] at ho4)); have HO138 := m0 (Kd.R_lower ho4 (below_size bz)); replace HB := sb HB hb; clear hb ho4))
 go_loopg [5, 11] k (fun kq v5 v11 w' => ∃ (x5_1 : List Int) (x11_1 : Int), v11 = .int .i64 x11_1 ∧ Aside0 (L_shots_turns.l0 kq a1 x5_1 l0 (l0.length : Int) x11_1 = some r) ∧ Aside0 (kq ≤ k) ∧ Aside0 (Kd.R (Kd.int .i64) 3 w' w.heap.size (fun _ => True) v5 x5_1) ∧ Aside0 (Below w.heap.size w w'))
 case atStart => exact ⟨(y136), (0), rz, H', ⟨Nat.le_refl _⟩, ⟨br HO138.out⟩, ⟨bz⟩⟩
 case round =>
  clear H'; obtain ⟨x5_1, x11_1, rfl, HA, HK1, HO_5, HB⟩ := hrel
  cases gk with
  | zero => exact absurd HA.out (by simp [L_shots_turns.l0])
  | succ k1 =>
   have H := HA.out; clear HA; simp only [L_shots_turns.l0] at H
   by_cases c5 : x11_1 < (l0.length : Int)
   ·rw [if_pos c5] at H; have c5b0 := decide_eq_true c5; clear c5
    by_cases c6 : 0 ≤ x11_1
    ·rw [if_pos c6] at H; have c6b0 := decide_eq_true c6; clear c6
     by_cases c7 : x11_1 < (l0.length : Int)
     ·rw [if_pos c7] at H; have c7b0 := decide_eq_true c7; clear c7; obtain ⟨y141, hy141⟩ : ∃ y_ : List Int, y_ = (([(rd_T108 l0 x11_1).f0, (rd_T108 l0 x11_1).f1, wrap64 (((rd_T108 l0 x11_1).f0) + a1), wrap64 (((rd_T108 l0 x11_1).f1) + a1)] : List Int)) := ⟨_, rfl⟩; replace H : (if x5_1.length + y141.length < 17592186044416 then (L_shots_turns.l0 k1 a1 (x5_1 ++ y141) l0 (l0.length : Int) (wrap64 (x11_1 + 1))) else (none)) = some r := by first | (rw [hy141]; with_reducible exact H) | (have H2_ := (Option.bind_some _ _).symm.trans H; rw [hy141]; with_reducible exact H2_) | (have H2_ := (Option.bind_some _ _).symm.trans H; with_reducible exact H2_) | with_reducible exact H | (rw [hy141]; exact H) | exact H
      have Ny141 := m0 hy141; clear hy141
      by_cases c8 : x5_1.length + y141.length < 17592186044416
      ·rw [if_pos c8] at H; have LMc8 := m0 c8; clear c8; obtain ⟨y144, hy144⟩ : ∃ y_ : List Int, y_ = (x5_1 ++ y141) := ⟨_, rfl⟩; replace H : (L_shots_turns.l0 k1 a1 y144 l0 (l0.length : Int) (wrap64 (x11_1 + 1))) = some r := by first | (rw [hy144]; with_reducible exact H) | (have H2_ := (Option.bind_some _ _).symm.trans H; rw [hy144]; with_reducible exact H2_) | (have H2_ := (Option.bind_some _ _).symm.trans H; with_reducible exact H2_) | with_reducible exact H | (rw [hy144]; exact H) | exact H
       have Ny144 := m0 hy144; clear hy144; have H' := m0 H; clear H; have p139 : 0 ≤ (x11_1 : Int) := od; have q139 : x11_1 < (l0.length : Int) := od; obtain ⟨ad139, e139, hx139_0, hx139_1, hx139_2⟩ := at_T108 HR0.out x11_1 p139 q139
       cases e139
       replace hx139_0 := hc HB hx139_0; replace hx139_1 := hc HB hx139_1; replace hx139_2 := hc HB hx139_2; replace p139 := eq_true p139; replace q139 := eq_true q139
       go_wp2_with (first | ((with_reducible refine ga 7 rfl ?_); refine be 7 108 #[.int .i64 0, .int .i64 0, .int .i64 0] ?_; intro gb140 hg w9 hbox hb; replace HO_5 := rb HO_5 hb; have BK140 := m0 hbox; have GE140 := gw w hg; replace HB := sb HB hb; clear hb hbox hg; obtain ⟨_, _, _, _, _, _⟩ := b3 BK140) | ((with_reducible refine ga 28 rfl ?_); refine Kd.R_lit (Kd.int .i64) _ 3 ?hg (N := 28) ?hd (xs := ([(rd_T108 l0 x11_1).f0, (rd_T108 l0 x11_1).f1, wrap64 (((rd_T108 l0 x11_1).f0) + a1), wrap64 (((rd_T108 l0 x11_1).f1) + a1)] : List Int)) (inner := [.int .i64 ((rd_T108 l0 x11_1).f0), .int .i64 ((rd_T108 l0 x11_1).f1), .int .i64 (wrap64 (((rd_T108 l0 x11_1).f0) + a1)), .int .i64 (wrap64 (((rd_T108 l0 x11_1).f1) + a1))]) (ok := fun _ => True) (okp := fun _ => True) ?hr ?hp (fun _ hk => hk) trivial (Below.refl _ _) (Nat.le_refl _) (by simp) ?_; (case hd => rfl); (case hg => rfl); (case hr => first | (go_simp; done) | (go_simp; rfl)); (case hp => exact (Reps.one (ki ((rd_T108 l0 x11_1).f0)) (Reps.one (ki ((rd_T108 l0 x11_1).f1)) (Reps.one (ki (wrap64 (((rd_T108 l0 x11_1).f0) + a1))) (Reps.one (ki (wrap64 (((rd_T108 l0 x11_1).f1) + a1))) (Reps.none _ _)))))); intro v142 w11 ho12 hb hg_ hnew_; clear hg_ hnew_; (first | rw [← Ny141.out] at ho12 | (simp only [Int.reduceToNat] at ho12; rw [← Ny141.out] at ho12)); have HO143 := m0 (Kd.R_lower (Kd.R_new' ho12 (Kd.R_lt (by (with_reducible repeat (first | apply Kd.R_alloc | apply Kd.R_drewN | apply Kd.R_drew)); exact (Kd.R_mono (rf (rf (rf (Kd.R_types HO_5.out BK140.out (by decide)) (·.2)) (·.2)) (·.2)) (fun _ h_ => h_.1))))) (below_size bz)); replace HO_5 := m0 (Kd.R_elder' (by (with_reducible repeat (first | apply Kd.R_alloc | apply Kd.R_drewN | apply Kd.R_drew)); exact (Kd.R_mono (rf (rf (rf (Kd.R_types HO_5.out BK140.out (by decide)) (·.2)) (·.2)) (·.2)) (fun _ h_ => h_.1))) (Kd.R_base ho12) hb); replace BK140 := m0 (blk_below (g := gb140) (o := .cells #[.int .i64 ((rd_T108 l0 x11_1).f0), .int .i64 ((rd_T108 l0 x11_1).f1), .int .i64 ((rd_T108 l0 x11_1).f2)] 108 (0, 0)) (bq BK140.out) hb); replace HB := sb HB hb; clear hb ho12; obtain ⟨Ao14, co14, eo14⟩ := Kd.R_slice HO143.out; subst eo14) | ((with_reducible refine gate_builtin (b := .append) (xs := #[.tmp 15, .tmp 28]) rfl ?_); at_builtin; refine Kd.R_append_rows (Kd.int .i64) (w0 := w) w.heap.size rfl (.tmp 15) (.tmp 28) 41 3 (.int .i64 0) 8 rfl Try.underlying41 info3 rfl (by decide) (by omega) u5 x5_1 y141 _ _ _ (fun k_ => some k_ ≠ (.slice Ao14 y141.length co14 : Value).ownBlock) (fun _ => False) rfl rfl ?aO ?aR (fun _ _ h => h) (fun _ h => h.elim) ?aF ?aB ?aS ?aL ?_; (case aR => exact bc (Kd.R_reads' HO143.out).2.2); (case aB => exact bz); (case aF => exact (fun k_ hk => Kd.fresh' (Kd.R_lt (br HO143.out)) k_ hk)); (case aO => exact (by (with_reducible repeat (first | apply Kd.R_alloc | apply Kd.R_drewN | apply Kd.R_drew)); exact Kd.R_mono HO_5.out (fun _ hk => hk.2))); (case aS => exact (below_size bz)); (case aL => have := LMc8.out; omega); intro v145 w13 ho hb hg hat; rw [← Ny144.out] at ho; have n0_ := m0 (blk_grown (g := gb140) (o := .cells #[.int .i64 ((rd_T108 l0 x11_1).f0), .int .i64 ((rd_T108 l0 x11_1).f1), .int .i64 ((rd_T108 l0 x11_1).f2)] 108 (0, 0)) (bk BK140.out) hg (Kd.R_ne HO_5.out BK140.out (by decide))); have n1_ := m0 (Kd.R_after (ok := (fun _ => True)) (br HO143.out) hg hat); have n2_ := m0 (hb); have n3_ := m0 (ho); clear BK140; clear HO143; clear HB; clear HO_5; have BK140 := n0_; have HO143 := n1_; have HB := n2_; have HO146 := n3_; clear n0_ n1_ n2_ n3_; clear ho hb hg hat))
       go_roundg k1
       case measure => have := HK1.out; omega
       case rel => exact ⟨(y144), (wrap64 (x11_1 + 1)), rz, H', ⟨by have := HK1.out; omega⟩, ⟨by (with_reducible repeat (first | apply Kd.R_alloc | apply Kd.R_drewN | apply Kd.R_drew)); exact Kd.R_mono HO146.out (fun _ hk => trivial)⟩, ⟨bz⟩⟩
      ·rw [if_neg c8] at H; exact absurd H (by simp)
     ·rw [if_neg c7] at H; exact absurd H (by simp)
    ·rw [if_neg c6] at H; exact absurd H (by simp)
   ·rw [if_neg c5] at H; have c5b0 := decide_eq_false c5; clear c5; replace H := oa H; obtain ⟨t147, A15, H⟩ := H; (try dsimp only at H); replace H := oa H; obtain ⟨t148, A16, H⟩ := H; (try dsimp only at H); obtain rfl := Option.some.inj H; obtain ⟨Ao17, co17, eo17⟩ := Kd.R_slice HO_5.out; subst eo17
    go_wp2_with (first | ((with_reducible refine gc 106 rfl ?_); refine gl (some 32) Try.func106 #[.slice Ao17 x5_1.length co17] ?_; (with_reducible refine (slices_Sort_int_int.calls (fun k_ => some k_ = (.slice Ao17 x5_1.length co17 : Value).ownBlock) (.slice Ao17 x5_1.length co17) x5_1 t147 w _ ?side1 ?side2 A15.out).mono ?_); (case side1 => repeat (first | (with_reducible first | exact HB.out | apply below_alloc | apply pw_below_drewN | apply below_drew1) | exact HB.out)); (case side2 => exact Kd.R_tight rfl HO_5.out); rintro e w18 ⟨rfl, hy0, hb, hkp⟩; refine ⟨_, rfl, ?_⟩; replace HO_5 := m0 (Kd.R_reok rfl hy0 (fun k_ e_ => HO_5.out.1 k_ e_)); replace HB := m0 (hb); (try clear hb); (try clear hkp); (try clear hy0)) | ((with_reducible refine gc 107 rfl ?_); refine gl (some 34) Try.func107 #[.slice Ao17 x5_1.length co17] ?_; (with_reducible refine (slices_Compact_int_int.calls (fun k_ => some k_ = (.slice Ao17 x5_1.length co17 : Value).ownBlock) (.slice Ao17 x5_1.length co17) t147 t148 w _ ?side1 ?side2 A16.out).mono ?_); (case side1 => repeat (first | (with_reducible first | exact HB.out | apply below_alloc | apply pw_below_drewN | apply below_drew1) | exact HB.out)); (case side2 => exact Kd.R_tight rfl HO_5.out); rintro e w19 ⟨v149, rfl, ho0, hb, hkp⟩; refine ⟨_, rfl, ?_⟩; have n0_ := m0 (Kd.R_mono (ok' := fun k_ => True) ho0 (fun k_ hk_ => trivial)); have n1_ := m0 (hb); clear HB; clear HO_5; have HO150 := n0_; have HB := n1_; clear n0_ n1_; (try clear hb); (try clear hkp); (try clear ho0)))
    go_ret
    exact ⟨_, by first | rfl | (simp [errW_none, errW_some] <;> rfl) | (simp [*, errW_none, errW_some] <;> rfl), by (with_reducible repeat (first | apply Kd.R_alloc | apply Kd.R_drewN | apply Kd.R_drew)); exact HO150.out, by repeat (first | (with_reducible first | exact HB.out | apply below_alloc | apply pw_below_drewN | apply below_drew1) | exact HB.out)⟩
end
section
def L_shots_until.l0 : Nat → Int → Int → List (S108) → Int → Int → Option (Int)
 | 0, _, _, _, _, _ => none
 | k + 1, x1, x5, x8, x9, x10 => if x10 < x9 then (if 0 ≤ x10 then (if x10 < (x8.length : Int) then (L_shots_until.l0 k x1 (wrap64 (x5 + (wrap64 (((rd_T108 x8 x10).f2) * (mx 0 (wrap64 ((mn x1 ((rd_T108 x8 x10).f1)) - ((rd_T108 x8 x10).f0)))))))) x8 x9 (wrap64 (x10 + 1))) else (none)) else (none)) else (some x5)
def L_shots_until.f (k : Nat) (l0 : List (S108)) (a1 : Int) : Option (Int) := L_shots_until.l0 k a1 0 l0 (l0.length : Int) 0
theorem L_shots_until.mono_l : ∀ k, (∀ y0 y1 y2 y3 y4, LeO (L_shots_until.l0 k y0 y1 y2 y3 y4) (L_shots_until.l0 (k + 1) y0 y1 y2 y3 y4))
 | 0 => fun _ _ _ _ _ r h => by simp [L_shots_until.l0] at h
 | k + 1 => by
  have ih0 := L_shots_until.mono_l k
  ·intro y0 y1 y2 y3 y4; unfold L_shots_until.l0
   repeat' with_reducible first
    | exact ih0 ..
    | exact LeO.refl ..
    | exact LeO.none ..
    | refine LeO.ite ?_ ?_
    | refine LeO.bind ?_ (fun _ => ?_)
theorem L_shots_until.mono : ∀ a0 a1 k, LeO (L_shots_until.f k a0 a1) (L_shots_until.f (k + 1) a0 a1) := by
 intro a0 a1 k; have ih0 := L_shots_until.mono_l k; unfold L_shots_until.f
 repeat' with_reducible first
  | exact ih0 ..
  | exact LeO.refl ..
  | exact LeO.none ..
  | refine LeO.ite ?_ ?_
  | refine LeO.bind ?_ (fun _ => ?_)
theorem L_shots_until.calls (k : Nat) (A0 : Option Addr) (c0 : Nat) (l0 : List (S108)) (a1 : Int) (r : Int) (w : World) (hr0 : Kd.C k108 w A0 l0.length l0) (hc0 : l0.length ≤ c0) (H : L_shots_until.f k l0 a1 = some r) :
  Calls Try.prog 108 #[.slice A0 l0.length c0, .int .i64 a1] w fun e w' => e = .returned (.int .i64 r) ∧ Below w.heap.size w w' := by
 have hu108 := Try.underlying108; have HR0 := m0 hr0; have HC0 := m0 hc0; clear hr0 hc0; have HB := m0 (Below.refl w.heap.size w); unfold L_shots_until.f at H; have H' := m0 H; clear H; go_enter Try.func108, Try.ntmps108
 go_wp2
 go_loopg [5, 10] k (fun kq v5 v10 w' => ∃ (x5_1 : Int) (x10_1 : Int), v5 = .int .i64 x5_1 ∧ v10 = .int .i64 x10_1 ∧ Aside0 (L_shots_until.l0 kq a1 x5_1 l0 (l0.length : Int) x10_1 = some r) ∧ Aside0 (kq ≤ k) ∧ Aside0 (Below w.heap.size w w'))
 case atStart => exact ⟨(0), (0), rz, rz, H', ⟨Nat.le_refl _⟩, ⟨bz⟩⟩
 case round =>
  clear H'; obtain ⟨x5_1, x10_1, rfl, rfl, HA, HK1, HB⟩ := hrel
  cases gk with
  | zero => exact absurd HA.out (by simp [L_shots_until.l0])
  | succ k1 =>
   have H := HA.out; clear HA; simp only [L_shots_until.l0] at H
   by_cases c3 : x10_1 < (l0.length : Int)
   ·rw [if_pos c3] at H; have c3b0 := decide_eq_true c3; clear c3
    by_cases c4 : 0 ≤ x10_1
    ·rw [if_pos c4] at H; have c4b0 := decide_eq_true c4; clear c4
     by_cases c5 : x10_1 < (l0.length : Int)
     ·rw [if_pos c5] at H; have c5b0 := decide_eq_true c5; clear c5; obtain ⟨ji6, hji6⟩ : ∃ j_ : Int, (mn a1 ((rd_T108 l0 x10_1).f1)) = j_ := ⟨_, rfl⟩; replace H : (L_shots_until.l0 k1 a1 (wrap64 (x5_1 + (wrap64 (((rd_T108 l0 x10_1).f2) * (mx 0 (wrap64 ((ji6) - ((rd_T108 l0 x10_1).f0)))))))) l0 (l0.length : Int) (wrap64 (x10_1 + 1))) = some r := by first | (rw [hji6] at H; exact H) | (simp only [hji6] at H ⊢; exact H)
      have hji6_ : (if ((rd_T108 l0 x10_1).f1) < a1 then ((rd_T108 l0 x10_1).f1) else a1) = ji6 := hji6; obtain ⟨ji7, hji7⟩ : ∃ j_ : Int, (mx 0 (wrap64 ((ji6) - ((rd_T108 l0 x10_1).f0)))) = j_ := ⟨_, rfl⟩; replace H : (L_shots_until.l0 k1 a1 (wrap64 (x5_1 + (wrap64 (((rd_T108 l0 x10_1).f2) * (ji7))))) l0 (l0.length : Int) (wrap64 (x10_1 + 1))) = some r := by first | (rw [hji7] at H; exact H) | (simp only [hji7] at H ⊢; exact H)
      have hji7_ : (if 0 < (wrap64 ((ji6) - ((rd_T108 l0 x10_1).f0))) then (wrap64 ((ji6) - ((rd_T108 l0 x10_1).f0))) else 0) = ji7 := hji7; have H' := m0 H; clear H; have p151 : 0 ≤ (x10_1 : Int) := od; have q151 : x10_1 < (l0.length : Int) := od; obtain ⟨ad151, e151, hx151_0, hx151_1, hx151_2⟩ := at_T108 HR0.out x10_1 p151 q151
      cases e151
      replace hx151_0 := hc HB hx151_0; replace hx151_1 := hc HB hx151_1; replace hx151_2 := hc HB hx151_2; replace p151 := eq_true p151; replace q151 := eq_true q151
      go_wp2_with (first | ((with_reducible refine ga 7 rfl ?_); refine be 7 108 #[.int .i64 0, .int .i64 0, .int .i64 0] ?_; intro gb152 hg w8 hbox hb; have BK152 := m0 hbox; have GE152 := gw w hg; replace HB := sb HB hb; clear hb hbox hg; obtain ⟨_, _, _, _, _, _⟩ := b3 BK152))
      go_roundg k1
      case measure => have := HK1.out; omega
      case rel => exact ⟨(wrap64 (x5_1 + (wrap64 (((rd_T108 l0 x10_1).f2) * (ji7))))), (wrap64 (x10_1 + 1)), (by first | rfl | (simp; done) | (simp only [← hji7] <;> (first | rfl | simp)) | (simp [*]; done)), rz, H', ⟨by have := HK1.out; omega⟩, ⟨bz⟩⟩
     ·rw [if_neg c5] at H; exact absurd H (by simp)
    ·rw [if_neg c4] at H; exact absurd H (by simp)
   ·rw [if_neg c3] at H; have c3b0 := decide_eq_false c3; clear c3; obtain rfl := Option.some.inj H
    go_wp2
    go_ret
    exact ez
end
section
def L_shots_in.f (k : Nat) (l0 : List (S108)) (a1 : Int) (a2 : Int) : Option (Int) := (L_shots_until.f k l0 a2).bind fun t153 => ((L_shots_until.f k l0 (wrap64 (a2 - a1))).bind fun t154 => (some (wrap64 (t153 - t154))))
theorem L_shots_in.mono : ∀ a0 a1 a2 k, LeO (L_shots_in.f k a0 a1 a2) (L_shots_in.f (k + 1) a0 a1 a2) := by
 intro a0 a1 a2 k; unfold L_shots_in.f
 repeat' with_reducible first
  | exact L_shots_until.mono ..
  | exact LeO.refl ..
  | exact LeO.none ..
  | refine LeO.ite ?_ ?_
  | refine LeO.bind ?_ (fun _ => ?_)
theorem L_shots_in.calls (k : Nat) (A0 : Option Addr) (c0 : Nat) (l0 : List (S108)) (a1 : Int) (a2 : Int) (r : Int) (w : World) (hr0 : Kd.C k108 w A0 l0.length l0) (hc0 : l0.length ≤ c0) (H : L_shots_in.f k l0 a1 a2 = some r) :
  Calls Try.prog 67 #[.slice A0 l0.length c0, .int .i64 a1, .int .i64 a2] w fun e w' => e = .returned (.int .i64 r) ∧ Below w.heap.size w w' := by
 have HR0 := m0 hr0; have HC0 := m0 hc0; clear hr0 hc0; have HB := m0 (Below.refl w.heap.size w); unfold L_shots_in.f at H; replace H := oa H; obtain ⟨t153, A4, H⟩ := H; (try dsimp only at H); replace H := oa H; obtain ⟨t154, A5, H⟩ := H; (try dsimp only at H); obtain rfl := Option.some.inj H; go_enter Try.func67, Try.ntmps67
 go_wp2_with (first | ((with_reducible refine gc 108 rfl ?_); refine gl (some 9) Try.func108 #[.slice A0 l0.length c0, .int .i64 a2] ?_; (with_reducible refine (L_shots_until.calls k _ _ l0 a2 t153 _ ?side1 ?side2 A4.out).mono ?_); (case side1 => repeat (first | exact HR0.out | (with_reducible refine Kd.C_alloc ?_ _) | (with_reducible refine Kd.C_drewN ?_ _) | (with_reducible refine Kd.C_drew ?_))); (case side2 => exact HC0.out); rintro e w6 ⟨rfl, hb⟩; refine ⟨_, rfl, ?_⟩; replace HB := sb HB hb; (try clear hb)) | ((with_reducible refine gc 108 rfl ?_); refine gl (some 14) Try.func108 #[.slice A0 l0.length c0, .int .i64 (wrap64 (a2 - a1))] ?_; (with_reducible refine (L_shots_until.calls k _ _ l0 (wrap64 (a2 - a1)) t154 _ ?side1 ?side2 A5.out).mono ?_); (case side1 => exact cb HR0 HB); (case side2 => exact HC0.out); rintro e w7 ⟨rfl, hb⟩; refine ⟨_, rfl, ?_⟩; replace HB := sb HB hb; (try clear hb)))
 go_ret
 exact ez
end
section
def L_ExposureOf.l0 : Nat → Int → List (S108) → Int → List Int → Int → Int → Option (Int × Int)
 | 0, _, _, _, _, _, _ => none
 | k + 1, x1, x6, x8, x22, x23, x24 => if x24 < x23 then (if 0 ≤ x24 then (if x24 < (x22.length : Int) then ((L_shots_in.f k x6 x1 (rd x22 x24)).bind fun t163 => (L_ExposureOf.l0 k x1 x6 (mx x8 t163) x22 x23 (wrap64 (x24 + 1)))) else (none)) else (none)) else (some (x8, 0))
def L_ExposureOf.f (k : Nat) (l0 : List (S108)) (a1 : Int) : Option (Int × Int) := (L_openShots.f k l0 a1).bind fun bt155 => (if bt155.2 = 0 then ((L_shots_turns.f k bt155.1 a1).bind fun t159 => (L_ExposureOf.l0 k a1 bt155.1 0 t159 (t159.length : Int) 0)) else (some (0, bt155.2)))
theorem L_ExposureOf.mono_l : ∀ k, (∀ y0 y1 y2 y3 y4 y5, LeO (L_ExposureOf.l0 k y0 y1 y2 y3 y4 y5) (L_ExposureOf.l0 (k + 1) y0 y1 y2 y3 y4 y5))
 | 0 => fun _ _ _ _ _ _ r h => by simp [L_ExposureOf.l0] at h
 | k + 1 => by
  have ih0 := L_ExposureOf.mono_l k
  ·intro y0 y1 y2 y3 y4 y5; unfold L_ExposureOf.l0
   repeat' with_reducible first
    | exact ih0 ..
    | exact L_openShots.mono ..
    | exact L_shots_in.mono ..
    | exact L_shots_turns.mono ..
    | exact LeO.refl ..
    | exact LeO.none ..
    | refine LeO.ite ?_ ?_
    | refine LeO.bind ?_ (fun _ => ?_)
theorem L_ExposureOf.mono : ∀ a0 a1 k, LeO (L_ExposureOf.f k a0 a1) (L_ExposureOf.f (k + 1) a0 a1) := by
 intro a0 a1 k; have ih0 := L_ExposureOf.mono_l k; unfold L_ExposureOf.f
 repeat' with_reducible first
  | exact ih0 ..
  | exact L_openShots.mono ..
  | exact L_shots_in.mono ..
  | exact L_shots_turns.mono ..
  | exact LeO.refl ..
  | exact LeO.none ..
  | refine LeO.ite ?_ ?_
  | refine LeO.bind ?_ (fun _ => ?_)
theorem L_ExposureOf.calls (k : Nat) (A0 : Option Addr) (c0 : Nat) (l0 : List (S108)) (a1 : Int) (r1 : Int) (r2 : Int) (w : World) (hr0 : Kd.C k108 w A0 l0.length l0) (hc0 : l0.length ≤ c0) (H : L_ExposureOf.f k l0 a1 = some (r1, r2)) :
  Calls Try.prog 12 #[.slice A0 l0.length c0, .int .i64 a1] w fun e w' => e = .returned (.tuple #[.int .i64 r1, .int .i64 r2]) ∧ Below w.heap.size w w' := by
 have HR0 := m0 hr0; have HC0 := m0 hc0; clear hr0 hc0; have HB := m0 (Below.refl w.heap.size w); unfold L_ExposureOf.f at H; replace H := oa H; obtain ⟨⟨t155, t158⟩, A3, H⟩ := H; (try dsimp only at H)
 by_cases c4 : t158 = 0
 ·rw [if_pos c4] at H; have c4b0 := beq_iff_eq.mpr c4; have c4b1 := bne_eq_false_iff_eq.mpr c4; clear c4; replace H := oa H; obtain ⟨t159, A5, H⟩ := H; (try dsimp only at H); have H' := m0 H; clear H; go_enter Try.func12, Try.ntmps12
  go_wp2_with (first | ((with_reducible refine gc 65 rfl ?_); refine gl (some 14) Try.func65 #[.slice A0 l0.length c0, .int .i64 a1] ?_; (with_reducible refine (L_openShots.calls k (fun k_ => k_ < w.heap.size) _ _ l0 a1 t155 t158 _ ?side1 A3.out).mono ?_); (case side1 => exact Kd.V_mk HC0.out (Kd.F_below (Kd.C_F k108_heap HR0.out) bz)); rintro e w6 ⟨v156, rfl, ho0, hb⟩; refine ⟨_, rfl, ?_⟩; have HO157 := hv w (fun k_ => True) ho0 (fun k_ hk_ => trivial); replace HB := sb HB hb; (try clear hb); (try clear ho0); obtain ⟨Ao7, co7, eo7⟩ := Kd.V_slice HO157.out; subst eo7) | ((with_reducible refine gc 66 rfl ?_); refine gl (some 22) Try.func66 #[.slice Ao7 t155.length co7, .int .i64 a1] ?_; (with_reducible refine (L_shots_turns.calls k _ _ t155 a1 t159 _ ?side1 ?side2 A5.out).mono ?_); (case side1 => exact bc (Kd.V_reads' HO157.out).2.2); (case side2 => exact (Kd.V_reads' HO157.out).2.1); rintro e w8 ⟨v160, rfl, ho0, hb⟩; refine ⟨_, rfl, ?_⟩; replace HO157 := m0 (Kd.V_elder' (by (with_reducible repeat (first | apply Kd.V_alloc | apply Kd.V_drewN | apply Kd.V_drew)); exact HO157.out) (Kd.R_base ho0) hb); have HO161 := m0 (Kd.R_lower ho0 (below_size bz)); replace HB := sb HB hb; (try clear hb); (try clear ho0); obtain ⟨Ao9, co9, eo9⟩ := Kd.R_slice HO161.out; subst eo9))
  go_loopg [8, 24] k (fun kq v8 v24 w' => ∃ (x8_1 : Int) (x24_1 : Int), v8 = .int .i64 x8_1 ∧ v24 = .int .i64 x24_1 ∧ Aside0 (L_ExposureOf.l0 kq a1 t155 x8_1 t159 (t159.length : Int) x24_1 = some (r1, r2)) ∧ Aside0 (kq ≤ k) ∧ Aside0 (Kd.V k108 108 w' w.heap.size (fun k_ => some k_ ≠ ((.slice Ao9 t159.length co9) : Value).ownBlock) (.slice Ao7 t155.length co7) t155) ∧ Aside0 (Kd.R (Kd.int .i64) 3 w' w.heap.size (fun _ => True) (.slice Ao9 t159.length co9) t159) ∧ Aside0 (Below w.heap.size w w'))
  case atStart => exact ⟨(0), (0), rz, rz, H', ⟨Nat.le_refl _⟩, ⟨by (with_reducible repeat (first | apply Kd.V_alloc | apply Kd.V_drewN | apply Kd.V_drew)); exact Kd.V_mono HO157.out (fun _ hk => hk.2)⟩, ⟨br HO161.out⟩, ⟨bz⟩⟩
  case round =>
   clear H'; obtain ⟨x8_1, x24_1, rfl, rfl, HA, HK1, HO_6, HO_22, HB⟩ := hrel
   cases gk with
   | zero => exact absurd HA.out (by simp [L_ExposureOf.l0])
   | succ k1 =>
    have H := HA.out; clear HA; simp only [L_ExposureOf.l0] at H
    by_cases c10 : x24_1 < (t159.length : Int)
    ·rw [if_pos c10] at H; have c10b0 := decide_eq_true c10; clear c10
     by_cases c11 : 0 ≤ x24_1
     ·rw [if_pos c11] at H; have c11b0 := decide_eq_true c11; clear c11
      by_cases c12 : x24_1 < (t159.length : Int)
      ·rw [if_pos c12] at H; have c12b0 := decide_eq_true c12; clear c12; replace H := oa H; obtain ⟨t163, A13, H⟩ := H; (try dsimp only at H); obtain ⟨ji14, hji14⟩ : ∃ j_ : Int, (mx x8_1 t163) = j_ := ⟨_, rfl⟩; replace H : (L_ExposureOf.l0 k1 a1 t155 ji14 t159 (t159.length : Int) (wrap64 (x24_1 + 1))) = some (r1, r2) := by first | (rw [hji14] at H; exact H) | (simp only [hji14] at H ⊢; exact H)
       (try rw [hji14] at A13); have hji14_ : (if x8_1 < t163 then t163 else x8_1) = ji14 := hji14; have H' := m0 H; clear H; have p162 : 0 ≤ (x24_1 : Int) := od; have q162 : x24_1 < (t159.length : Int) := od; obtain ⟨ad162, e162, hx162_0⟩ := Kd.at_int (Kd.R_reads' HO_22.out).2.2 x24_1 p162 q162
       cases e162
       replace p162 := eq_true p162; replace q162 := eq_true q162
       go_wp2_with (first | ((with_reducible refine gc 67 rfl ?_); refine gl (some 32) Try.func67 #[.slice Ao7 t155.length co7, .int .i64 a1, .int .i64 (rd t159 x24_1)] ?_; (with_reducible refine (L_shots_in.calls k1 _ _ t155 a1 (rd t159 x24_1) t163 _ ?side1 ?side2 A13.out).mono ?_); (case side1 => exact bc (Kd.V_reads' HO_6.out).2.2); (case side2 => exact (Kd.V_reads' HO_6.out).2.1); rintro e w15 ⟨rfl, hb⟩; refine ⟨_, rfl, ?_⟩; replace HO_6 := vb HO_6 hb; replace HO_22 := rb HO_22 hb; replace HB := sb HB hb; (try clear hb)))
       go_roundg k1
       case measure => have := HK1.out; omega
       case rel => exact ⟨(ji14), (wrap64 (x24_1 + 1)), (by first | rfl | (simp; done) | (simp only [← hji14] <;> (first | rfl | simp)) | (simp [*]; done)), rz, H', ⟨by have := HK1.out; omega⟩, ⟨by (with_reducible repeat (first | apply Kd.V_alloc | apply Kd.V_drewN | apply Kd.V_drew)); exact HO_6.out⟩, ⟨br HO_22.out⟩, ⟨bz⟩⟩
      ·rw [if_neg c12] at H; exact absurd H (by simp)
     ·rw [if_neg c11] at H; exact absurd H (by simp)
    ·rw [if_neg c10] at H; have c10b0 := decide_eq_false c10; clear c10; simp only [Option.some.injEq, Prod.mk.injEq] at H; obtain ⟨rfl, rfl⟩ := H
     go_wp2
     go_ret2
     exact ez
 ·rw [if_neg c4] at H; have c4b0 := beq_eq_false_iff_ne.mpr c4; have c4b1 := bne_iff_ne.mpr c4; simp only [Option.some.injEq, Prod.mk.injEq] at H; obtain ⟨rfl, rfl⟩ := H; go_enter Try.func12, Try.ntmps12
  go_wp2_with (first | ((with_reducible refine gc 65 rfl ?_); refine gl (some 14) Try.func65 #[.slice A0 l0.length c0, .int .i64 a1] ?_; (with_reducible refine (L_openShots.calls k (fun k_ => k_ < w.heap.size) _ _ l0 a1 t155 t158 _ ?side1 A3.out).mono ?_); (case side1 => exact Kd.V_mk HC0.out (Kd.F_below (Kd.C_F k108_heap HR0.out) bz)); rintro e w16 ⟨v156, rfl, ho0, hb⟩; refine ⟨_, rfl, ?_⟩; have HO157 := hv w (fun k_ => True) ho0 (fun k_ hk_ => trivial); replace HB := sb HB hb; (try clear hb); (try clear ho0)))
  go_ret2
  exact ez
end
section
mutual
def L_UnsafeAt.l0 : Nat → List (S108) → Int → List Int → Int → Int → Int → Int → Option (Int × Int)
  | 0, _, _, _, _, _, _, _ => none
  | k + 1, x6, x8, x32, x33, x34, x165000, x165001 => if x34 < x33 then (if 0 ≤ x34 then (if x34 < (x32.length : Int) then ((L_shots_in.f k x6 x165000 (rd x32 x34)).bind fun t179 => (if t179 ≤ x165001 then (L_UnsafeAt.l0 k x6 (rd x32 x34) x32 x33 (wrap64 (x34 + 1)) x165000 x165001) else (L_UnsafeAt.l1 k x6 x8 (rd x32 x34) x165000 x165001))) else (none)) else (none)) else (some (0, 12))
def L_UnsafeAt.l1 : Nat → List (S108) → Int → Int → Int → Int → Option (Int × Int)
  | 0, _, _, _, _, _ => none
  | k + 1, x6, x8, x10, x165000, x165001 => if (wrap64 (x10 - x8)) > 1 then ((L_shots_in.f k x6 x165000 (wrap64 (Int.tdiv (wrap64 (x8 + x10)) 2))).bind fun t180 => (if t180 > x165001 then (L_UnsafeAt.l1 k x6 x8 (wrap64 (Int.tdiv (wrap64 (x8 + x10)) 2)) x165000 x165001) else (L_UnsafeAt.l1 k x6 (wrap64 (Int.tdiv (wrap64 (x8 + x10)) 2)) x10 x165000 x165001))) else (some (wrap64 (x10 - 1), 0))
end
def L_UnsafeAt.f (k : Nat) (l0 : List (S108)) (a1_0 : Int) (a1_1 : Int) : Option (Int × Int) := (L_openShots.f k l0 a1_0).bind fun bt165 => ((L_within.f a1_1 0 1000000000000).bind fun t169 => ((L_unless.f t169 2).bind fun t170 => ((L_first.f k (([bt165.2, t170] : List Int))).bind fun t174 => (if t174 = 0 then ((L_shots_turns.f k bt165.1 a1_0).bind fun t175 => (L_UnsafeAt.l0 k bt165.1 0 t175 (t175.length : Int) 0 a1_0 a1_1)) else (some (0, t174))))))
theorem L_UnsafeAt.mono_l : ∀ k, (∀ y0 y1 y2 y3 y4 y5 y6, LeO (L_UnsafeAt.l0 k y0 y1 y2 y3 y4 y5 y6) (L_UnsafeAt.l0 (k + 1) y0 y1 y2 y3 y4 y5 y6)) ∧ (∀ y0 y1 y2 y3 y4, LeO (L_UnsafeAt.l1 k y0 y1 y2 y3 y4) (L_UnsafeAt.l1 (k + 1) y0 y1 y2 y3 y4))
  | 0 => ⟨fun _ _ _ _ _ _ _ r h => by simp [L_UnsafeAt.l0] at h, fun _ _ _ _ _ r h => by simp [L_UnsafeAt.l1] at h⟩
  | k + 1 => by
    obtain ⟨ih0, ih1⟩ := L_UnsafeAt.mono_l k; refine ⟨?_, ?_⟩
    · intro y0 y1 y2 y3 y4 y5 y6; unfold L_UnsafeAt.l0
      repeat' with_reducible first
        | exact ih0 ..
        | exact ih1 ..
        | exact L_first.mono ..
        | exact L_openShots.mono ..
        | exact L_shots_in.mono ..
        | exact L_shots_turns.mono ..
        | exact LeO.refl ..
        | exact LeO.none ..
        | refine LeO.ite ?_ ?_
        | refine LeO.bind ?_ (fun _ => ?_)
    · intro y0 y1 y2 y3 y4; unfold L_UnsafeAt.l1
      repeat' with_reducible first
        | exact ih0 ..
        | exact ih1 ..
        | exact L_first.mono ..
        | exact L_openShots.mono ..
        | exact L_shots_in.mono ..
        | exact L_shots_turns.mono ..
        | exact LeO.refl ..
        | exact LeO.none ..
        | refine LeO.ite ?_ ?_
        | refine LeO.bind ?_ (fun _ => ?_)
theorem L_UnsafeAt.mono : ∀ a0 a1 a2 k, LeO (L_UnsafeAt.f k a0 a1 a2) (L_UnsafeAt.f (k + 1) a0 a1 a2) := by
  intro a0 a1 a2 k; obtain ⟨ih0, ih1⟩ := L_UnsafeAt.mono_l k; unfold L_UnsafeAt.f
  repeat' with_reducible first
    | exact ih0 ..
    | exact ih1 ..
    | exact L_first.mono ..
    | exact L_openShots.mono ..
    | exact L_shots_in.mono ..
    | exact L_shots_turns.mono ..
    | exact LeO.refl ..
    | exact LeO.none ..
    | refine LeO.ite ?_ ?_
    | refine LeO.bind ?_ (fun _ => ?_)
def L_UnsafeAt.T9 : Bool × List (List Nat × List Nat) := (true, [([], []), ([], []), ([1], [1]), ([], []), ([0, 2, 3], [0, 2, 3]), ([], []), ([5], [5]), ([4, 6], [4, 6])])
def L_UnsafeAt.B9 : List Nat := [0, 0, 2, 0, 15, 0, 32, 127]
theorem L_UnsafeAt.tab9 : rtab .any (opsOf Try.f14 9) = L_UnsafeAt.T9 := by kernel_rfl
theorem L_UnsafeAt.bits9 : waitsOk L_UnsafeAt.T9.2 L_UnsafeAt.B9 = true := by kernel_rfl
def L_UnsafeAt.T13 : Bool × List (List Nat × List Nat) := (true, [([], []), ([], []), ([1], [1]), ([], []), ([0, 2, 3], [0, 2, 3]), ([], []), ([5], [5]), ([4, 6], [4, 6])])
def L_UnsafeAt.B13 : List Nat := [0, 0, 2, 0, 15, 0, 32, 127]
theorem L_UnsafeAt.tab13 : rtab .any (opsOf Try.f14 13) = L_UnsafeAt.T13 := by kernel_rfl
theorem L_UnsafeAt.bits13 : waitsOk L_UnsafeAt.T13.2 L_UnsafeAt.B13 = true := by kernel_rfl
theorem L_UnsafeAt.calls (k : Nat) (A0 : Option Addr) (c0 : Nat) (l0 : List (S108)) (a1_0 : Int) (a1_1 : Int) (r1 : Int) (r2 : Int) (w : World) (hr0 : Kd.C k108 w A0 l0.length l0) (hc0 : l0.length ≤ c0) (H : L_UnsafeAt.f k l0 a1_0 a1_1 = some (r1, r2)) :
    Calls Try.prog 14 #[.slice A0 l0.length c0, .agg #[.int .i64 a1_0, .int .i64 a1_1]] w fun e w' => e = .returned (.tuple #[.int .i64 r1, .int .i64 r2]) ∧ Below w.heap.size w w' := by
  have hu24 := Try.underlying24; have HR0 := m0 hr0; have HC0 := m0 hc0; clear hr0 hc0; have HB := m0 (Below.refl w.heap.size w); unfold L_UnsafeAt.f at H; replace H := oa H; obtain ⟨⟨t165, t168⟩, A3, H⟩ := H; (try dsimp only at H); replace H := oa H; obtain ⟨t169, A4, H⟩ := H; (try dsimp only at H); replace H := oa H; obtain ⟨t170, A5, H⟩ := H; (try dsimp only at H); obtain ⟨y171, hy171⟩ : ∃ y_ : List Int, y_ = (([t168, t170] : List Int)) := ⟨_, rfl⟩; replace H : ((L_first.f k y171).bind fun t174 => (if t174 = 0 then ((L_shots_turns.f k t165 a1_0).bind fun t175 => (L_UnsafeAt.l0 k t165 0 t175 (t175.length : Int) 0 a1_0 a1_1)) else (some (0, t174)))) = some (r1, r2) := by first | (rw [hy171]; with_reducible exact H) | (have H2_ := (Option.bind_some _ _).symm.trans H; rw [hy171]; with_reducible exact H2_) | (have H2_ := (Option.bind_some _ _).symm.trans H; with_reducible exact H2_) | with_reducible exact H | (rw [hy171]; exact H) | exact H
  have Ny171 := m0 hy171; clear hy171; replace H := oa H; obtain ⟨t174, A6, H⟩ := H; (try dsimp only at H)
  by_cases c7 : t174 = 0
  · rw [if_pos c7] at H; have c7b0 := beq_iff_eq.mpr c7; have c7b1 := bne_eq_false_iff_eq.mpr c7; clear c7; replace H := oa H; obtain ⟨t175, A8, H⟩ := H; (try dsimp only at H); have H' := m0 H; clear H; go_enter Try.func14, Try.ntmps14
    go_wp2_with (first | ((with_reducible refine ga 3 rfl ?_); refine be 3 24 #[.int .i64 a1_0, .int .i64 a1_1] ?_; intro gb164 hg w9 hbox hb; have BK164 := m0 hbox; have GW164 := gw w hg; have GE164 := gw w hg; replace HB := sb HB hb; clear hb hbox hg; obtain ⟨hcz10_0, hcz10_1, hfz10_0, hfz10_1⟩ := b2 BK164) | ((with_reducible refine gc 65 rfl ?_); refine gl (some 16) Try.func65 #[.slice A0 l0.length c0, .int .i64 a1_0] ?_; (with_reducible refine (L_openShots.calls k (fun k_ => k_ < w.heap.size) _ _ l0 a1_0 t165 t168 _ ?side1 A3.out).mono ?_); (case side1 => exact Kd.V_mk HC0.out (Kd.F_below (Kd.C_F k108_heap HR0.out) bz)); rintro e w11 ⟨v166, rfl, ho0, hb⟩; refine ⟨_, rfl, ?_⟩; have HO167 := hv w (fun k_ => k_ ≠ gb164) ho0 (fun k_ hk_ => Or.elim hk_ (fun hs_ => fun e_ => Nat.not_le.2 hs_ (by rw [e_]; exact GW164.out)) (fb BK164 ·)); replace BK164 := bb BK164 hb; replace HB := sb HB hb; (try clear hb); (try clear ho0); obtain ⟨hcz12_0, hcz12_1, hfz12_0, hfz12_1⟩ := b2 BK164) | ((with_reducible refine gc 70 rfl ?_); refine gl (some 22) Try.func70 #[.int .i64 a1_1, .int .i64 0, .int .i64 1000000000000] ?_; (with_reducible refine (L_within.calls a1_1 0 1000000000000 t169 _ A4.out).mono ?_); rintro e w' ⟨rfl, ⟨nd, rfl⟩⟩; refine ⟨_, rfl, ?_⟩) | ((with_reducible refine gc 69 rfl ?_); refine gl (some 23) Try.func69 #[.bool t169, .int .i64 2] ?_; (with_reducible refine (L_unless.calls t169 2 t170 _ A5.out).mono ?_); rintro e w' ⟨rfl, ⟨nd, rfl⟩⟩; refine ⟨_, rfl, ?_⟩) | ((with_reducible refine ga 24 rfl ?_); refine Kd.R_lit (Kd.int .i64) _ 26 ?hg (N := 24) ?hd (xs := ([t168, t170] : List Int)) (inner := [.int .i64 t168, .int .i64 t170]) (ok := fun _ => True) (okp := fun _ => True) ?hr ?hp (fun _ hk => hk) trivial (Below.refl _ _) (Nat.le_refl _) (by simp) ?_; (case hd => rfl); (case hg => rfl); (case hr => first | (go_simp; done) | (go_simp; rfl)); (case hp => exact (Reps.one (ki t168) (Reps.one (ki t170) (Reps.none _ _)))); intro v172 w13 ho14 hb hg_ hnew_; clear hg_ hnew_; (first | rw [← Ny171.out] at ho14 | (simp only [Int.reduceToNat] at ho14; rw [← Ny171.out] at ho14)); replace HO167 := m0 (Kd.V_elder' (by (with_reducible repeat (first | apply Kd.V_alloc | apply Kd.V_drewN | apply Kd.V_drew)); exact HO167.out) (Kd.R_base ho14) hb); have HO173 := m0 (Kd.R_lower ho14 (below_size bz)); replace BK164 := bb BK164 hb; replace HB := sb HB hb; clear hb ho14; obtain ⟨Ao15, co15, eo15⟩ := Kd.R_slice HO173.out; subst eo15) | ((with_reducible refine gc 68 rfl ?_); refine gl (some 25) Try.func68 #[.slice Ao15 y171.length co15] ?_; (with_reducible refine (L_first.calls k _ _ y171 t174 _ ?side1 ?side2 A6.out).mono ?_); (case side1 => exact bc (Kd.R_reads' HO173.out).2.2); (case side2 => exact (Kd.R_reads' HO173.out).2.1); rintro e w' ⟨rfl, ⟨nd, rfl⟩⟩; refine ⟨_, rfl, ?_⟩; obtain ⟨hcz16_0, hcz16_1, hfz16_0, hfz16_1⟩ := b2 BK164; obtain ⟨Ao17, co17, eo17⟩ := Kd.V_slice HO167.out; subst eo17) | ((with_reducible refine gc 66 rfl ?_); refine gl (some 32) Try.func66 #[.slice Ao17 t165.length co17, .int .i64 a1_0] ?_; (with_reducible refine (L_shots_turns.calls k _ _ t165 a1_0 t175 _ ?side1 ?side2 A8.out).mono ?_); (case side1 => exact bc (Kd.V_reads' HO167.out).2.2); (case side2 => exact (Kd.V_reads' HO167.out).2.1); rintro e w18 ⟨v176, rfl, ho0, hb⟩; refine ⟨_, rfl, ?_⟩; replace HO167 := m0 (Kd.V_elder' (by (with_reducible repeat (first | apply Kd.V_alloc | apply Kd.V_drewN | apply Kd.V_drew)); exact HO167.out) (Kd.R_base ho0) hb); replace HO173 := rb HO173 hb; have HO177 := m0 (Kd.R_lower ho0 (below_size bz)); replace BK164 := bb BK164 hb; replace HB := sb HB hb; (try clear hb); (try clear ho0); obtain ⟨Ao19, co19, eo19⟩ := Kd.R_slice HO177.out; subst eo19))
    go_loopg [8, 34] k (fun kq v8 v34 w' => ∃ (x8_1 : Int) (x34_1 : Int), v8 = .int .i64 x8_1 ∧ v34 = .int .i64 x34_1 ∧ Aside0 (L_UnsafeAt.l0 kq t165 x8_1 t175 (t175.length : Int) x34_1 a1_0 a1_1 = some (r1, r2)) ∧ Aside0 (kq ≤ k) ∧ Aside0 (Kd.V k108 108 w' w.heap.size (fun k_ => some k_ ≠ ((.slice Ao19 t175.length co19) : Value).ownBlock ∧ k_ ≠ gb164) (.slice Ao17 t165.length co17) t165) ∧ Aside0 (Kd.R (Kd.int .i64) 3 w' w.heap.size (fun _ => True) (.slice Ao19 t175.length co19) t175) ∧ Aside0 (w'.heap[gb164]? = some (.cells #[.int .i64 a1_0, .int .i64 a1_1] 24 (0, 0))) ∧ Aside0 (Below w.heap.size w w'))
    case atStart => exact ⟨(0), (0), rz, rz, H', ⟨Nat.le_refl _⟩, ⟨by (with_reducible repeat (first | apply Kd.V_alloc | apply Kd.V_drewN | apply Kd.V_drew)); exact Kd.V_mono HO167.out (fun _ hk => ⟨hk.2, hk.1.1⟩)⟩, ⟨br HO177.out⟩, ⟨bk BK164.out⟩, ⟨bz⟩⟩
    case round =>
      clear H'
      try clear hcz10_0
      try clear hcz10_1
      try clear hcz12_0
      try clear hcz12_1
      try clear hcz16_0
      try clear hcz16_1
      try clear hfz10_0
      try clear hfz10_1
      try clear hfz12_0
      try clear hfz12_1
      try clear hfz16_0
      try clear hfz16_1
      obtain ⟨x8_1, x34_1, rfl, rfl, HA, HK1, HO_6, HO_32, BK164, HB⟩ := hrel
      cases gk with
      | zero => exact absurd HA.out (by simp [L_UnsafeAt.l0])
      | succ k1 =>
        have H := HA.out; clear HA; simp only [L_UnsafeAt.l0] at H
        by_cases c20 : x34_1 < (t175.length : Int)
        · rw [if_pos c20] at H; have c20b0 := decide_eq_true c20; clear c20
          by_cases c21 : 0 ≤ x34_1
          · rw [if_pos c21] at H; have c21b0 := decide_eq_true c21; clear c21
            by_cases c22 : x34_1 < (t175.length : Int)
            · rw [if_pos c22] at H; have c22b0 := decide_eq_true c22; clear c22; replace H := oa H; obtain ⟨t179, A23, H⟩ := H; (try dsimp only at H)
              by_cases c24 : t179 ≤ a1_1
              · rw [if_pos c24] at H; have c24b0 := decide_eq_true c24; clear c24; have H' := m0 H; clear H; have p178 : 0 ≤ (x34_1 : Int) := od; have q178 : x34_1 < (t175.length : Int) := od; obtain ⟨ad178, e178, hx178_0⟩ := Kd.at_int (Kd.R_reads' HO_32.out).2.2 x34_1 p178 q178
                cases e178
                replace p178 := eq_true p178; replace q178 := eq_true q178
                try go_wp2
                replace HO_6 := m0 (Kd.V_drew HO_6.out); replace HO_32 := m0 (Kd.R_drew HO_32.out); replace BK164 := bd BK164; replace HB := sd HB; refine start_ (n := 8) (S := fun w' => w'.cell? ⟨gb164, 0, none⟩ = some (.int .i64 a1_0) ∧ w'.cell? ⟨gb164, 1, none⟩ = some (.int .i64 a1_1)) (ds := []) _ (by kernel_rfl) rfl rfl cz (fun hH => ?_); refine with_tabW L_UnsafeAt.tab9 L_UnsafeAt.bits9 (fun HT_ HW_ => ?_); generalize wr.drew = w25 at HO_6 HO_32 BK164 HB hH ⊢; refine pZ 0 (some 38) #[true, false, false, false, false, false, false, false] HT_ ?_; refine pZ 1 (some 39) #[true, true, false, false, false, false, false, false] HT_ ?_; refine pZ 3 (some 41) #[true, true, false, true, false, false, false, false] HT_ ?_; refine pZ 5 (some 43) #[true, true, false, true, false, true, false, false] HT_ ?_; refine takeZ 2 (some 40) #[true, true, true, true, false, true, false, false] (tw HT_ HW_) hH ?_; refine takeZ 6 (some 44) #[true, true, true, true, false, true, true, false] (tw HT_ HW_) hH ?_; refine oneZ 4 (some 42) #[true, true, true, true, true, true, true, false] (o1 HT_) fun K hK => ?_; refine gz Try.func67 #[.slice Ao17 t165.length co17, .int .i64 a1_0, .int .i64 (rd t175 x34_1)] ?_
                with_reducible refine (L_shots_in.calls k1 _ _ t165 a1_0 (rd t175 x34_1) t179 _ ?side1 ?side2 A23.out).mono ?_
                (case side1 => exact bc (Kd.V_reads' HO_6.out).2.2)
                (case side2 => exact (Kd.V_reads' HO_6.out).2.1)
                rintro e w26 ⟨rfl, hb⟩; refine ⟨_, rfl, ?_⟩; replace HO_6 := vb HO_6 hb; replace HO_32 := rb HO_32 hb; replace BK164 := bb BK164 hb; replace HB := sb HB hb; (try clear hb); refine hK.out _ _ cz (fun hH => ?_); clear hK K; refine nz 42 ?_; refine pZ 7 (some 45) #[true, true, true, true, true, true, true, true] HT_ ?_; refine done_ (done_of HT_.out (by kernel_rfl)) ?_
                try go_wp2
                go_roundg k1
                case measure => have := HK1.out; omega
                case rel => exact ⟨(rd t175 x34_1), (wrap64 (x34_1 + 1)), rz, rz, H', ⟨by have := HK1.out; omega⟩, ⟨by (with_reducible repeat (first | apply Kd.V_alloc | apply Kd.V_drewN | apply Kd.V_drew)); exact HO_6.out⟩, ⟨br HO_32.out⟩, ⟨bk BK164.out⟩, ⟨bz⟩⟩
              · rw [if_neg c24] at H; have c24b0 := decide_eq_false c24; clear c24; have H' := m0 H; clear H; have p178 : 0 ≤ (x34_1 : Int) := od; have q178 : x34_1 < (t175.length : Int) := od; obtain ⟨ad178, e178, hx178_0⟩ := Kd.at_int (Kd.R_reads' HO_32.out).2.2 x34_1 p178 q178
                cases e178
                replace p178 := eq_true p178; replace q178 := eq_true q178
                try go_wp2
                replace HO_6 := m0 (Kd.V_drew HO_6.out); replace HO_32 := m0 (Kd.R_drew HO_32.out); replace BK164 := bd BK164; replace HB := sd HB; refine start_ (n := 8) (S := fun w' => w'.cell? ⟨gb164, 0, none⟩ = some (.int .i64 a1_0) ∧ w'.cell? ⟨gb164, 1, none⟩ = some (.int .i64 a1_1)) (ds := []) _ (by kernel_rfl) rfl rfl cz (fun hH => ?_); refine with_tabW L_UnsafeAt.tab9 L_UnsafeAt.bits9 (fun HT_ HW_ => ?_); generalize wr.drew = w27 at HO_6 HO_32 BK164 HB hH ⊢; refine pZ 0 (some 38) #[true, false, false, false, false, false, false, false] HT_ ?_; refine pZ 1 (some 39) #[true, true, false, false, false, false, false, false] HT_ ?_; refine pZ 3 (some 41) #[true, true, false, true, false, false, false, false] HT_ ?_; refine pZ 5 (some 43) #[true, true, false, true, false, true, false, false] HT_ ?_; refine takeZ 2 (some 40) #[true, true, true, true, false, true, false, false] (tw HT_ HW_) hH ?_; refine takeZ 6 (some 44) #[true, true, true, true, false, true, true, false] (tw HT_ HW_) hH ?_; refine oneZ 4 (some 42) #[true, true, true, true, true, true, true, false] (o1 HT_) fun K hK => ?_; refine gz Try.func67 #[.slice Ao17 t165.length co17, .int .i64 a1_0, .int .i64 (rd t175 x34_1)] ?_
                with_reducible refine (L_shots_in.calls k1 _ _ t165 a1_0 (rd t175 x34_1) t179 _ ?side1 ?side2 A23.out).mono ?_
                (case side1 => exact bc (Kd.V_reads' HO_6.out).2.2)
                (case side2 => exact (Kd.V_reads' HO_6.out).2.1)
                rintro e w28 ⟨rfl, hb⟩; refine ⟨_, rfl, ?_⟩; replace HO_6 := vb HO_6 hb; replace HO_32 := rb HO_32 hb; replace BK164 := bb BK164 hb; replace HB := sb HB hb; (try clear hb); refine hK.out _ _ cz (fun hH => ?_); clear hK K; refine nz 42 ?_; refine pZ 7 (some 45) #[true, true, true, true, true, true, true, true] HT_ ?_; refine done_ (done_of HT_.out (by kernel_rfl)) ?_
                try go_wp2
                go_loopg [8, 10] k1 (fun kq v8 v10 w' => ∃ (x8_2 : Int) (x10_2 : Int), v8 = .int .i64 x8_2 ∧ v10 = .int .i64 x10_2 ∧ Aside0 (L_UnsafeAt.l1 kq t165 x8_2 x10_2 a1_0 a1_1 = some (r1, r2)) ∧ Aside0 (kq ≤ k1) ∧ Aside0 (Kd.V k108 108 w' w.heap.size (fun k_ => k_ ≠ gb164) (.slice Ao17 t165.length co17) t165) ∧ Aside0 (w'.heap[gb164]? = some (.cells #[.int .i64 a1_0, .int .i64 a1_1] 24 (0, 0))) ∧ Aside0 (Below w.heap.size w w'))
                case atStart => exact ⟨(x8_1), (rd t175 x34_1), rz, rz, H', ⟨Nat.le_refl _⟩, ⟨by (with_reducible repeat (first | apply Kd.V_alloc | apply Kd.V_drewN | apply Kd.V_drew)); exact Kd.V_mono HO_6.out (fun _ hk => hk.2)⟩, ⟨bk BK164.out⟩, ⟨bz⟩⟩
                case round =>
                  clear H'
                  try clear hx1
                  try clear hx17
                  try clear hcz10_0
                  try clear hcz10_1
                  try clear hcz12_0
                  try clear hcz12_1
                  try clear hcz16_0
                  try clear hcz16_1
                  try clear hfz10_0
                  try clear hfz10_1
                  try clear hfz12_0
                  try clear hfz12_1
                  try clear hfz16_0
                  try clear hfz16_1
                  try clear hx178_0
                  obtain ⟨x8_2, x10_2, rfl, rfl, HA, HK2, HO_6, BK164, HB⟩ := hrel
                  cases gk with
                  | zero => exact absurd HA.out (by simp [L_UnsafeAt.l1])
                  | succ k2 =>
                    have H := HA.out; clear HA; simp only [L_UnsafeAt.l1] at H
                    by_cases c29 : (wrap64 (x10_2 - x8_2)) > 1
                    · rw [if_pos c29] at H; have c29b0 := decide_eq_true c29; clear c29; replace H := oa H; obtain ⟨t180, A30, H⟩ := H; (try dsimp only at H)
                      by_cases c31 : t180 > a1_1
                      · rw [if_pos c31] at H; have c31b0 := decide_eq_true c31; clear c31; have H' := m0 H; clear H
                        try go_wp2
                        replace HO_6 := m0 (Kd.V_drew HO_6.out); replace BK164 := bd BK164; replace HB := sd HB; refine start_ (n := 8) (S := fun w' => w'.cell? ⟨gb164, 0, none⟩ = some (.int .i64 a1_0) ∧ w'.cell? ⟨gb164, 1, none⟩ = some (.int .i64 a1_1)) (ds := []) _ (by kernel_rfl) rfl rfl cz (fun hH => ?_); refine with_tabW L_UnsafeAt.tab13 L_UnsafeAt.bits13 (fun HT_ HW_ => ?_); generalize wr.drew = w32 at HO_6 BK164 HB hH ⊢; refine pZ 0 (some 55) #[true, false, false, false, false, false, false, false] HT_ ?_; refine pZ 1 (some 56) #[true, true, false, false, false, false, false, false] HT_ ?_; refine pZ 3 (some 58) #[true, true, false, true, false, false, false, false] HT_ ?_; refine pZ 5 (some 60) #[true, true, false, true, false, true, false, false] HT_ ?_; refine takeZ 2 (some 57) #[true, true, true, true, false, true, false, false] (tw HT_ HW_) hH ?_; refine takeZ 6 (some 61) #[true, true, true, true, false, true, true, false] (tw HT_ HW_) hH ?_; refine oneZ 4 (some 59) #[true, true, true, true, true, true, true, false] (o1 HT_) fun K hK => ?_; refine gz Try.func67 #[.slice Ao17 t165.length co17, .int .i64 a1_0, .int .i64 (wrap64 (Int.tdiv (wrap64 (x8_2 + x10_2)) 2))] ?_
                        with_reducible refine (L_shots_in.calls k2 _ _ t165 a1_0 (wrap64 (Int.tdiv (wrap64 (x8_2 + x10_2)) 2)) t180 _ ?side1 ?side2 A30.out).mono ?_
                        (case side1 => exact bc (Kd.V_reads' HO_6.out).2.2)
                        (case side2 => exact (Kd.V_reads' HO_6.out).2.1)
                        rintro e w33 ⟨rfl, hb⟩; refine ⟨_, rfl, ?_⟩; replace HO_6 := vb HO_6 hb; replace BK164 := bb BK164 hb; replace HB := sb HB hb; (try clear hb); refine hK.out _ _ cz (fun hH => ?_); clear hK K; refine nz 59 ?_; refine pZ 7 (some 62) #[true, true, true, true, true, true, true, true] HT_ ?_; refine done_ (done_of HT_.out (by kernel_rfl)) ?_
                        try go_wp2
                        go_roundg k2
                        case measure => have := HK1.out; have := HK2.out; omega
                        case rel => exact ⟨(x8_2), (wrap64 (Int.tdiv (wrap64 (x8_2 + x10_2)) 2)), rz, rz, H', ⟨by have := HK1.out; have := HK2.out; omega⟩, ⟨by (with_reducible repeat (first | apply Kd.V_alloc | apply Kd.V_drewN | apply Kd.V_drew)); exact HO_6.out⟩, ⟨bk BK164.out⟩, ⟨bz⟩⟩
                      · rw [if_neg c31] at H; have c31b0 := decide_eq_false c31; clear c31; have H' := m0 H; clear H
                        try go_wp2
                        replace HO_6 := m0 (Kd.V_drew HO_6.out); replace BK164 := bd BK164; replace HB := sd HB; refine start_ (n := 8) (S := fun w' => w'.cell? ⟨gb164, 0, none⟩ = some (.int .i64 a1_0) ∧ w'.cell? ⟨gb164, 1, none⟩ = some (.int .i64 a1_1)) (ds := []) _ (by kernel_rfl) rfl rfl cz (fun hH => ?_); refine with_tabW L_UnsafeAt.tab13 L_UnsafeAt.bits13 (fun HT_ HW_ => ?_); generalize wr.drew = w34 at HO_6 BK164 HB hH ⊢; refine pZ 0 (some 55) #[true, false, false, false, false, false, false, false] HT_ ?_; refine pZ 1 (some 56) #[true, true, false, false, false, false, false, false] HT_ ?_; refine pZ 3 (some 58) #[true, true, false, true, false, false, false, false] HT_ ?_; refine pZ 5 (some 60) #[true, true, false, true, false, true, false, false] HT_ ?_; refine takeZ 2 (some 57) #[true, true, true, true, false, true, false, false] (tw HT_ HW_) hH ?_; refine takeZ 6 (some 61) #[true, true, true, true, false, true, true, false] (tw HT_ HW_) hH ?_; refine oneZ 4 (some 59) #[true, true, true, true, true, true, true, false] (o1 HT_) fun K hK => ?_; refine gz Try.func67 #[.slice Ao17 t165.length co17, .int .i64 a1_0, .int .i64 (wrap64 (Int.tdiv (wrap64 (x8_2 + x10_2)) 2))] ?_
                        with_reducible refine (L_shots_in.calls k2 _ _ t165 a1_0 (wrap64 (Int.tdiv (wrap64 (x8_2 + x10_2)) 2)) t180 _ ?side1 ?side2 A30.out).mono ?_
                        (case side1 => exact bc (Kd.V_reads' HO_6.out).2.2)
                        (case side2 => exact (Kd.V_reads' HO_6.out).2.1)
                        rintro e w35 ⟨rfl, hb⟩; refine ⟨_, rfl, ?_⟩; replace HO_6 := vb HO_6 hb; replace BK164 := bb BK164 hb; replace HB := sb HB hb; (try clear hb); refine hK.out _ _ cz (fun hH => ?_); clear hK K; refine nz 59 ?_; refine pZ 7 (some 62) #[true, true, true, true, true, true, true, true] HT_ ?_; refine done_ (done_of HT_.out (by kernel_rfl)) ?_
                        try go_wp2
                        go_roundg k2
                        case measure => have := HK1.out; have := HK2.out; omega
                        case rel => exact ⟨(wrap64 (Int.tdiv (wrap64 (x8_2 + x10_2)) 2)), (x10_2), rz, rz, H', ⟨by have := HK1.out; have := HK2.out; omega⟩, ⟨by (with_reducible repeat (first | apply Kd.V_alloc | apply Kd.V_drewN | apply Kd.V_drew)); exact HO_6.out⟩, ⟨bk BK164.out⟩, ⟨bz⟩⟩
                    · rw [if_neg c29] at H; have c29b0 := decide_eq_false c29; clear c29; simp only [Option.some.injEq, Prod.mk.injEq] at H; obtain ⟨rfl, rfl⟩ := H
                      go_wp2
                      go_ret2
                      exact ez
            · rw [if_neg c22] at H; exact absurd H (by simp)
          · rw [if_neg c21] at H; exact absurd H (by simp)
        · rw [if_neg c20] at H; have c20b0 := decide_eq_false c20; clear c20; simp only [Option.some.injEq, Prod.mk.injEq] at H; obtain ⟨rfl, rfl⟩ := H
          go_wp2
          go_ret2
          exact ez
  · rw [if_neg c7] at H; have c7b0 := beq_eq_false_iff_ne.mpr c7; have c7b1 := bne_iff_ne.mpr c7; simp only [Option.some.injEq, Prod.mk.injEq] at H; obtain ⟨rfl, rfl⟩ := H; go_enter Try.func14, Try.ntmps14
    go_wp2_with (first | ((with_reducible refine ga 3 rfl ?_); refine be 3 24 #[.int .i64 a1_0, .int .i64 a1_1] ?_; intro gb164 hg w36 hbox hb; have BK164 := m0 hbox; have GW164 := gw w hg; have GE164 := gw w hg; replace HB := sb HB hb; clear hb hbox hg; obtain ⟨_, _, _, _⟩ := b2 BK164) | ((with_reducible refine gc 65 rfl ?_); refine gl (some 16) Try.func65 #[.slice A0 l0.length c0, .int .i64 a1_0] ?_; (with_reducible refine (L_openShots.calls k (fun k_ => k_ < w.heap.size) _ _ l0 a1_0 t165 t168 _ ?side1 A3.out).mono ?_); (case side1 => exact Kd.V_mk HC0.out (Kd.F_below (Kd.C_F k108_heap HR0.out) bz)); rintro e w38 ⟨v166, rfl, ho0, hb⟩; refine ⟨_, rfl, ?_⟩; have HO167 := hv w (fun k_ => k_ ≠ gb164) ho0 (fun k_ hk_ => Or.elim hk_ (fun hs_ => fun e_ => Nat.not_le.2 hs_ (by rw [e_]; exact GW164.out)) (fb BK164 ·)); replace BK164 := bb BK164 hb; replace HB := sb HB hb; (try clear hb); (try clear ho0); obtain ⟨_, _, _, _⟩ := b2 BK164) | ((with_reducible refine gc 70 rfl ?_); refine gl (some 22) Try.func70 #[.int .i64 a1_1, .int .i64 0, .int .i64 1000000000000] ?_; (with_reducible refine (L_within.calls a1_1 0 1000000000000 t169 _ A4.out).mono ?_); rintro e w' ⟨rfl, ⟨nd, rfl⟩⟩; refine ⟨_, rfl, ?_⟩) | ((with_reducible refine gc 69 rfl ?_); refine gl (some 23) Try.func69 #[.bool t169, .int .i64 2] ?_; (with_reducible refine (L_unless.calls t169 2 t170 _ A5.out).mono ?_); rintro e w' ⟨rfl, ⟨nd, rfl⟩⟩; refine ⟨_, rfl, ?_⟩) | ((with_reducible refine ga 24 rfl ?_); refine Kd.R_lit (Kd.int .i64) _ 26 ?hg (N := 24) ?hd (xs := ([t168, t170] : List Int)) (inner := [.int .i64 t168, .int .i64 t170]) (ok := fun _ => True) (okp := fun _ => True) ?hr ?hp (fun _ hk => hk) trivial (Below.refl _ _) (Nat.le_refl _) (by simp) ?_; (case hd => rfl); (case hg => rfl); (case hr => first | (go_simp; done) | (go_simp; rfl)); (case hp => exact (Reps.one (ki t168) (Reps.one (ki t170) (Reps.none _ _)))); intro v172 w40 ho41 hb hg_ hnew_; clear hg_ hnew_; (first | rw [← Ny171.out] at ho41 | (simp only [Int.reduceToNat] at ho41; rw [← Ny171.out] at ho41)); replace HO167 := m0 (Kd.V_elder' (by (with_reducible repeat (first | apply Kd.V_alloc | apply Kd.V_drewN | apply Kd.V_drew)); exact HO167.out) (Kd.R_base ho41) hb); have HO173 := m0 (Kd.R_lower ho41 (below_size bz)); replace BK164 := bb BK164 hb; replace HB := sb HB hb; clear hb ho41; obtain ⟨Ao42, co42, eo42⟩ := Kd.R_slice HO173.out; subst eo42) | ((with_reducible refine gc 68 rfl ?_); refine gl (some 25) Try.func68 #[.slice Ao42 y171.length co42] ?_; (with_reducible refine (L_first.calls k _ _ y171 t174 _ ?side1 ?side2 A6.out).mono ?_); (case side1 => exact bc (Kd.R_reads' HO173.out).2.2); (case side2 => exact (Kd.R_reads' HO173.out).2.1); rintro e w' ⟨rfl, ⟨nd, rfl⟩⟩; refine ⟨_, rfl, ?_⟩))
    go_ret2
    exact ez
end
section
def L_isHeight.f (a0 : Int) : Option (Bool) := (L_within.f a0 0 20000).bind fun t181 => (some t181)
theorem L_isHeight.calls (a0 : Int) (r : Bool) (w : World) (H : L_isHeight.f a0 = some r) :
  Calls Try.prog 75 #[.int .i64 a0] w fun e w' => e = .returned (.bool r) ∧ Drawn0 w w' := by
 unfold L_isHeight.f at H; replace H := oa H; obtain ⟨t181, A2, H⟩ := H; (try dsimp only at H); obtain rfl := Option.some.inj H; go_enter Try.func75, Try.ntmps75
 go_wp2_with (first | ((with_reducible refine gc 70 rfl ?_); refine gl (some 4) Try.func70 #[.int .i64 a0, .int .i64 0, .int .i64 20000] ?_; (with_reducible refine (L_within.calls a0 0 20000 t181 _ A2.out).mono ?_); rintro e w' ⟨rfl, ⟨nd, rfl⟩⟩; refine ⟨_, rfl, ?_⟩))
 go_ret
 exact ⟨rz, by repeat (first | exact Drawn0.refl _ | apply Drawn0.step)⟩
end
end Go.Proofs.Yteiafijbgjgiaaa.A
