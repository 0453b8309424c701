/- Walks of the program's functions (printed, made shorter), each with what it computes. -/
import Derived.Test.YtjnkphmcndaijaaDoorDts04
import Derived.Test.YtjnkphmcndaijaaDoorDts08
import Derived.Test.YtjnkphmcndaijaaDoorDts03
namespace Go.Proofs.YtjnkphmcndaijaaDoor.A
set_option maxHeartbeats 8000000
set_option maxRecDepth 100000
open Go.RowKit Go.Proofs.YtjnkphmcndaijaaDoorW.PrintWords Go.Proofs.YtjnkphmcndaijaaDoorW.PrintLast Go.Proofs.YtjnkphmcndaijaaDoorW.PrintMore
attribute [local go_sem] max2_int min2_int max_two min_two max_three min_three max_four min_four
set_option linter.unusedVariables false
set_option linter.unusedSimpArgs false
section
def line_QualityOf.f (k : Nat) (l0 : List Int) (a1 : Int) : Option (Int × Int × Int) := (line_open.f l0).bind fun bt1141 => ((line_within.f a1 0 (wrap64 ((l0.length : Int) - 1))).bind fun t1145 => ((line_unless.f t1145 6).bind fun t1146 => ((line_first.f k (([bt1141.2, t1146] : List Int))).bind fun t1150 => (if t1150 = 0 then ((line_sum.f k bt1141.1).bind fun t1151 => (if 0 ≤ a1 then (if a1 < (bt1141.1.length : Int) then (if (wrap64 (t1151 - (rd bt1141.1 a1))) = 0 then (some (0, 0, 11)) else ((line_fraction.f k (wrap64 ((rd bt1141.1 a1) * (wrap64 ((bt1141.1.length : Int) - 1)))) (wrap64 (t1151 - (rd bt1141.1 a1)))).bind fun bt1154 => (some (bt1154.1, bt1154.2, 0)))) else (none)) else (none))) else (some (0, 0, t1150))))))
theorem line_QualityOf.mono : ∀ a0 a1 k, LeO (line_QualityOf.f k a0 a1) (line_QualityOf.f (k + 1) a0 a1) := by
 intro a0 a1 k
 unfold line_QualityOf.f
 repeat' first
   | (with_reducible exact line_first.mono _ _)
   | (with_reducible exact line_fraction.mono _ _ _)
   | (with_reducible exact line_sum.mono _ _)
   | (with_reducible exact LeO.refl _)
   | (with_reducible exact LeO.none _)
   | (with_reducible refine LeO.ite ?_ ?_)
   | (with_reducible refine LeO.bind ?_ (fun _ => ?_))
   | exact line_first.mono _ _
   | exact line_fraction.mono _ _ _
   | exact line_sum.mono _ _
   | exact LeO.none _
   | refine LeO.ite ?_ ?_
   | refine LeO.bind ?_ (fun _ => ?_)
theorem line_QualityOf.calls (k : Nat) (A0 : Option Addr) (c0 : Nat) (l0 : List Int) (a1 : Int) (r1 : Int) (r2 : Int) (r3 : Int) (w : World) (hr0 : Kd.C (Kd.int .i64) w A0 l0.length l0) (hc0 : l0.length ≤ c0) (h : line_QualityOf.f k l0 a1 = some (r1, r2, r3)) :
  Calls Tryd.prog 63 #[.slice A0 l0.length c0, .int .i64 a1] w fun e w' => e = .returned (.tuple #[.agg #[.int .i64 r1, .int .i64 r2], .int .i64 r3]) ∧ Below w.heap.size w w' := by
 have hu26 := Tryd.underlying26
 have HR0 := m0 hr0
 have HC0 := m0 hc0
 clear hr0 hc0
 have HB := m0 (Below.refl w.heap.size w)
 have H : ((line_open.f l0).bind fun bt1141 => ((line_within.f a1 0 (wrap64 ((l0.length : Int) - 1))).bind fun t1145 => ((line_unless.f t1145 6).bind fun t1146 => ((line_first.f k (([bt1141.2, t1146] : List Int))).bind fun t1150 => (if t1150 = 0 then ((line_sum.f k bt1141.1).bind fun t1151 => (if 0 ≤ a1 then (if a1 < (bt1141.1.length : Int) then (if (wrap64 (t1151 - (rd bt1141.1 a1))) = 0 then (some (0, 0, 11)) else ((line_fraction.f k (wrap64 ((rd bt1141.1 a1) * (wrap64 ((bt1141.1.length : Int) - 1)))) (wrap64 (t1151 - (rd bt1141.1 a1)))).bind fun bt1154 => (some (bt1154.1, bt1154.2, 0)))) else (none)) else (none))) else (some (0, 0, t1150))))))) = some (r1, r2, r3) := h
 clear h
 replace H := ob H
 obtain ⟨⟨t1141, t1144⟩, A30, H⟩ := H
 (try dsimp only at H)
 have A3 := m0 A30
 clear A30
 replace H := ob H
 obtain ⟨t1145, A40, H⟩ := H
 (try dsimp only at H)
 have A4 := m0 A40
 clear A40
 replace H := ob H
 obtain ⟨t1146, A50, H⟩ := H
 (try dsimp only at H)
 have A5 := m0 A50
 clear A50
 obtain ⟨y1147, hy1147⟩ : ∃ y_ : List Int, y_ = (([t1144, t1146] : List Int)) := ⟨_, rfl⟩
 replace H : ((line_first.f k y1147).bind fun t1150 => (if t1150 = 0 then ((line_sum.f k t1141).bind fun t1151 => (if 0 ≤ a1 then (if a1 < (t1141.length : Int) then (if (wrap64 (t1151 - (rd t1141 a1))) = 0 then (some (0, 0, 11)) else ((line_fraction.f k (wrap64 ((rd t1141 a1) * (wrap64 ((t1141.length : Int) - 1)))) (wrap64 (t1151 - (rd t1141 a1)))).bind fun bt1154 => (some (bt1154.1, bt1154.2, 0)))) else (none)) else (none))) else (some (0, 0, t1150)))) = some (r1, r2, r3) := by first | (rw [hy1147]; with_reducible exact H) | (have H2_ := (Option.bind_some _ _).symm.trans H; rw [hy1147]; with_reducible exact H2_) | (have H2_ := (Option.bind_some _ _).symm.trans H; with_reducible exact H2_) | with_reducible exact H | (rw [hy1147]; exact H) | exact H
 have Ny1147 := m0 hy1147
 clear hy1147
 replace H := ob H
 obtain ⟨t1150, A60, H⟩ := H
 (try dsimp only at H)
 have A6 := m0 A60
 clear A60
 by_cases c7 : t1150 = 0
 ·rw [if_pos c7] at H
  have c7b0 := beq_iff_eq.mpr c7
  have c7b1 := bne_eq_false_iff_eq.mpr c7
  clear c7
  replace H := ob H
  obtain ⟨t1151, A80, H⟩ := H
  (try dsimp only at H)
  have A8 := m0 A80
  clear A80
  by_cases c9 : 0 ≤ a1
  ·rw [if_pos c9] at H
   have c9b0 := decide_eq_true c9
   clear c9
   by_cases c10 : a1 < (t1141.length : Int)
   ·rw [if_pos c10] at H
    have c10b0 := decide_eq_true c10
    clear c10
    by_cases c11 : (wrap64 (t1151 - (rd t1141 a1))) = 0
    ·rw [if_pos c11] at H
     have c11b0 := beq_iff_eq.mpr c11
     have c11b1 := bne_eq_false_iff_eq.mpr c11
     clear c11
     simp only [Option.some.injEq, Prod.mk.injEq] at H
     obtain ⟨rfl, rfl, rfl⟩ := H
     go_enter Tryd.func63, Tryd.ntmps63
     go_wp2_with (first | ((with_reducible refine gate_dst (N := 4) rfl ?_); refine be 4 26 #[.int .i64 0, .int .i64 0] ?_; intro gb1140 hg w12 hbox hb; have BK1140 := m0 hbox; have GW1140 := m0 (bg (n := w.heap.size) hg); have GE1140 := m0 (bg (n := w.heap.size) hg); replace HB := sb HB hb; clear hb hbox hg) | (go_at_call 102; (with_reducible refine (line_open.calls (fun k_ => k_ < w.heap.size) _ _ l0 t1141 t1144 _ ?side1 A3.out).mono ?_); (case side1 => exact Kd.V_mk HC0.out (Kd.F_below (Kd.C_F (Kd.heap_int .i64) HR0.out) bz)); rintro e w13 ⟨v1142, rfl, ho0, hb⟩; have HO1143 := m0 (Kd.V_lower (Kd.V_mono (ok' := fun k_ => k_ ≠ gb1140) ho0 (fun k_ hk_ => Or.elim hk_ (fun hs_ => fun e_ => Nat.not_le.2 hs_ (by rw [e_]; exact GW1140.out)) (fun hn_ => (Kd.freshB (g := gb1140) (o := .cells #[.int .i64 0, .int .i64 0] 26 (0, 0)) (bk BK1140.out) k_ hn_)))) (below_size bz)); replace BK1140 := bb BK1140 hb; replace HB := sb HB hb; (try clear hb); (try clear ho0)) | (go_at_call 105; (with_reducible refine (line_within.calls a1 0 (wrap64 ((l0.length : Int) - 1)) t1145 _ A4.out).mono ?_); rintro e w' ⟨rfl, ⟨nd, rfl⟩⟩; (try first | exact ⟨rfl, _, World.drewN_drewN _ _ _⟩ | exact ⟨rfl, _, Eq.trans (World.drewN_drewN _ _ _) (congrArg (World.drewN _) (Nat.add_assoc _ _ _))⟩)) | (go_at_call 93; (with_reducible refine (line_unless.calls t1145 6 t1146 _ A5.out).mono ?_); rintro e w' ⟨rfl, ⟨nd, rfl⟩⟩; (try first | exact ⟨rfl, _, World.drewN_drewN _ _ _⟩ | exact ⟨rfl, _, Eq.trans (World.drewN_drewN _ _ _) (congrArg (World.drewN _) (Nat.add_assoc _ _ _))⟩)) | ((with_reducible refine gate_dst (N := 21) rfl ?_); refine Kd.R_lit (Kd.int .i64) _ 31 ?hg (N := 21) ?hd (xs := ([t1144, t1146] : List Int)) (inner := [.int .i64 t1144, .int .i64 t1146]) (ok := fun _ => True) (okp := fun _ => True) ?hr ?hp (fun _ hk => hk) trivial (Below.refl _ _) (Nat.le_refl _) (by simp) ?_; (case hd => rfl); (case hg => rfl); (case hr => first | (go_simp; done) | (go_simp; rfl)); (case hp => exact (Reps.one (show Kd.M (Kd.int .i64) _ _ _ t1144 [.int .i64 t1144] from rfl) (Reps.one (show Kd.M (Kd.int .i64) _ _ _ t1146 [.int .i64 t1146] from rfl) (Reps.none _ _)))); intro v1148 w14 ho15 hb hg_ hnew_; clear hg_ hnew_; (first | rw [← Ny1147.out] at ho15 | (simp only [Int.reduceToNat] at ho15; rw [← Ny1147.out] at ho15)); replace HO1143 := m0 (Kd.V_elder' (by (with_reducible repeat (first | apply Kd.V_alloc | apply Kd.V_drewN | apply Kd.V_drew)); exact HO1143.out) (Kd.R_base ho15) hb); have HO1149 := m0 (Kd.R_lower ho15 (below_size bz)); replace BK1140 := bb BK1140 hb; replace HB := sb HB hb; clear hb ho15; obtain ⟨Ao16, co16, eo16⟩ := Kd.R_slice HO1149.out; subst eo16) | (go_at_call 91; (with_reducible refine (line_first.calls k _ _ y1147 t1150 _ ?side1 ?side2 A6.out).mono ?_); (case side1 => exact bc (Kd.R_reads' HO1149.out).2.2); (case side2 => exact (Kd.R_reads' HO1149.out).2.1); rintro e w' ⟨rfl, ⟨nd, rfl⟩⟩; (try first | exact ⟨rfl, _, World.drewN_drewN _ _ _⟩ | exact ⟨rfl, _, Eq.trans (World.drewN_drewN _ _ _) (congrArg (World.drewN _) (Nat.add_assoc _ _ _))⟩); obtain ⟨Ao17, co17, eo17⟩ := Kd.V_slice HO1143.out; subst eo17) | (go_at_call 125; (with_reducible refine (line_sum.calls k _ _ t1141 t1151 _ ?side1 ?side2 A8.out).mono ?_); (case side1 => repeat (first | exact (Kd.V_reads' HO1143.out).2.2 | (with_reducible refine Kd.C_alloc ?_ _) | (with_reducible refine Kd.C_drewN ?_ _) | (with_reducible refine Kd.C_drew ?_))); (case side2 => exact (Kd.V_reads' HO1143.out).2.1); rintro e w' ⟨rfl, ⟨nd, rfl⟩⟩; (try first | exact ⟨rfl, _, World.drewN_drewN _ _ _⟩ | exact ⟨rfl, _, Eq.trans (World.drewN_drewN _ _ _) (congrArg (World.drewN _) (Nat.add_assoc _ _ _))⟩); have p1152 : 0 ≤ (a1 : Int) := of_decide_eq_true (by first | (with_reducible assumption) | assumption); have q1152 : a1 < (t1141.length : Int) := of_decide_eq_true (by first | (with_reducible assumption) | assumption); obtain ⟨ad1152, e1152, hx1152_0⟩ := Kd.at_int (Kd.V_reads' HO1143.out).2.2 a1 p1152 q1152; cases e1152; replace p1152 := eq_true p1152; replace q1152 := eq_true q1152; obtain ⟨hcz18_0, hcz18_1, hfz18_0, hfz18_1⟩ := b2 BK1140))
     repeat (go_quiet (first | ((with_reducible refine gate_dst (N := 4) rfl ?_); refine be 4 26 #[.int .i64 0, .int .i64 0] ?_; intro gb1140 hg w12 hbox hb; have BK1140 := m0 hbox; have GW1140 := m0 (bg (n := w.heap.size) hg); have GE1140 := m0 (bg (n := w.heap.size) hg); replace HB := sb HB hb; clear hb hbox hg) | (go_at_call 102; (with_reducible refine (line_open.calls (fun k_ => k_ < w.heap.size) _ _ l0 t1141 t1144 _ ?side1 A3.out).mono ?_); (case side1 => exact Kd.V_mk HC0.out (Kd.F_below (Kd.C_F (Kd.heap_int .i64) HR0.out) bz)); rintro e w13 ⟨v1142, rfl, ho0, hb⟩; have HO1143 := m0 (Kd.V_lower (Kd.V_mono (ok' := fun k_ => k_ ≠ gb1140) ho0 (fun k_ hk_ => Or.elim hk_ (fun hs_ => fun e_ => Nat.not_le.2 hs_ (by rw [e_]; exact GW1140.out)) (fun hn_ => (Kd.freshB (g := gb1140) (o := .cells #[.int .i64 0, .int .i64 0] 26 (0, 0)) (bk BK1140.out) k_ hn_)))) (below_size bz)); replace BK1140 := bb BK1140 hb; replace HB := sb HB hb; (try clear hb); (try clear ho0)) | (go_at_call 105; (with_reducible refine (line_within.calls a1 0 (wrap64 ((l0.length : Int) - 1)) t1145 _ A4.out).mono ?_); rintro e w' ⟨rfl, ⟨nd, rfl⟩⟩; (try first | exact ⟨rfl, _, World.drewN_drewN _ _ _⟩ | exact ⟨rfl, _, Eq.trans (World.drewN_drewN _ _ _) (congrArg (World.drewN _) (Nat.add_assoc _ _ _))⟩)) | (go_at_call 93; (with_reducible refine (line_unless.calls t1145 6 t1146 _ A5.out).mono ?_); rintro e w' ⟨rfl, ⟨nd, rfl⟩⟩; (try first | exact ⟨rfl, _, World.drewN_drewN _ _ _⟩ | exact ⟨rfl, _, Eq.trans (World.drewN_drewN _ _ _) (congrArg (World.drewN _) (Nat.add_assoc _ _ _))⟩)) | ((with_reducible refine gate_dst (N := 21) rfl ?_); refine Kd.R_lit (Kd.int .i64) _ 31 ?hg (N := 21) ?hd (xs := ([t1144, t1146] : List Int)) (inner := [.int .i64 t1144, .int .i64 t1146]) (ok := fun _ => True) (okp := fun _ => True) ?hr ?hp (fun _ hk => hk) trivial (Below.refl _ _) (Nat.le_refl _) (by simp) ?_; (case hd => rfl); (case hg => rfl); (case hr => first | (go_simp; done) | (go_simp; rfl)); (case hp => exact (Reps.one (show Kd.M (Kd.int .i64) _ _ _ t1144 [.int .i64 t1144] from rfl) (Reps.one (show Kd.M (Kd.int .i64) _ _ _ t1146 [.int .i64 t1146] from rfl) (Reps.none _ _)))); intro v1148 w14 ho15 hb hg_ hnew_; clear hg_ hnew_; (first | rw [← Ny1147.out] at ho15 | (simp only [Int.reduceToNat] at ho15; rw [← Ny1147.out] at ho15)); replace HO1143 := m0 (Kd.V_elder' (by (with_reducible repeat (first | apply Kd.V_alloc | apply Kd.V_drewN | apply Kd.V_drew)); exact HO1143.out) (Kd.R_base ho15) hb); have HO1149 := m0 (Kd.R_lower ho15 (below_size bz)); replace BK1140 := bb BK1140 hb; replace HB := sb HB hb; clear hb ho15; obtain ⟨Ao16, co16, eo16⟩ := Kd.R_slice HO1149.out; subst eo16) | (go_at_call 91; (with_reducible refine (line_first.calls k _ _ y1147 t1150 _ ?side1 ?side2 A6.out).mono ?_); (case side1 => exact bc (Kd.R_reads' HO1149.out).2.2); (case side2 => exact (Kd.R_reads' HO1149.out).2.1); rintro e w' ⟨rfl, ⟨nd, rfl⟩⟩; (try first | exact ⟨rfl, _, World.drewN_drewN _ _ _⟩ | exact ⟨rfl, _, Eq.trans (World.drewN_drewN _ _ _) (congrArg (World.drewN _) (Nat.add_assoc _ _ _))⟩); obtain ⟨Ao17, co17, eo17⟩ := Kd.V_slice HO1143.out; subst eo17) | (go_at_call 125; (with_reducible refine (line_sum.calls k _ _ t1141 t1151 _ ?side1 ?side2 A8.out).mono ?_); (case side1 => repeat (first | exact (Kd.V_reads' HO1143.out).2.2 | (with_reducible refine Kd.C_alloc ?_ _) | (with_reducible refine Kd.C_drewN ?_ _) | (with_reducible refine Kd.C_drew ?_))); (case side2 => exact (Kd.V_reads' HO1143.out).2.1); rintro e w' ⟨rfl, ⟨nd, rfl⟩⟩; (try first | exact ⟨rfl, _, World.drewN_drewN _ _ _⟩ | exact ⟨rfl, _, Eq.trans (World.drewN_drewN _ _ _) (congrArg (World.drewN _) (Nat.add_assoc _ _ _))⟩); have p1152 : 0 ≤ (a1 : Int) := of_decide_eq_true (by first | (with_reducible assumption) | assumption); have q1152 : a1 < (t1141.length : Int) := of_decide_eq_true (by first | (with_reducible assumption) | assumption); obtain ⟨ad1152, e1152, hx1152_0⟩ := Kd.at_int (Kd.V_reads' HO1143.out).2.2 a1 p1152 q1152; cases e1152; replace p1152 := eq_true p1152; replace q1152 := eq_true q1152; obtain ⟨hcz18_0, hcz18_1, hfz18_0, hfz18_1⟩ := b2 BK1140)); try go_wp2_with (first | ((with_reducible refine gate_dst (N := 4) rfl ?_); refine be 4 26 #[.int .i64 0, .int .i64 0] ?_; intro gb1140 hg w12 hbox hb; have BK1140 := m0 hbox; have GW1140 := m0 (bg (n := w.heap.size) hg); have GE1140 := m0 (bg (n := w.heap.size) hg); replace HB := sb HB hb; clear hb hbox hg) | (go_at_call 102; (with_reducible refine (line_open.calls (fun k_ => k_ < w.heap.size) _ _ l0 t1141 t1144 _ ?side1 A3.out).mono ?_); (case side1 => exact Kd.V_mk HC0.out (Kd.F_below (Kd.C_F (Kd.heap_int .i64) HR0.out) bz)); rintro e w13 ⟨v1142, rfl, ho0, hb⟩; have HO1143 := m0 (Kd.V_lower (Kd.V_mono (ok' := fun k_ => k_ ≠ gb1140) ho0 (fun k_ hk_ => Or.elim hk_ (fun hs_ => fun e_ => Nat.not_le.2 hs_ (by rw [e_]; exact GW1140.out)) (fun hn_ => (Kd.freshB (g := gb1140) (o := .cells #[.int .i64 0, .int .i64 0] 26 (0, 0)) (bk BK1140.out) k_ hn_)))) (below_size bz)); replace BK1140 := bb BK1140 hb; replace HB := sb HB hb; (try clear hb); (try clear ho0)) | (go_at_call 105; (with_reducible refine (line_within.calls a1 0 (wrap64 ((l0.length : Int) - 1)) t1145 _ A4.out).mono ?_); rintro e w' ⟨rfl, ⟨nd, rfl⟩⟩; (try first | exact ⟨rfl, _, World.drewN_drewN _ _ _⟩ | exact ⟨rfl, _, Eq.trans (World.drewN_drewN _ _ _) (congrArg (World.drewN _) (Nat.add_assoc _ _ _))⟩)) | (go_at_call 93; (with_reducible refine (line_unless.calls t1145 6 t1146 _ A5.out).mono ?_); rintro e w' ⟨rfl, ⟨nd, rfl⟩⟩; (try first | exact ⟨rfl, _, World.drewN_drewN _ _ _⟩ | exact ⟨rfl, _, Eq.trans (World.drewN_drewN _ _ _) (congrArg (World.drewN _) (Nat.add_assoc _ _ _))⟩)) | ((with_reducible refine gate_dst (N := 21) rfl ?_); refine Kd.R_lit (Kd.int .i64) _ 31 ?hg (N := 21) ?hd (xs := ([t1144, t1146] : List Int)) (inner := [.int .i64 t1144, .int .i64 t1146]) (ok := fun _ => True) (okp := fun _ => True) ?hr ?hp (fun _ hk => hk) trivial (Below.refl _ _) (Nat.le_refl _) (by simp) ?_; (case hd => rfl); (case hg => rfl); (case hr => first | (go_simp; done) | (go_simp; rfl)); (case hp => exact (Reps.one (show Kd.M (Kd.int .i64) _ _ _ t1144 [.int .i64 t1144] from rfl) (Reps.one (show Kd.M (Kd.int .i64) _ _ _ t1146 [.int .i64 t1146] from rfl) (Reps.none _ _)))); intro v1148 w14 ho15 hb hg_ hnew_; clear hg_ hnew_; (first | rw [← Ny1147.out] at ho15 | (simp only [Int.reduceToNat] at ho15; rw [← Ny1147.out] at ho15)); replace HO1143 := m0 (Kd.V_elder' (by (with_reducible repeat (first | apply Kd.V_alloc | apply Kd.V_drewN | apply Kd.V_drew)); exact HO1143.out) (Kd.R_base ho15) hb); have HO1149 := m0 (Kd.R_lower ho15 (below_size bz)); replace BK1140 := bb BK1140 hb; replace HB := sb HB hb; clear hb ho15; obtain ⟨Ao16, co16, eo16⟩ := Kd.R_slice HO1149.out; subst eo16) | (go_at_call 91; (with_reducible refine (line_first.calls k _ _ y1147 t1150 _ ?side1 ?side2 A6.out).mono ?_); (case side1 => exact bc (Kd.R_reads' HO1149.out).2.2); (case side2 => exact (Kd.R_reads' HO1149.out).2.1); rintro e w' ⟨rfl, ⟨nd, rfl⟩⟩; (try first | exact ⟨rfl, _, World.drewN_drewN _ _ _⟩ | exact ⟨rfl, _, Eq.trans (World.drewN_drewN _ _ _) (congrArg (World.drewN _) (Nat.add_assoc _ _ _))⟩); obtain ⟨Ao17, co17, eo17⟩ := Kd.V_slice HO1143.out; subst eo17) | (go_at_call 125; (with_reducible refine (line_sum.calls k _ _ t1141 t1151 _ ?side1 ?side2 A8.out).mono ?_); (case side1 => repeat (first | exact (Kd.V_reads' HO1143.out).2.2 | (with_reducible refine Kd.C_alloc ?_ _) | (with_reducible refine Kd.C_drewN ?_ _) | (with_reducible refine Kd.C_drew ?_))); (case side2 => exact (Kd.V_reads' HO1143.out).2.1); rintro e w' ⟨rfl, ⟨nd, rfl⟩⟩; (try first | exact ⟨rfl, _, World.drewN_drewN _ _ _⟩ | exact ⟨rfl, _, Eq.trans (World.drewN_drewN _ _ _) (congrArg (World.drewN _) (Nat.add_assoc _ _ _))⟩); have p1152 : 0 ≤ (a1 : Int) := of_decide_eq_true (by first | (with_reducible assumption) | assumption); have q1152 : a1 < (t1141.length : Int) := of_decide_eq_true (by first | (with_reducible assumption) | assumption); obtain ⟨ad1152, e1152, hx1152_0⟩ := Kd.at_int (Kd.V_reads' HO1143.out).2.2 a1 p1152 q1152; cases e1152; replace p1152 := eq_true p1152; replace q1152 := eq_true q1152; obtain ⟨hcz18_0, hcz18_1, hfz18_0, hfz18_1⟩ := b2 BK1140)))
     refine bodyPost_ret (results_ct rfl _ _ gb1140 26 #[.int .i64 0, .int .i64 0] (0, 0) _ rfl (bq BK1140.out) Tryd.underlying26 rfl (by kernel_rfl)) rfl ?_
     exact ez
    ·rw [if_neg c11] at H
     have c11b0 := beq_eq_false_iff_ne.mpr c11
     have c11b1 := bne_iff_ne.mpr c11
     replace H := ob H
     obtain ⟨⟨t1154, t1155⟩, A190, H⟩ := H
     (try dsimp only at H)
     have A19 := m0 A190
     clear A190
     simp only [Option.some.injEq, Prod.mk.injEq] at H
     obtain ⟨rfl, rfl, rfl⟩ := H
     go_enter Tryd.func63, Tryd.ntmps63
     go_wp2_with (first | ((with_reducible refine gate_dst (N := 4) rfl ?_); refine be 4 26 #[.int .i64 0, .int .i64 0] ?_; intro gb1140 hg w20 hbox hb; have BK1140 := m0 hbox; have GW1140 := m0 (bg (n := w.heap.size) hg); have GE1140 := m0 (bg (n := w.heap.size) hg); replace HB := sb HB hb; clear hb hbox hg) | (go_at_call 102; (with_reducible refine (line_open.calls (fun k_ => k_ < w.heap.size) _ _ l0 t1141 t1144 _ ?side1 A3.out).mono ?_); (case side1 => exact Kd.V_mk HC0.out (Kd.F_below (Kd.C_F (Kd.heap_int .i64) HR0.out) bz)); rintro e w21 ⟨v1142, rfl, ho0, hb⟩; have HO1143 := m0 (Kd.V_lower (Kd.V_mono (ok' := fun k_ => k_ ≠ gb1140) ho0 (fun k_ hk_ => Or.elim hk_ (fun hs_ => fun e_ => Nat.not_le.2 hs_ (by rw [e_]; exact GW1140.out)) (fun hn_ => (Kd.freshB (g := gb1140) (o := .cells #[.int .i64 0, .int .i64 0] 26 (0, 0)) (bk BK1140.out) k_ hn_)))) (below_size bz)); replace BK1140 := bb BK1140 hb; replace HB := sb HB hb; (try clear hb); (try clear ho0)) | (go_at_call 105; (with_reducible refine (line_within.calls a1 0 (wrap64 ((l0.length : Int) - 1)) t1145 _ A4.out).mono ?_); rintro e w' ⟨rfl, ⟨nd, rfl⟩⟩; (try first | exact ⟨rfl, _, World.drewN_drewN _ _ _⟩ | exact ⟨rfl, _, Eq.trans (World.drewN_drewN _ _ _) (congrArg (World.drewN _) (Nat.add_assoc _ _ _))⟩)) | (go_at_call 93; (with_reducible refine (line_unless.calls t1145 6 t1146 _ A5.out).mono ?_); rintro e w' ⟨rfl, ⟨nd, rfl⟩⟩; (try first | exact ⟨rfl, _, World.drewN_drewN _ _ _⟩ | exact ⟨rfl, _, Eq.trans (World.drewN_drewN _ _ _) (congrArg (World.drewN _) (Nat.add_assoc _ _ _))⟩)) | ((with_reducible refine gate_dst (N := 21) rfl ?_); refine Kd.R_lit (Kd.int .i64) _ 31 ?hg (N := 21) ?hd (xs := ([t1144, t1146] : List Int)) (inner := [.int .i64 t1144, .int .i64 t1146]) (ok := fun _ => True) (okp := fun _ => True) ?hr ?hp (fun _ hk => hk) trivial (Below.refl _ _) (Nat.le_refl _) (by simp) ?_; (case hd => rfl); (case hg => rfl); (case hr => first | (go_simp; done) | (go_simp; rfl)); (case hp => exact (Reps.one (show Kd.M (Kd.int .i64) _ _ _ t1144 [.int .i64 t1144] from rfl) (Reps.one (show Kd.M (Kd.int .i64) _ _ _ t1146 [.int .i64 t1146] from rfl) (Reps.none _ _)))); intro v1148 w22 ho23 hb hg_ hnew_; clear hg_ hnew_; (first | rw [← Ny1147.out] at ho23 | (simp only [Int.reduceToNat] at ho23; rw [← Ny1147.out] at ho23)); replace HO1143 := m0 (Kd.V_elder' (by (with_reducible repeat (first | apply Kd.V_alloc | apply Kd.V_drewN | apply Kd.V_drew)); exact HO1143.out) (Kd.R_base ho23) hb); have HO1149 := m0 (Kd.R_lower ho23 (below_size bz)); replace BK1140 := bb BK1140 hb; replace HB := sb HB hb; clear hb ho23; obtain ⟨Ao24, co24, eo24⟩ := Kd.R_slice HO1149.out; subst eo24) | (go_at_call 91; (with_reducible refine (line_first.calls k _ _ y1147 t1150 _ ?side1 ?side2 A6.out).mono ?_); (case side1 => exact bc (Kd.R_reads' HO1149.out).2.2); (case side2 => exact (Kd.R_reads' HO1149.out).2.1); rintro e w' ⟨rfl, ⟨nd, rfl⟩⟩; (try first | exact ⟨rfl, _, World.drewN_drewN _ _ _⟩ | exact ⟨rfl, _, Eq.trans (World.drewN_drewN _ _ _) (congrArg (World.drewN _) (Nat.add_assoc _ _ _))⟩); obtain ⟨Ao25, co25, eo25⟩ := Kd.V_slice HO1143.out; subst eo25) | (go_at_call 125; (with_reducible refine (line_sum.calls k _ _ t1141 t1151 _ ?side1 ?side2 A8.out).mono ?_); (case side1 => repeat (first | exact (Kd.V_reads' HO1143.out).2.2 | (with_reducible refine Kd.C_alloc ?_ _) | (with_reducible refine Kd.C_drewN ?_ _) | (with_reducible refine Kd.C_drew ?_))); (case side2 => exact (Kd.V_reads' HO1143.out).2.1); rintro e w' ⟨rfl, ⟨nd, rfl⟩⟩; (try first | exact ⟨rfl, _, World.drewN_drewN _ _ _⟩ | exact ⟨rfl, _, Eq.trans (World.drewN_drewN _ _ _) (congrArg (World.drewN _) (Nat.add_assoc _ _ _))⟩); have p1152 : 0 ≤ (a1 : Int) := of_decide_eq_true (by first | (with_reducible assumption) | assumption); have q1152 : a1 < (t1141.length : Int) := of_decide_eq_true (by first | (with_reducible assumption) | assumption); obtain ⟨ad1152, e1152, hx1152_0⟩ := Kd.at_int (Kd.V_reads' HO1143.out).2.2 a1 p1152 q1152; cases e1152; replace p1152 := eq_true p1152; replace q1152 := eq_true q1152; have p1153 : 0 ≤ (a1 : Int) := of_decide_eq_true (by first | (with_reducible assumption) | assumption); have q1153 : a1 < (t1141.length : Int) := of_decide_eq_true (by first | (with_reducible assumption) | assumption); obtain ⟨ad1153, e1153, hx1153_0⟩ := Kd.at_int (Kd.V_reads' HO1143.out).2.2 a1 p1153 q1153; obtain rfl : ad1152 = ad1153 := (by injection e1153); replace p1153 := eq_true p1153; replace q1153 := eq_true q1153) | (go_at_call 96; (with_reducible refine (line_fraction.calls k (wrap64 ((rd t1141 a1) * (wrap64 ((t1141.length : Int) - 1)))) (wrap64 (t1151 - (rd t1141 a1))) t1154 t1155 _ A19.out).mono ?_); rintro e w26 ⟨rfl, hb⟩; replace HO1143 := m0 (Kd.V_below (by (with_reducible repeat (first | apply Kd.V_alloc | apply Kd.V_drewN | apply Kd.V_drew)); exact HO1143.out) hb); replace HO1149 := rb HO1149 hb; replace BK1140 := bb BK1140 hb; replace HB := sb HB hb; (try clear hb); obtain ⟨hcz27_0, hcz27_1, hfz27_0, hfz27_1⟩ := b2 BK1140))
     repeat (go_quiet (first | ((with_reducible refine gate_dst (N := 4) rfl ?_); refine be 4 26 #[.int .i64 0, .int .i64 0] ?_; intro gb1140 hg w20 hbox hb; have BK1140 := m0 hbox; have GW1140 := m0 (bg (n := w.heap.size) hg); have GE1140 := m0 (bg (n := w.heap.size) hg); replace HB := sb HB hb; clear hb hbox hg) | (go_at_call 102; (with_reducible refine (line_open.calls (fun k_ => k_ < w.heap.size) _ _ l0 t1141 t1144 _ ?side1 A3.out).mono ?_); (case side1 => exact Kd.V_mk HC0.out (Kd.F_below (Kd.C_F (Kd.heap_int .i64) HR0.out) bz)); rintro e w21 ⟨v1142, rfl, ho0, hb⟩; have HO1143 := m0 (Kd.V_lower (Kd.V_mono (ok' := fun k_ => k_ ≠ gb1140) ho0 (fun k_ hk_ => Or.elim hk_ (fun hs_ => fun e_ => Nat.not_le.2 hs_ (by rw [e_]; exact GW1140.out)) (fun hn_ => (Kd.freshB (g := gb1140) (o := .cells #[.int .i64 0, .int .i64 0] 26 (0, 0)) (bk BK1140.out) k_ hn_)))) (below_size bz)); replace BK1140 := bb BK1140 hb; replace HB := sb HB hb; (try clear hb); (try clear ho0)) | (go_at_call 105; (with_reducible refine (line_within.calls a1 0 (wrap64 ((l0.length : Int) - 1)) t1145 _ A4.out).mono ?_); rintro e w' ⟨rfl, ⟨nd, rfl⟩⟩; (try first | exact ⟨rfl, _, World.drewN_drewN _ _ _⟩ | exact ⟨rfl, _, Eq.trans (World.drewN_drewN _ _ _) (congrArg (World.drewN _) (Nat.add_assoc _ _ _))⟩)) | (go_at_call 93; (with_reducible refine (line_unless.calls t1145 6 t1146 _ A5.out).mono ?_); rintro e w' ⟨rfl, ⟨nd, rfl⟩⟩; (try first | exact ⟨rfl, _, World.drewN_drewN _ _ _⟩ | exact ⟨rfl, _, Eq.trans (World.drewN_drewN _ _ _) (congrArg (World.drewN _) (Nat.add_assoc _ _ _))⟩)) | ((with_reducible refine gate_dst (N := 21) rfl ?_); refine Kd.R_lit (Kd.int .i64) _ 31 ?hg (N := 21) ?hd (xs := ([t1144, t1146] : List Int)) (inner := [.int .i64 t1144, .int .i64 t1146]) (ok := fun _ => True) (okp := fun _ => True) ?hr ?hp (fun _ hk => hk) trivial (Below.refl _ _) (Nat.le_refl _) (by simp) ?_; (case hd => rfl); (case hg => rfl); (case hr => first | (go_simp; done) | (go_simp; rfl)); (case hp => exact (Reps.one (show Kd.M (Kd.int .i64) _ _ _ t1144 [.int .i64 t1144] from rfl) (Reps.one (show Kd.M (Kd.int .i64) _ _ _ t1146 [.int .i64 t1146] from rfl) (Reps.none _ _)))); intro v1148 w22 ho23 hb hg_ hnew_; clear hg_ hnew_; (first | rw [← Ny1147.out] at ho23 | (simp only [Int.reduceToNat] at ho23; rw [← Ny1147.out] at ho23)); replace HO1143 := m0 (Kd.V_elder' (by (with_reducible repeat (first | apply Kd.V_alloc | apply Kd.V_drewN | apply Kd.V_drew)); exact HO1143.out) (Kd.R_base ho23) hb); have HO1149 := m0 (Kd.R_lower ho23 (below_size bz)); replace BK1140 := bb BK1140 hb; replace HB := sb HB hb; clear hb ho23; obtain ⟨Ao24, co24, eo24⟩ := Kd.R_slice HO1149.out; subst eo24) | (go_at_call 91; (with_reducible refine (line_first.calls k _ _ y1147 t1150 _ ?side1 ?side2 A6.out).mono ?_); (case side1 => exact bc (Kd.R_reads' HO1149.out).2.2); (case side2 => exact (Kd.R_reads' HO1149.out).2.1); rintro e w' ⟨rfl, ⟨nd, rfl⟩⟩; (try first | exact ⟨rfl, _, World.drewN_drewN _ _ _⟩ | exact ⟨rfl, _, Eq.trans (World.drewN_drewN _ _ _) (congrArg (World.drewN _) (Nat.add_assoc _ _ _))⟩); obtain ⟨Ao25, co25, eo25⟩ := Kd.V_slice HO1143.out; subst eo25) | (go_at_call 125; (with_reducible refine (line_sum.calls k _ _ t1141 t1151 _ ?side1 ?side2 A8.out).mono ?_); (case side1 => repeat (first | exact (Kd.V_reads' HO1143.out).2.2 | (with_reducible refine Kd.C_alloc ?_ _) | (with_reducible refine Kd.C_drewN ?_ _) | (with_reducible refine Kd.C_drew ?_))); (case side2 => exact (Kd.V_reads' HO1143.out).2.1); rintro e w' ⟨rfl, ⟨nd, rfl⟩⟩; (try first | exact ⟨rfl, _, World.drewN_drewN _ _ _⟩ | exact ⟨rfl, _, Eq.trans (World.drewN_drewN _ _ _) (congrArg (World.drewN _) (Nat.add_assoc _ _ _))⟩); have p1152 : 0 ≤ (a1 : Int) := of_decide_eq_true (by first | (with_reducible assumption) | assumption); have q1152 : a1 < (t1141.length : Int) := of_decide_eq_true (by first | (with_reducible assumption) | assumption); obtain ⟨ad1152, e1152, hx1152_0⟩ := Kd.at_int (Kd.V_reads' HO1143.out).2.2 a1 p1152 q1152; cases e1152; replace p1152 := eq_true p1152; replace q1152 := eq_true q1152; have p1153 : 0 ≤ (a1 : Int) := of_decide_eq_true (by first | (with_reducible assumption) | assumption); have q1153 : a1 < (t1141.length : Int) := of_decide_eq_true (by first | (with_reducible assumption) | assumption); obtain ⟨ad1153, e1153, hx1153_0⟩ := Kd.at_int (Kd.V_reads' HO1143.out).2.2 a1 p1153 q1153; obtain rfl : ad1152 = ad1153 := (by injection e1153); replace p1153 := eq_true p1153; replace q1153 := eq_true q1153) | (go_at_call 96; (with_reducible refine (line_fraction.calls k (wrap64 ((rd t1141 a1) * (wrap64 ((t1141.length : Int) - 1)))) (wrap64 (t1151 - (rd t1141 a1))) t1154 t1155 _ A19.out).mono ?_); rintro e w26 ⟨rfl, hb⟩; replace HO1143 := m0 (Kd.V_below (by (with_reducible repeat (first | apply Kd.V_alloc | apply Kd.V_drewN | apply Kd.V_drew)); exact HO1143.out) hb); replace HO1149 := rb HO1149 hb; replace BK1140 := bb BK1140 hb; replace HB := sb HB hb; (try clear hb); obtain ⟨hcz27_0, hcz27_1, hfz27_0, hfz27_1⟩ := b2 BK1140)); try go_wp2_with (first | ((with_reducible refine gate_dst (N := 4) rfl ?_); refine be 4 26 #[.int .i64 0, .int .i64 0] ?_; intro gb1140 hg w20 hbox hb; have BK1140 := m0 hbox; have GW1140 := m0 (bg (n := w.heap.size) hg); have GE1140 := m0 (bg (n := w.heap.size) hg); replace HB := sb HB hb; clear hb hbox hg) | (go_at_call 102; (with_reducible refine (line_open.calls (fun k_ => k_ < w.heap.size) _ _ l0 t1141 t1144 _ ?side1 A3.out).mono ?_); (case side1 => exact Kd.V_mk HC0.out (Kd.F_below (Kd.C_F (Kd.heap_int .i64) HR0.out) bz)); rintro e w21 ⟨v1142, rfl, ho0, hb⟩; have HO1143 := m0 (Kd.V_lower (Kd.V_mono (ok' := fun k_ => k_ ≠ gb1140) ho0 (fun k_ hk_ => Or.elim hk_ (fun hs_ => fun e_ => Nat.not_le.2 hs_ (by rw [e_]; exact GW1140.out)) (fun hn_ => (Kd.freshB (g := gb1140) (o := .cells #[.int .i64 0, .int .i64 0] 26 (0, 0)) (bk BK1140.out) k_ hn_)))) (below_size bz)); replace BK1140 := bb BK1140 hb; replace HB := sb HB hb; (try clear hb); (try clear ho0)) | (go_at_call 105; (with_reducible refine (line_within.calls a1 0 (wrap64 ((l0.length : Int) - 1)) t1145 _ A4.out).mono ?_); rintro e w' ⟨rfl, ⟨nd, rfl⟩⟩; (try first | exact ⟨rfl, _, World.drewN_drewN _ _ _⟩ | exact ⟨rfl, _, Eq.trans (World.drewN_drewN _ _ _) (congrArg (World.drewN _) (Nat.add_assoc _ _ _))⟩)) | (go_at_call 93; (with_reducible refine (line_unless.calls t1145 6 t1146 _ A5.out).mono ?_); rintro e w' ⟨rfl, ⟨nd, rfl⟩⟩; (try first | exact ⟨rfl, _, World.drewN_drewN _ _ _⟩ | exact ⟨rfl, _, Eq.trans (World.drewN_drewN _ _ _) (congrArg (World.drewN _) (Nat.add_assoc _ _ _))⟩)) | ((with_reducible refine gate_dst (N := 21) rfl ?_); refine Kd.R_lit (Kd.int .i64) _ 31 ?hg (N := 21) ?hd (xs := ([t1144, t1146] : List Int)) (inner := [.int .i64 t1144, .int .i64 t1146]) (ok := fun _ => True) (okp := fun _ => True) ?hr ?hp (fun _ hk => hk) trivial (Below.refl _ _) (Nat.le_refl _) (by simp) ?_; (case hd => rfl); (case hg => rfl); (case hr => first | (go_simp; done) | (go_simp; rfl)); (case hp => exact (Reps.one (show Kd.M (Kd.int .i64) _ _ _ t1144 [.int .i64 t1144] from rfl) (Reps.one (show Kd.M (Kd.int .i64) _ _ _ t1146 [.int .i64 t1146] from rfl) (Reps.none _ _)))); intro v1148 w22 ho23 hb hg_ hnew_; clear hg_ hnew_; (first | rw [← Ny1147.out] at ho23 | (simp only [Int.reduceToNat] at ho23; rw [← Ny1147.out] at ho23)); replace HO1143 := m0 (Kd.V_elder' (by (with_reducible repeat (first | apply Kd.V_alloc | apply Kd.V_drewN | apply Kd.V_drew)); exact HO1143.out) (Kd.R_base ho23) hb); have HO1149 := m0 (Kd.R_lower ho23 (below_size bz)); replace BK1140 := bb BK1140 hb; replace HB := sb HB hb; clear hb ho23; obtain ⟨Ao24, co24, eo24⟩ := Kd.R_slice HO1149.out; subst eo24) | (go_at_call 91; (with_reducible refine (line_first.calls k _ _ y1147 t1150 _ ?side1 ?side2 A6.out).mono ?_); (case side1 => exact bc (Kd.R_reads' HO1149.out).2.2); (case side2 => exact (Kd.R_reads' HO1149.out).2.1); rintro e w' ⟨rfl, ⟨nd, rfl⟩⟩; (try first | exact ⟨rfl, _, World.drewN_drewN _ _ _⟩ | exact ⟨rfl, _, Eq.trans (World.drewN_drewN _ _ _) (congrArg (World.drewN _) (Nat.add_assoc _ _ _))⟩); obtain ⟨Ao25, co25, eo25⟩ := Kd.V_slice HO1143.out; subst eo25) | (go_at_call 125; (with_reducible refine (line_sum.calls k _ _ t1141 t1151 _ ?side1 ?side2 A8.out).mono ?_); (case side1 => repeat (first | exact (Kd.V_reads' HO1143.out).2.2 | (with_reducible refine Kd.C_alloc ?_ _) | (with_reducible refine Kd.C_drewN ?_ _) | (with_reducible refine Kd.C_drew ?_))); (case side2 => exact (Kd.V_reads' HO1143.out).2.1); rintro e w' ⟨rfl, ⟨nd, rfl⟩⟩; (try first | exact ⟨rfl, _, World.drewN_drewN _ _ _⟩ | exact ⟨rfl, _, Eq.trans (World.drewN_drewN _ _ _) (congrArg (World.drewN _) (Nat.add_assoc _ _ _))⟩); have p1152 : 0 ≤ (a1 : Int) := of_decide_eq_true (by first | (with_reducible assumption) | assumption); have q1152 : a1 < (t1141.length : Int) := of_decide_eq_true (by first | (with_reducible assumption) | assumption); obtain ⟨ad1152, e1152, hx1152_0⟩ := Kd.at_int (Kd.V_reads' HO1143.out).2.2 a1 p1152 q1152; cases e1152; replace p1152 := eq_true p1152; replace q1152 := eq_true q1152; have p1153 : 0 ≤ (a1 : Int) := of_decide_eq_true (by first | (with_reducible assumption) | assumption); have q1153 : a1 < (t1141.length : Int) := of_decide_eq_true (by first | (with_reducible assumption) | assumption); obtain ⟨ad1153, e1153, hx1153_0⟩ := Kd.at_int (Kd.V_reads' HO1143.out).2.2 a1 p1153 q1153; obtain rfl : ad1152 = ad1153 := (by injection e1153); replace p1153 := eq_true p1153; replace q1153 := eq_true q1153) | (go_at_call 96; (with_reducible refine (line_fraction.calls k (wrap64 ((rd t1141 a1) * (wrap64 ((t1141.length : Int) - 1)))) (wrap64 (t1151 - (rd t1141 a1))) t1154 t1155 _ A19.out).mono ?_); rintro e w26 ⟨rfl, hb⟩; replace HO1143 := m0 (Kd.V_below (by (with_reducible repeat (first | apply Kd.V_alloc | apply Kd.V_drewN | apply Kd.V_drew)); exact HO1143.out) hb); replace HO1149 := rb HO1149 hb; replace BK1140 := bb BK1140 hb; replace HB := sb HB hb; (try clear hb); obtain ⟨hcz27_0, hcz27_1, hfz27_0, hfz27_1⟩ := b2 BK1140)))
     refine bodyPost_ret (results_ct rfl _ _ gb1140 26 #[.int .i64 t1154, .int .i64 t1155] (0, 0) _ rfl (bq BK1140.out) Tryd.underlying26 rfl (by kernel_rfl)) rfl ?_
     exact ez
   ·rw [if_neg c10] at H
    exact absurd H (by simp)
  ·rw [if_neg c9] at H
   exact absurd H (by simp)
 ·rw [if_neg c7] at H
  have c7b0 := beq_eq_false_iff_ne.mpr c7
  have c7b1 := bne_iff_ne.mpr c7
  simp only [Option.some.injEq, Prod.mk.injEq] at H
  obtain ⟨rfl, rfl, rfl⟩ := H
  go_enter Tryd.func63, Tryd.ntmps63
  go_wp2_with (first | ((with_reducible refine gate_dst (N := 4) rfl ?_); refine be 4 26 #[.int .i64 0, .int .i64 0] ?_; intro gb1140 hg w28 hbox hb; have BK1140 := m0 hbox; have GW1140 := m0 (bg (n := w.heap.size) hg); have GE1140 := m0 (bg (n := w.heap.size) hg); replace HB := sb HB hb; clear hb hbox hg) | (go_at_call 102; (with_reducible refine (line_open.calls (fun k_ => k_ < w.heap.size) _ _ l0 t1141 t1144 _ ?side1 A3.out).mono ?_); (case side1 => exact Kd.V_mk HC0.out (Kd.F_below (Kd.C_F (Kd.heap_int .i64) HR0.out) bz)); rintro e w29 ⟨v1142, rfl, ho0, hb⟩; have HO1143 := m0 (Kd.V_lower (Kd.V_mono (ok' := fun k_ => k_ ≠ gb1140) ho0 (fun k_ hk_ => Or.elim hk_ (fun hs_ => fun e_ => Nat.not_le.2 hs_ (by rw [e_]; exact GW1140.out)) (fun hn_ => (Kd.freshB (g := gb1140) (o := .cells #[.int .i64 0, .int .i64 0] 26 (0, 0)) (bk BK1140.out) k_ hn_)))) (below_size bz)); replace BK1140 := bb BK1140 hb; replace HB := sb HB hb; (try clear hb); (try clear ho0)) | (go_at_call 105; (with_reducible refine (line_within.calls a1 0 (wrap64 ((l0.length : Int) - 1)) t1145 _ A4.out).mono ?_); rintro e w' ⟨rfl, ⟨nd, rfl⟩⟩; (try first | exact ⟨rfl, _, World.drewN_drewN _ _ _⟩ | exact ⟨rfl, _, Eq.trans (World.drewN_drewN _ _ _) (congrArg (World.drewN _) (Nat.add_assoc _ _ _))⟩)) | (go_at_call 93; (with_reducible refine (line_unless.calls t1145 6 t1146 _ A5.out).mono ?_); rintro e w' ⟨rfl, ⟨nd, rfl⟩⟩; (try first | exact ⟨rfl, _, World.drewN_drewN _ _ _⟩ | exact ⟨rfl, _, Eq.trans (World.drewN_drewN _ _ _) (congrArg (World.drewN _) (Nat.add_assoc _ _ _))⟩)) | ((with_reducible refine gate_dst (N := 21) rfl ?_); refine Kd.R_lit (Kd.int .i64) _ 31 ?hg (N := 21) ?hd (xs := ([t1144, t1146] : List Int)) (inner := [.int .i64 t1144, .int .i64 t1146]) (ok := fun _ => True) (okp := fun _ => True) ?hr ?hp (fun _ hk => hk) trivial (Below.refl _ _) (Nat.le_refl _) (by simp) ?_; (case hd => rfl); (case hg => rfl); (case hr => first | (go_simp; done) | (go_simp; rfl)); (case hp => exact (Reps.one (show Kd.M (Kd.int .i64) _ _ _ t1144 [.int .i64 t1144] from rfl) (Reps.one (show Kd.M (Kd.int .i64) _ _ _ t1146 [.int .i64 t1146] from rfl) (Reps.none _ _)))); intro v1148 w30 ho31 hb hg_ hnew_; clear hg_ hnew_; (first | rw [← Ny1147.out] at ho31 | (simp only [Int.reduceToNat] at ho31; rw [← Ny1147.out] at ho31)); replace HO1143 := m0 (Kd.V_elder' (by (with_reducible repeat (first | apply Kd.V_alloc | apply Kd.V_drewN | apply Kd.V_drew)); exact HO1143.out) (Kd.R_base ho31) hb); have HO1149 := m0 (Kd.R_lower ho31 (below_size bz)); replace BK1140 := bb BK1140 hb; replace HB := sb HB hb; clear hb ho31; obtain ⟨Ao32, co32, eo32⟩ := Kd.R_slice HO1149.out; subst eo32) | (go_at_call 91; (with_reducible refine (line_first.calls k _ _ y1147 t1150 _ ?side1 ?side2 A6.out).mono ?_); (case side1 => exact bc (Kd.R_reads' HO1149.out).2.2); (case side2 => exact (Kd.R_reads' HO1149.out).2.1); rintro e w' ⟨rfl, ⟨nd, rfl⟩⟩; (try first | exact ⟨rfl, _, World.drewN_drewN _ _ _⟩ | exact ⟨rfl, _, Eq.trans (World.drewN_drewN _ _ _) (congrArg (World.drewN _) (Nat.add_assoc _ _ _))⟩); obtain ⟨hcz33_0, hcz33_1, hfz33_0, hfz33_1⟩ := b2 BK1140))
  repeat (go_quiet (first | ((with_reducible refine gate_dst (N := 4) rfl ?_); refine be 4 26 #[.int .i64 0, .int .i64 0] ?_; intro gb1140 hg w28 hbox hb; have BK1140 := m0 hbox; have GW1140 := m0 (bg (n := w.heap.size) hg); have GE1140 := m0 (bg (n := w.heap.size) hg); replace HB := sb HB hb; clear hb hbox hg) | (go_at_call 102; (with_reducible refine (line_open.calls (fun k_ => k_ < w.heap.size) _ _ l0 t1141 t1144 _ ?side1 A3.out).mono ?_); (case side1 => exact Kd.V_mk HC0.out (Kd.F_below (Kd.C_F (Kd.heap_int .i64) HR0.out) bz)); rintro e w29 ⟨v1142, rfl, ho0, hb⟩; have HO1143 := m0 (Kd.V_lower (Kd.V_mono (ok' := fun k_ => k_ ≠ gb1140) ho0 (fun k_ hk_ => Or.elim hk_ (fun hs_ => fun e_ => Nat.not_le.2 hs_ (by rw [e_]; exact GW1140.out)) (fun hn_ => (Kd.freshB (g := gb1140) (o := .cells #[.int .i64 0, .int .i64 0] 26 (0, 0)) (bk BK1140.out) k_ hn_)))) (below_size bz)); replace BK1140 := bb BK1140 hb; replace HB := sb HB hb; (try clear hb); (try clear ho0)) | (go_at_call 105; (with_reducible refine (line_within.calls a1 0 (wrap64 ((l0.length : Int) - 1)) t1145 _ A4.out).mono ?_); rintro e w' ⟨rfl, ⟨nd, rfl⟩⟩; (try first | exact ⟨rfl, _, World.drewN_drewN _ _ _⟩ | exact ⟨rfl, _, Eq.trans (World.drewN_drewN _ _ _) (congrArg (World.drewN _) (Nat.add_assoc _ _ _))⟩)) | (go_at_call 93; (with_reducible refine (line_unless.calls t1145 6 t1146 _ A5.out).mono ?_); rintro e w' ⟨rfl, ⟨nd, rfl⟩⟩; (try first | exact ⟨rfl, _, World.drewN_drewN _ _ _⟩ | exact ⟨rfl, _, Eq.trans (World.drewN_drewN _ _ _) (congrArg (World.drewN _) (Nat.add_assoc _ _ _))⟩)) | ((with_reducible refine gate_dst (N := 21) rfl ?_); refine Kd.R_lit (Kd.int .i64) _ 31 ?hg (N := 21) ?hd (xs := ([t1144, t1146] : List Int)) (inner := [.int .i64 t1144, .int .i64 t1146]) (ok := fun _ => True) (okp := fun _ => True) ?hr ?hp (fun _ hk => hk) trivial (Below.refl _ _) (Nat.le_refl _) (by simp) ?_; (case hd => rfl); (case hg => rfl); (case hr => first | (go_simp; done) | (go_simp; rfl)); (case hp => exact (Reps.one (show Kd.M (Kd.int .i64) _ _ _ t1144 [.int .i64 t1144] from rfl) (Reps.one (show Kd.M (Kd.int .i64) _ _ _ t1146 [.int .i64 t1146] from rfl) (Reps.none _ _)))); intro v1148 w30 ho31 hb hg_ hnew_; clear hg_ hnew_; (first | rw [← Ny1147.out] at ho31 | (simp only [Int.reduceToNat] at ho31; rw [← Ny1147.out] at ho31)); replace HO1143 := m0 (Kd.V_elder' (by (with_reducible repeat (first | apply Kd.V_alloc | apply Kd.V_drewN | apply Kd.V_drew)); exact HO1143.out) (Kd.R_base ho31) hb); have HO1149 := m0 (Kd.R_lower ho31 (below_size bz)); replace BK1140 := bb BK1140 hb; replace HB := sb HB hb; clear hb ho31; obtain ⟨Ao32, co32, eo32⟩ := Kd.R_slice HO1149.out; subst eo32) | (go_at_call 91; (with_reducible refine (line_first.calls k _ _ y1147 t1150 _ ?side1 ?side2 A6.out).mono ?_); (case side1 => exact bc (Kd.R_reads' HO1149.out).2.2); (case side2 => exact (Kd.R_reads' HO1149.out).2.1); rintro e w' ⟨rfl, ⟨nd, rfl⟩⟩; (try first | exact ⟨rfl, _, World.drewN_drewN _ _ _⟩ | exact ⟨rfl, _, Eq.trans (World.drewN_drewN _ _ _) (congrArg (World.drewN _) (Nat.add_assoc _ _ _))⟩); obtain ⟨hcz33_0, hcz33_1, hfz33_0, hfz33_1⟩ := b2 BK1140)); try go_wp2_with (first | ((with_reducible refine gate_dst (N := 4) rfl ?_); refine be 4 26 #[.int .i64 0, .int .i64 0] ?_; intro gb1140 hg w28 hbox hb; have BK1140 := m0 hbox; have GW1140 := m0 (bg (n := w.heap.size) hg); have GE1140 := m0 (bg (n := w.heap.size) hg); replace HB := sb HB hb; clear hb hbox hg) | (go_at_call 102; (with_reducible refine (line_open.calls (fun k_ => k_ < w.heap.size) _ _ l0 t1141 t1144 _ ?side1 A3.out).mono ?_); (case side1 => exact Kd.V_mk HC0.out (Kd.F_below (Kd.C_F (Kd.heap_int .i64) HR0.out) bz)); rintro e w29 ⟨v1142, rfl, ho0, hb⟩; have HO1143 := m0 (Kd.V_lower (Kd.V_mono (ok' := fun k_ => k_ ≠ gb1140) ho0 (fun k_ hk_ => Or.elim hk_ (fun hs_ => fun e_ => Nat.not_le.2 hs_ (by rw [e_]; exact GW1140.out)) (fun hn_ => (Kd.freshB (g := gb1140) (o := .cells #[.int .i64 0, .int .i64 0] 26 (0, 0)) (bk BK1140.out) k_ hn_)))) (below_size bz)); replace BK1140 := bb BK1140 hb; replace HB := sb HB hb; (try clear hb); (try clear ho0)) | (go_at_call 105; (with_reducible refine (line_within.calls a1 0 (wrap64 ((l0.length : Int) - 1)) t1145 _ A4.out).mono ?_); rintro e w' ⟨rfl, ⟨nd, rfl⟩⟩; (try first | exact ⟨rfl, _, World.drewN_drewN _ _ _⟩ | exact ⟨rfl, _, Eq.trans (World.drewN_drewN _ _ _) (congrArg (World.drewN _) (Nat.add_assoc _ _ _))⟩)) | (go_at_call 93; (with_reducible refine (line_unless.calls t1145 6 t1146 _ A5.out).mono ?_); rintro e w' ⟨rfl, ⟨nd, rfl⟩⟩; (try first | exact ⟨rfl, _, World.drewN_drewN _ _ _⟩ | exact ⟨rfl, _, Eq.trans (World.drewN_drewN _ _ _) (congrArg (World.drewN _) (Nat.add_assoc _ _ _))⟩)) | ((with_reducible refine gate_dst (N := 21) rfl ?_); refine Kd.R_lit (Kd.int .i64) _ 31 ?hg (N := 21) ?hd (xs := ([t1144, t1146] : List Int)) (inner := [.int .i64 t1144, .int .i64 t1146]) (ok := fun _ => True) (okp := fun _ => True) ?hr ?hp (fun _ hk => hk) trivial (Below.refl _ _) (Nat.le_refl _) (by simp) ?_; (case hd => rfl); (case hg => rfl); (case hr => first | (go_simp; done) | (go_simp; rfl)); (case hp => exact (Reps.one (show Kd.M (Kd.int .i64) _ _ _ t1144 [.int .i64 t1144] from rfl) (Reps.one (show Kd.M (Kd.int .i64) _ _ _ t1146 [.int .i64 t1146] from rfl) (Reps.none _ _)))); intro v1148 w30 ho31 hb hg_ hnew_; clear hg_ hnew_; (first | rw [← Ny1147.out] at ho31 | (simp only [Int.reduceToNat] at ho31; rw [← Ny1147.out] at ho31)); replace HO1143 := m0 (Kd.V_elder' (by (with_reducible repeat (first | apply Kd.V_alloc | apply Kd.V_drewN | apply Kd.V_drew)); exact HO1143.out) (Kd.R_base ho31) hb); have HO1149 := m0 (Kd.R_lower ho31 (below_size bz)); replace BK1140 := bb BK1140 hb; replace HB := sb HB hb; clear hb ho31; obtain ⟨Ao32, co32, eo32⟩ := Kd.R_slice HO1149.out; subst eo32) | (go_at_call 91; (with_reducible refine (line_first.calls k _ _ y1147 t1150 _ ?side1 ?side2 A6.out).mono ?_); (case side1 => exact bc (Kd.R_reads' HO1149.out).2.2); (case side2 => exact (Kd.R_reads' HO1149.out).2.1); rintro e w' ⟨rfl, ⟨nd, rfl⟩⟩; (try first | exact ⟨rfl, _, World.drewN_drewN _ _ _⟩ | exact ⟨rfl, _, Eq.trans (World.drewN_drewN _ _ _) (congrArg (World.drewN _) (Nat.add_assoc _ _ _))⟩); obtain ⟨hcz33_0, hcz33_1, hfz33_0, hfz33_1⟩ := b2 BK1140)))
  refine bodyPost_ret (results_ct rfl _ _ gb1140 26 #[.int .i64 0, .int .i64 0] (0, 0) _ rfl (bq BK1140.out) Tryd.underlying26 rfl (by kernel_rfl)) rfl ?_
  exact ez
end
section
mutual
def Rf_Detections.l0 : Nat → List Int → List Int → Int → Int → Int → Option (List Int)
  | 0, _, _, _, _, _ => none
  | k + 1, x0, x5, x6, x1157000, x1157001 => if x6 < (x0.length : Int) then (if 0 ≤ x6 then (Rf_Detections.l1 k x0 x5 x6 (decide ((rd x0 x6) ≥ x1157000)) 0 x1157000 x1157001) else (none)) else (some x5)
def Rf_Detections.l1 : Nat → List Int → List Int → Int → Bool → Int → Int → Int → Option (List Int)
  | 0, _, _, _, _, _, _, _ => none
  | k + 1, x0, x5, x6, x7, x8, x1157000, x1157001 => if x8 < (x0.length : Int) then (if x8 < x6 then (if (wrap64 (x6 - x8)) ≤ x1157001 then (if 0 ≤ x8 then (if 0 ≤ x6 then (if x6 < (x0.length : Int) then (if (rd x0 x8) ≥ (rd x0 x6) then (Rf_Detections.l1 k x0 x5 x6 false (wrap64 (x8 + 1)) x1157000 x1157001) else (if x8 > x6 then (if (wrap64 (x8 - x6)) ≤ x1157001 then (if (rd x0 x8) > (rd x0 x6) then (Rf_Detections.l1 k x0 x5 x6 false (wrap64 (x8 + 1)) x1157000 x1157001) else (Rf_Detections.l1 k x0 x5 x6 x7 (wrap64 (x8 + 1)) x1157000 x1157001)) else (Rf_Detections.l1 k x0 x5 x6 x7 (wrap64 (x8 + 1)) x1157000 x1157001)) else (Rf_Detections.l1 k x0 x5 x6 x7 (wrap64 (x8 + 1)) x1157000 x1157001))) else (none)) else (none)) else (none)) else (if x8 > x6 then (if (wrap64 (x8 - x6)) ≤ x1157001 then (if 0 ≤ x8 then (if 0 ≤ x6 then (if x6 < (x0.length : Int) then (if (rd x0 x8) > (rd x0 x6) then (Rf_Detections.l1 k x0 x5 x6 false (wrap64 (x8 + 1)) x1157000 x1157001) else (Rf_Detections.l1 k x0 x5 x6 x7 (wrap64 (x8 + 1)) x1157000 x1157001)) else (none)) else (none)) else (none)) else (Rf_Detections.l1 k x0 x5 x6 x7 (wrap64 (x8 + 1)) x1157000 x1157001)) else (Rf_Detections.l1 k x0 x5 x6 x7 (wrap64 (x8 + 1)) x1157000 x1157001))) else (if x8 > x6 then (if (wrap64 (x8 - x6)) ≤ x1157001 then (if 0 ≤ x8 then (if 0 ≤ x6 then (if x6 < (x0.length : Int) then (if (rd x0 x8) > (rd x0 x6) then (Rf_Detections.l1 k x0 x5 x6 false (wrap64 (x8 + 1)) x1157000 x1157001) else (Rf_Detections.l1 k x0 x5 x6 x7 (wrap64 (x8 + 1)) x1157000 x1157001)) else (none)) else (none)) else (none)) else (Rf_Detections.l1 k x0 x5 x6 x7 (wrap64 (x8 + 1)) x1157000 x1157001)) else (Rf_Detections.l1 k x0 x5 x6 x7 (wrap64 (x8 + 1)) x1157000 x1157001))) else (if x7 = true then (if x5.length < 17592186044416 then (Rf_Detections.l0 k x0 (x5 ++ [x6]) (wrap64 (x6 + 1)) x1157000 x1157001) else (none)) else (Rf_Detections.l0 k x0 x5 (wrap64 (x6 + 1)) x1157000 x1157001))
end
def Rf_Detections.f (k : Nat) (l0 : List Int) (a1_0 : Int) (a1_1 : Int) : Option (List Int) := Rf_Detections.l0 k l0 ([] : List Int) 0 a1_0 a1_1
theorem Rf_Detections.mono_l : ∀ k, (∀ y0 y1 y2 y3 y4, LeO (Rf_Detections.l0 k y0 y1 y2 y3 y4) (Rf_Detections.l0 (k + 1) y0 y1 y2 y3 y4)) ∧ (∀ y0 y1 y2 y3 y4 y5 y6, LeO (Rf_Detections.l1 k y0 y1 y2 y3 y4 y5 y6) (Rf_Detections.l1 (k + 1) y0 y1 y2 y3 y4 y5 y6))
  | 0 => ⟨fun _ _ _ _ _ r h => by simp [Rf_Detections.l0] at h, fun _ _ _ _ _ _ _ r h => by simp [Rf_Detections.l1] at h⟩
  | k + 1 => by
    obtain ⟨ih0, ih1⟩ := Rf_Detections.mono_l k
    refine ⟨?_, ?_⟩
    · intro y0 y1 y2 y3 y4
      unfold Rf_Detections.l0
      repeat' first
      | (with_reducible exact ih0 _ _ _ _ _)
      | (with_reducible exact ih1 _ _ _ _ _ _ _)
      | (with_reducible exact LeO.refl _)
      | (with_reducible exact LeO.none _)
      | (with_reducible refine LeO.ite ?_ ?_)
      | (with_reducible refine LeO.bind ?_ (fun _ => ?_))
      | exact ih0 _ _ _ _ _
      | exact ih1 _ _ _ _ _ _ _
      | exact LeO.none _
      | refine LeO.ite ?_ ?_
      | refine LeO.bind ?_ (fun _ => ?_)
    · intro y0 y1 y2 y3 y4 y5 y6
      unfold Rf_Detections.l1
      repeat' first
      | (with_reducible exact ih0 _ _ _ _ _)
      | (with_reducible exact ih1 _ _ _ _ _ _ _)
      | (with_reducible exact LeO.refl _)
      | (with_reducible exact LeO.none _)
      | (with_reducible refine LeO.ite ?_ ?_)
      | (with_reducible refine LeO.bind ?_ (fun _ => ?_))
      | exact ih0 _ _ _ _ _
      | exact ih1 _ _ _ _ _ _ _
      | exact LeO.none _
      | refine LeO.ite ?_ ?_
      | refine LeO.bind ?_ (fun _ => ?_)
theorem Rf_Detections.mono : ∀ a0 a1 a2 k, LeO (Rf_Detections.f k a0 a1 a2) (Rf_Detections.f (k + 1) a0 a1 a2) := by
  intro a0 a1 a2 k
  obtain ⟨ih0, ih1⟩ := Rf_Detections.mono_l k
  unfold Rf_Detections.f
  repeat' first
      | (with_reducible exact ih0 _ _ _ _ _)
      | (with_reducible exact ih1 _ _ _ _ _ _ _)
      | (with_reducible exact LeO.refl _)
      | (with_reducible exact LeO.none _)
      | (with_reducible refine LeO.ite ?_ ?_)
      | (with_reducible refine LeO.bind ?_ (fun _ => ?_))
      | exact ih0 _ _ _ _ _
      | exact ih1 _ _ _ _ _ _ _
      | exact LeO.none _
      | refine LeO.ite ?_ ?_
      | refine LeO.bind ?_ (fun _ => ?_)
theorem Rf_Detections.calls (k : Nat) (A0 : Option Addr) (c0 : Nat) (l0 : List Int) (a1_0 : Int) (a1_1 : Int) (r : List Int) (w : World) (hr0 : Kd.C (Kd.int .i64) w A0 l0.length l0) (hc0 : l0.length ≤ c0) (h : Rf_Detections.f k l0 a1_0 a1_1 = some r) :
    Calls Tryd.prog 64 #[.slice A0 l0.length c0, .agg #[.int .i64 a1_0, .int .i64 a1_1]] w fun e w' => ∃ v0_ : Value, e = .returned (v0_) ∧ Kd.R (Kd.int .i64) 3 w' w.heap.size (fun _ => True) v0_ r ∧ Below w.heap.size w w' := by
  have hu57 := Tryd.underlying57
  have HR0 := m0 hr0
  have HC0 := m0 hc0
  clear hr0 hc0
  have HB := m0 (Below.refl w.heap.size w)
  have H : (Rf_Detections.l0 k l0 ([] : List Int) 0 a1_0 a1_1) = some r := h
  clear h
  have H' := m0 H
  clear H
  go_enter Tryd.func64, Tryd.ntmps64
  go_wp2_with (first | ((with_reducible refine gate_dst (N := 3) rfl ?_); refine be 3 57 #[.int .i64 a1_0, .int .i64 a1_1] ?_; intro gb1156 hg w3 hbox hb; have BK1156 := m0 hbox; have GW1156 := m0 (bg (n := w.heap.size) hg); have GE1156 := m0 (bg (n := w.heap.size) hg); replace HB := sb HB hb; clear hb hbox hg))
  repeat (go_quiet (first | ((with_reducible refine gate_dst (N := 3) rfl ?_); refine be 3 57 #[.int .i64 a1_0, .int .i64 a1_1] ?_; intro gb1156 hg w3 hbox hb; have BK1156 := m0 hbox; have GW1156 := m0 (bg (n := w.heap.size) hg); have GE1156 := m0 (bg (n := w.heap.size) hg); replace HB := sb HB hb; clear hb hbox hg)); try go_wp2_with (first | ((with_reducible refine gate_dst (N := 3) rfl ?_); refine be 3 57 #[.int .i64 a1_0, .int .i64 a1_1] ?_; intro gb1156 hg w3 hbox hb; have BK1156 := m0 hbox; have GW1156 := m0 (bg (n := w.heap.size) hg); have GE1156 := m0 (bg (n := w.heap.size) hg); replace HB := sb HB hb; clear hb hbox hg)))
  go_loopg [5, 6] k (fun kq v5 v6 w' => ∃ (x5_1 : List Int) (x6_1 : Int), v6 = .int .i64 x6_1 ∧ Aside0 (Rf_Detections.l0 kq l0 x5_1 x6_1 a1_0 a1_1 = some r) ∧ Aside0 (kq ≤ k) ∧ Aside0 (Kd.R (Kd.int .i64) 3 w' w.heap.size (fun _ => True) v5 x5_1) ∧ Aside0 (w'.heap[gb1156]? = some (.cells #[.int .i64 a1_0, .int .i64 a1_1] 57 (0, 0))) ∧ Aside0 (Below w.heap.size w w'))
  case atStart => exact ⟨(([] : List Int)), (0), (by first | rfl | (simp; done) | (simp [*]; done)), H', ⟨Nat.le_refl _⟩, ⟨by first | exact Kd.R_nil _ _ _ _ _ | exact Kd.N_nil _ _ _ _ _ | exact Kd.V_nil _ _ _ _ _ | exact Kd.Q_nil _ _ _ _ _ | exact Kd.S_nil _ _ _ _ _⟩, ⟨bk BK1156.out⟩, ⟨bz⟩⟩
  case round =>
    clear H'
    try clear p2
    obtain ⟨x5_1, x6_1, rfl, HA, HK1, HO_5, BK1156, HB⟩ := hrel
    cases gk with
    | zero => exact absurd HA.out (by simp [Rf_Detections.l0])
    | succ k1 =>
      have H := HA.out
      clear HA
      simp only [Rf_Detections.l0] at H
      by_cases c4 : x6_1 < (l0.length : Int)
      · rw [if_pos c4] at H
        have c4b0 := decide_eq_true c4
        clear c4
        by_cases c5 : 0 ≤ x6_1
        · rw [if_pos c5] at H
          have c5b0 := decide_eq_true c5
          clear c5
          have H' := m0 H
          clear H
          have p1157 : 0 ≤ (x6_1 : Int) := of_decide_eq_true (by first | (with_reducible assumption) | assumption)
          have q1157 : x6_1 < (l0.length : Int) := of_decide_eq_true (by first | (with_reducible assumption) | assumption)
          obtain ⟨ad1157, e1157, hx1157_0⟩ := Kd.at_int HR0.out x6_1 p1157 q1157
          cases e1157
          replace hx1157_0 := (HB.out.cell (World.block_lt_of_cell? w _ hx1157_0)).trans hx1157_0
          replace p1157 := eq_true p1157
          replace q1157 := eq_true q1157
          obtain ⟨hcz6_0, hcz6_1, hfz6_0, hfz6_1⟩ := b2 BK1156
          go_wp2
          repeat (go_quiet (fail); try go_wp2)
          go_loopg [7, 8] k1 (fun kq v7 v8 w' => ∃ (x7_2 : Bool) (x8_2 : Int), v7 = .bool x7_2 ∧ v8 = .int .i64 x8_2 ∧ Aside0 (Rf_Detections.l1 kq l0 x5_1 x6_1 x7_2 x8_2 a1_0 a1_1 = some r) ∧ Aside0 (kq ≤ k1) ∧ Aside0 (Kd.R (Kd.int .i64) 3 w' w.heap.size (fun _ => True) u5 x5_1) ∧ Aside0 (w'.heap[gb1156]? = some (.cells #[.int .i64 a1_0, .int .i64 a1_1] 57 (0, 0))) ∧ Aside0 (Below w.heap.size w w'))
          case atStart => exact ⟨(decide ((rd l0 x6_1) ≥ a1_0)), (0), (by first | rfl | (simp; done) | (simp [*]; done)), (by first | rfl | (simp; done) | (simp [*]; done)), H', ⟨Nat.le_refl _⟩, ⟨br HO_5.out⟩, ⟨bk BK1156.out⟩, ⟨bz⟩⟩
          case round =>
            clear H'
            try clear p1
            try clear q1
            try clear hx1
            try clear p2
            try clear c4
            try clear c4b0
            try clear c5
            try clear c5b0
            try clear c6
            try clear hcz6_0
            try clear hcz6_1
            try clear hfz6_0
            try clear hfz6_1
            try clear hx1157_0
            try clear p1157
            try clear p2
            try clear q1157
            obtain ⟨x7_2, x8_2, rfl, rfl, HA, HK2, HO_5, BK1156, HB⟩ := hrel
            cases gk with
            | zero => exact absurd HA.out (by simp [Rf_Detections.l1])
            | succ k2 =>
              have H := HA.out
              clear HA
              simp only [Rf_Detections.l1] at H
              by_cases c7 : x8_2 < (l0.length : Int)
              · rw [if_pos c7] at H
                have c7b0 := decide_eq_true c7
                clear c7
                by_cases c8 : x8_2 < x6_1
                · rw [if_pos c8] at H
                  have c8b0 := decide_eq_true c8
                  clear c8
                  by_cases c9 : (wrap64 (x6_1 - x8_2)) ≤ a1_1
                  · rw [if_pos c9] at H
                    have c9b0 := decide_eq_true c9
                    clear c9
                    by_cases c10 : 0 ≤ x8_2
                    · rw [if_pos c10] at H
                      have c10b0 := decide_eq_true c10
                      clear c10
                      by_cases c11 : 0 ≤ x6_1
                      · rw [if_pos c11] at H
                        have c11b0 := decide_eq_true c11
                        clear c11
                        by_cases c12 : x6_1 < (l0.length : Int)
                        · rw [if_pos c12] at H
                          have c12b0 := decide_eq_true c12
                          clear c12
                          by_cases c13 : (rd l0 x8_2) ≥ (rd l0 x6_1)
                          · rw [if_pos c13] at H
                            have c13b0 := decide_eq_true c13
                            clear c13
                            have H' := m0 H
                            clear H
                            obtain ⟨_, _, _, _⟩ := b2 BK1156
                            have p1158 : 0 ≤ (x8_2 : Int) := of_decide_eq_true (by first | (with_reducible assumption) | assumption)
                            have q1158 : x8_2 < (l0.length : Int) := of_decide_eq_true (by first | (with_reducible assumption) | assumption)
                            obtain ⟨ad1158, e1158, hx1158_0⟩ := Kd.at_int HR0.out x8_2 p1158 q1158
                            obtain rfl : ad1157 = ad1158 := (by injection e1158)
                            replace hx1158_0 := (HB.out.cell (World.block_lt_of_cell? w _ hx1158_0)).trans hx1158_0
                            replace p1158 := eq_true p1158
                            replace q1158 := eq_true q1158
                            have p1159 : 0 ≤ (x6_1 : Int) := of_decide_eq_true (by first | (with_reducible assumption) | assumption)
                            have q1159 : x6_1 < (l0.length : Int) := of_decide_eq_true (by first | (with_reducible assumption) | assumption)
                            obtain ⟨ad1159, e1159, hx1159_0⟩ := Kd.at_int HR0.out x6_1 p1159 q1159
                            obtain rfl : ad1157 = ad1159 := (by injection e1159)
                            replace hx1159_0 := (HB.out.cell (World.block_lt_of_cell? w _ hx1159_0)).trans hx1159_0
                            replace p1159 := eq_true p1159
                            replace q1159 := eq_true q1159
                            go_wp2
                            repeat (go_quiet (fail); try go_wp2)
                            go_roundg k2
                            case measure => have := HK1.out; have := HK2.out; omega
                            case rel => exact ⟨(false), (wrap64 (x8_2 + 1)), (by first | rfl | (simp; done) | (simp [*]; done)), (by first | rfl | (simp; done) | (simp [*]; done)), H', ⟨by have := HK1.out; have := HK2.out; omega⟩, ⟨br HO_5.out⟩, ⟨bk BK1156.out⟩, ⟨bz⟩⟩
                          · rw [if_neg c13] at H
                            have c13b0 := decide_eq_false c13
                            clear c13
                            by_cases c15 : x8_2 > x6_1
                            · rw [if_pos c15] at H
                              have c15b0 := decide_eq_true c15
                              clear c15
                              by_cases c16 : (wrap64 (x8_2 - x6_1)) ≤ a1_1
                              · rw [if_pos c16] at H
                                have c16b0 := decide_eq_true c16
                                clear c16
                                by_cases c17 : (rd l0 x8_2) > (rd l0 x6_1)
                                · rw [if_pos c17] at H
                                  have c17b0 := decide_eq_true c17
                                  clear c17
                                  have H' := m0 H
                                  clear H
                                  obtain ⟨_, _, _, _⟩ := b2 BK1156
                                  have p1158 : 0 ≤ (x8_2 : Int) := of_decide_eq_true (by first | (with_reducible assumption) | assumption)
                                  have q1158 : x8_2 < (l0.length : Int) := of_decide_eq_true (by first | (with_reducible assumption) | assumption)
                                  obtain ⟨ad1158, e1158, hx1158_0⟩ := Kd.at_int HR0.out x8_2 p1158 q1158
                                  obtain rfl : ad1157 = ad1158 := (by injection e1158)
                                  replace hx1158_0 := (HB.out.cell (World.block_lt_of_cell? w _ hx1158_0)).trans hx1158_0
                                  replace p1158 := eq_true p1158
                                  replace q1158 := eq_true q1158
                                  have p1159 : 0 ≤ (x6_1 : Int) := of_decide_eq_true (by first | (with_reducible assumption) | assumption)
                                  have q1159 : x6_1 < (l0.length : Int) := of_decide_eq_true (by first | (with_reducible assumption) | assumption)
                                  obtain ⟨ad1159, e1159, hx1159_0⟩ := Kd.at_int HR0.out x6_1 p1159 q1159
                                  obtain rfl : ad1157 = ad1159 := (by injection e1159)
                                  replace hx1159_0 := (HB.out.cell (World.block_lt_of_cell? w _ hx1159_0)).trans hx1159_0
                                  replace p1159 := eq_true p1159
                                  replace q1159 := eq_true q1159
                                  have p1160 : 0 ≤ (x8_2 : Int) := of_decide_eq_true (by first | (with_reducible assumption) | assumption)
                                  have q1160 : x8_2 < (l0.length : Int) := of_decide_eq_true (by first | (with_reducible assumption) | assumption)
                                  obtain ⟨ad1160, e1160, hx1160_0⟩ := Kd.at_int HR0.out x8_2 p1160 q1160
                                  obtain rfl : ad1157 = ad1160 := (by injection e1160)
                                  replace hx1160_0 := (HB.out.cell (World.block_lt_of_cell? w _ hx1160_0)).trans hx1160_0
                                  replace p1160 := eq_true p1160
                                  replace q1160 := eq_true q1160
                                  have p1161 : 0 ≤ (x6_1 : Int) := of_decide_eq_true (by first | (with_reducible assumption) | assumption)
                                  have q1161 : x6_1 < (l0.length : Int) := of_decide_eq_true (by first | (with_reducible assumption) | assumption)
                                  obtain ⟨ad1161, e1161, hx1161_0⟩ := Kd.at_int HR0.out x6_1 p1161 q1161
                                  obtain rfl : ad1157 = ad1161 := (by injection e1161)
                                  replace hx1161_0 := (HB.out.cell (World.block_lt_of_cell? w _ hx1161_0)).trans hx1161_0
                                  replace p1161 := eq_true p1161
                                  replace q1161 := eq_true q1161
                                  go_wp2
                                  repeat (go_quiet (fail); try go_wp2)
                                  go_roundg k2
                                  case measure => have := HK1.out; have := HK2.out; omega
                                  case rel => exact ⟨(false), (wrap64 (x8_2 + 1)), (by first | rfl | (simp; done) | (simp [*]; done)), (by first | rfl | (simp; done) | (simp [*]; done)), H', ⟨by have := HK1.out; have := HK2.out; omega⟩, ⟨br HO_5.out⟩, ⟨bk BK1156.out⟩, ⟨bz⟩⟩
                                · rw [if_neg c17] at H
                                  have c17b0 := decide_eq_false c17
                                  clear c17
                                  have H' := m0 H
                                  clear H
                                  obtain ⟨_, _, _, _⟩ := b2 BK1156
                                  have p1158 : 0 ≤ (x8_2 : Int) := of_decide_eq_true (by first | (with_reducible assumption) | assumption)
                                  have q1158 : x8_2 < (l0.length : Int) := of_decide_eq_true (by first | (with_reducible assumption) | assumption)
                                  obtain ⟨ad1158, e1158, hx1158_0⟩ := Kd.at_int HR0.out x8_2 p1158 q1158
                                  obtain rfl : ad1157 = ad1158 := (by injection e1158)
                                  replace hx1158_0 := (HB.out.cell (World.block_lt_of_cell? w _ hx1158_0)).trans hx1158_0
                                  replace p1158 := eq_true p1158
                                  replace q1158 := eq_true q1158
                                  have p1159 : 0 ≤ (x6_1 : Int) := of_decide_eq_true (by first | (with_reducible assumption) | assumption)
                                  have q1159 : x6_1 < (l0.length : Int) := of_decide_eq_true (by first | (with_reducible assumption) | assumption)
                                  obtain ⟨ad1159, e1159, hx1159_0⟩ := Kd.at_int HR0.out x6_1 p1159 q1159
                                  obtain rfl : ad1157 = ad1159 := (by injection e1159)
                                  replace hx1159_0 := (HB.out.cell (World.block_lt_of_cell? w _ hx1159_0)).trans hx1159_0
                                  replace p1159 := eq_true p1159
                                  replace q1159 := eq_true q1159
                                  have p1160 : 0 ≤ (x8_2 : Int) := of_decide_eq_true (by first | (with_reducible assumption) | assumption)
                                  have q1160 : x8_2 < (l0.length : Int) := of_decide_eq_true (by first | (with_reducible assumption) | assumption)
                                  obtain ⟨ad1160, e1160, hx1160_0⟩ := Kd.at_int HR0.out x8_2 p1160 q1160
                                  obtain rfl : ad1157 = ad1160 := (by injection e1160)
                                  replace hx1160_0 := (HB.out.cell (World.block_lt_of_cell? w _ hx1160_0)).trans hx1160_0
                                  replace p1160 := eq_true p1160
                                  replace q1160 := eq_true q1160
                                  have p1161 : 0 ≤ (x6_1 : Int) := of_decide_eq_true (by first | (with_reducible assumption) | assumption)
                                  have q1161 : x6_1 < (l0.length : Int) := of_decide_eq_true (by first | (with_reducible assumption) | assumption)
                                  obtain ⟨ad1161, e1161, hx1161_0⟩ := Kd.at_int HR0.out x6_1 p1161 q1161
                                  obtain rfl : ad1157 = ad1161 := (by injection e1161)
                                  replace hx1161_0 := (HB.out.cell (World.block_lt_of_cell? w _ hx1161_0)).trans hx1161_0
                                  replace p1161 := eq_true p1161
                                  replace q1161 := eq_true q1161
                                  go_wp2
                                  repeat (go_quiet (fail); try go_wp2)
                                  go_roundg k2
                                  case measure => have := HK1.out; have := HK2.out; omega
                                  case rel => exact ⟨(x7_2), (wrap64 (x8_2 + 1)), (by first | rfl | (simp; done) | (simp [*]; done)), (by first | rfl | (simp; done) | (simp [*]; done)), H', ⟨by have := HK1.out; have := HK2.out; omega⟩, ⟨br HO_5.out⟩, ⟨bk BK1156.out⟩, ⟨bz⟩⟩
                              · rw [if_neg c16] at H
                                have c16b0 := decide_eq_false c16
                                clear c16
                                have H' := m0 H
                                clear H
                                obtain ⟨_, _, _, _⟩ := b2 BK1156
                                have p1158 : 0 ≤ (x8_2 : Int) := of_decide_eq_true (by first | (with_reducible assumption) | assumption)
                                have q1158 : x8_2 < (l0.length : Int) := of_decide_eq_true (by first | (with_reducible assumption) | assumption)
                                obtain ⟨ad1158, e1158, hx1158_0⟩ := Kd.at_int HR0.out x8_2 p1158 q1158
                                obtain rfl : ad1157 = ad1158 := (by injection e1158)
                                replace hx1158_0 := (HB.out.cell (World.block_lt_of_cell? w _ hx1158_0)).trans hx1158_0
                                replace p1158 := eq_true p1158
                                replace q1158 := eq_true q1158
                                have p1159 : 0 ≤ (x6_1 : Int) := of_decide_eq_true (by first | (with_reducible assumption) | assumption)
                                have q1159 : x6_1 < (l0.length : Int) := of_decide_eq_true (by first | (with_reducible assumption) | assumption)
                                obtain ⟨ad1159, e1159, hx1159_0⟩ := Kd.at_int HR0.out x6_1 p1159 q1159
                                obtain rfl : ad1157 = ad1159 := (by injection e1159)
                                replace hx1159_0 := (HB.out.cell (World.block_lt_of_cell? w _ hx1159_0)).trans hx1159_0
                                replace p1159 := eq_true p1159
                                replace q1159 := eq_true q1159
                                go_wp2
                                repeat (go_quiet (fail); try go_wp2)
                                go_roundg k2
                                case measure => have := HK1.out; have := HK2.out; omega
                                case rel => exact ⟨(x7_2), (wrap64 (x8_2 + 1)), (by first | rfl | (simp; done) | (simp [*]; done)), (by first | rfl | (simp; done) | (simp [*]; done)), H', ⟨by have := HK1.out; have := HK2.out; omega⟩, ⟨br HO_5.out⟩, ⟨bk BK1156.out⟩, ⟨bz⟩⟩
                            · rw [if_neg c15] at H
                              have c15b0 := decide_eq_false c15
                              clear c15
                              have H' := m0 H
                              clear H
                              obtain ⟨_, _, _, _⟩ := b2 BK1156
                              have p1158 : 0 ≤ (x8_2 : Int) := of_decide_eq_true (by first | (with_reducible assumption) | assumption)
                              have q1158 : x8_2 < (l0.length : Int) := of_decide_eq_true (by first | (with_reducible assumption) | assumption)
                              obtain ⟨ad1158, e1158, hx1158_0⟩ := Kd.at_int HR0.out x8_2 p1158 q1158
                              obtain rfl : ad1157 = ad1158 := (by injection e1158)
                              replace hx1158_0 := (HB.out.cell (World.block_lt_of_cell? w _ hx1158_0)).trans hx1158_0
                              replace p1158 := eq_true p1158
                              replace q1158 := eq_true q1158
                              have p1159 : 0 ≤ (x6_1 : Int) := of_decide_eq_true (by first | (with_reducible assumption) | assumption)
                              have q1159 : x6_1 < (l0.length : Int) := of_decide_eq_true (by first | (with_reducible assumption) | assumption)
                              obtain ⟨ad1159, e1159, hx1159_0⟩ := Kd.at_int HR0.out x6_1 p1159 q1159
                              obtain rfl : ad1157 = ad1159 := (by injection e1159)
                              replace hx1159_0 := (HB.out.cell (World.block_lt_of_cell? w _ hx1159_0)).trans hx1159_0
                              replace p1159 := eq_true p1159
                              replace q1159 := eq_true q1159
                              go_wp2
                              repeat (go_quiet (fail); try go_wp2)
                              go_roundg k2
                              case measure => have := HK1.out; have := HK2.out; omega
                              case rel => exact ⟨(x7_2), (wrap64 (x8_2 + 1)), (by first | rfl | (simp; done) | (simp [*]; done)), (by first | rfl | (simp; done) | (simp [*]; done)), H', ⟨by have := HK1.out; have := HK2.out; omega⟩, ⟨br HO_5.out⟩, ⟨bk BK1156.out⟩, ⟨bz⟩⟩
                        · rw [if_neg c12] at H
                          exact absurd H (by simp)
                      · rw [if_neg c11] at H
                        exact absurd H (by simp)
                    · rw [if_neg c10] at H
                      exact absurd H (by simp)
                  · rw [if_neg c9] at H
                    have c9b0 := decide_eq_false c9
                    clear c9
                    by_cases c22 : x8_2 > x6_1
                    · rw [if_pos c22] at H
                      have c22b0 := decide_eq_true c22
                      clear c22
                      by_cases c23 : (wrap64 (x8_2 - x6_1)) ≤ a1_1
                      · rw [if_pos c23] at H
                        have c23b0 := decide_eq_true c23
                        clear c23
                        by_cases c24 : 0 ≤ x8_2
                        · rw [if_pos c24] at H
                          have c24b0 := decide_eq_true c24
                          clear c24
                          by_cases c25 : 0 ≤ x6_1
                          · rw [if_pos c25] at H
                            have c25b0 := decide_eq_true c25
                            clear c25
                            by_cases c26 : x6_1 < (l0.length : Int)
                            · rw [if_pos c26] at H
                              have c26b0 := decide_eq_true c26
                              clear c26
                              by_cases c27 : (rd l0 x8_2) > (rd l0 x6_1)
                              · rw [if_pos c27] at H
                                have c27b0 := decide_eq_true c27
                                clear c27
                                have H' := m0 H
                                clear H
                                obtain ⟨_, _, _, _⟩ := b2 BK1156
                                have p1162 : 0 ≤ (x8_2 : Int) := of_decide_eq_true (by first | (with_reducible assumption) | assumption)
                                have q1162 : x8_2 < (l0.length : Int) := of_decide_eq_true (by first | (with_reducible assumption) | assumption)
                                obtain ⟨ad1162, e1162, hx1162_0⟩ := Kd.at_int HR0.out x8_2 p1162 q1162
                                obtain rfl : ad1157 = ad1162 := (by injection e1162)
                                replace hx1162_0 := (HB.out.cell (World.block_lt_of_cell? w _ hx1162_0)).trans hx1162_0
                                replace p1162 := eq_true p1162
                                replace q1162 := eq_true q1162
                                have p1163 : 0 ≤ (x6_1 : Int) := of_decide_eq_true (by first | (with_reducible assumption) | assumption)
                                have q1163 : x6_1 < (l0.length : Int) := of_decide_eq_true (by first | (with_reducible assumption) | assumption)
                                obtain ⟨ad1163, e1163, hx1163_0⟩ := Kd.at_int HR0.out x6_1 p1163 q1163
                                obtain rfl : ad1157 = ad1163 := (by injection e1163)
                                replace hx1163_0 := (HB.out.cell (World.block_lt_of_cell? w _ hx1163_0)).trans hx1163_0
                                replace p1163 := eq_true p1163
                                replace q1163 := eq_true q1163
                                go_wp2
                                repeat (go_quiet (fail); try go_wp2)
                                go_roundg k2
                                case measure => have := HK1.out; have := HK2.out; omega
                                case rel => exact ⟨(false), (wrap64 (x8_2 + 1)), (by first | rfl | (simp; done) | (simp [*]; done)), (by first | rfl | (simp; done) | (simp [*]; done)), H', ⟨by have := HK1.out; have := HK2.out; omega⟩, ⟨br HO_5.out⟩, ⟨bk BK1156.out⟩, ⟨bz⟩⟩
                              · rw [if_neg c27] at H
                                have c27b0 := decide_eq_false c27
                                clear c27
                                have H' := m0 H
                                clear H
                                obtain ⟨_, _, _, _⟩ := b2 BK1156
                                have p1162 : 0 ≤ (x8_2 : Int) := of_decide_eq_true (by first | (with_reducible assumption) | assumption)
                                have q1162 : x8_2 < (l0.length : Int) := of_decide_eq_true (by first | (with_reducible assumption) | assumption)
                                obtain ⟨ad1162, e1162, hx1162_0⟩ := Kd.at_int HR0.out x8_2 p1162 q1162
                                obtain rfl : ad1157 = ad1162 := (by injection e1162)
                                replace hx1162_0 := (HB.out.cell (World.block_lt_of_cell? w _ hx1162_0)).trans hx1162_0
                                replace p1162 := eq_true p1162
                                replace q1162 := eq_true q1162
                                have p1163 : 0 ≤ (x6_1 : Int) := of_decide_eq_true (by first | (with_reducible assumption) | assumption)
                                have q1163 : x6_1 < (l0.length : Int) := of_decide_eq_true (by first | (with_reducible assumption) | assumption)
                                obtain ⟨ad1163, e1163, hx1163_0⟩ := Kd.at_int HR0.out x6_1 p1163 q1163
                                obtain rfl : ad1157 = ad1163 := (by injection e1163)
                                replace hx1163_0 := (HB.out.cell (World.block_lt_of_cell? w _ hx1163_0)).trans hx1163_0
                                replace p1163 := eq_true p1163
                                replace q1163 := eq_true q1163
                                go_wp2
                                repeat (go_quiet (fail); try go_wp2)
                                go_roundg k2
                                case measure => have := HK1.out; have := HK2.out; omega
                                case rel => exact ⟨(x7_2), (wrap64 (x8_2 + 1)), (by first | rfl | (simp; done) | (simp [*]; done)), (by first | rfl | (simp; done) | (simp [*]; done)), H', ⟨by have := HK1.out; have := HK2.out; omega⟩, ⟨br HO_5.out⟩, ⟨bk BK1156.out⟩, ⟨bz⟩⟩
                            · rw [if_neg c26] at H
                              exact absurd H (by simp)
                          · rw [if_neg c25] at H
                            exact absurd H (by simp)
                        · rw [if_neg c24] at H
                          exact absurd H (by simp)
                      · rw [if_neg c23] at H
                        have c23b0 := decide_eq_false c23
                        clear c23
                        have H' := m0 H
                        clear H
                        obtain ⟨_, _, _, _⟩ := b2 BK1156
                        go_wp2
                        repeat (go_quiet (fail); try go_wp2)
                        go_roundg k2
                        case measure => have := HK1.out; have := HK2.out; omega
                        case rel => exact ⟨(x7_2), (wrap64 (x8_2 + 1)), (by first | rfl | (simp; done) | (simp [*]; done)), (by first | rfl | (simp; done) | (simp [*]; done)), H', ⟨by have := HK1.out; have := HK2.out; omega⟩, ⟨br HO_5.out⟩, ⟨bk BK1156.out⟩, ⟨bz⟩⟩
                    · rw [if_neg c22] at H
                      have c22b0 := decide_eq_false c22
                      clear c22
                      have H' := m0 H
                      clear H
                      obtain ⟨_, _, _, _⟩ := b2 BK1156
                      go_wp2
                      repeat (go_quiet (fail); try go_wp2)
                      go_roundg k2
                      case measure => have := HK1.out; have := HK2.out; omega
                      case rel => exact ⟨(x7_2), (wrap64 (x8_2 + 1)), (by first | rfl | (simp; done) | (simp [*]; done)), (by first | rfl | (simp; done) | (simp [*]; done)), H', ⟨by have := HK1.out; have := HK2.out; omega⟩, ⟨br HO_5.out⟩, ⟨bk BK1156.out⟩, ⟨bz⟩⟩
                · rw [if_neg c8] at H
                  have c8b0 := decide_eq_false c8
                  clear c8
                  by_cases c32 : x8_2 > x6_1
                  · rw [if_pos c32] at H
                    have c32b0 := decide_eq_true c32
                    clear c32
                    by_cases c33 : (wrap64 (x8_2 - x6_1)) ≤ a1_1
                    · rw [if_pos c33] at H
                      have c33b0 := decide_eq_true c33
                      clear c33
                      by_cases c34 : 0 ≤ x8_2
                      · rw [if_pos c34] at H
                        have c34b0 := decide_eq_true c34
                        clear c34
                        by_cases c35 : 0 ≤ x6_1
                        · rw [if_pos c35] at H
                          have c35b0 := decide_eq_true c35
                          clear c35
                          by_cases c36 : x6_1 < (l0.length : Int)
                          · rw [if_pos c36] at H
                            have c36b0 := decide_eq_true c36
                            clear c36
                            by_cases c37 : (rd l0 x8_2) > (rd l0 x6_1)
                            · rw [if_pos c37] at H
                              have c37b0 := decide_eq_true c37
                              clear c37
                              have H' := m0 H
                              clear H
                              obtain ⟨_, _, _, _⟩ := b2 BK1156
                              have p1164 : 0 ≤ (x8_2 : Int) := of_decide_eq_true (by first | (with_reducible assumption) | assumption)
                              have q1164 : x8_2 < (l0.length : Int) := of_decide_eq_true (by first | (with_reducible assumption) | assumption)
                              obtain ⟨ad1164, e1164, hx1164_0⟩ := Kd.at_int HR0.out x8_2 p1164 q1164
                              obtain rfl : ad1157 = ad1164 := (by injection e1164)
                              replace hx1164_0 := (HB.out.cell (World.block_lt_of_cell? w _ hx1164_0)).trans hx1164_0
                              replace p1164 := eq_true p1164
                              replace q1164 := eq_true q1164
                              have p1165 : 0 ≤ (x6_1 : Int) := of_decide_eq_true (by first | (with_reducible assumption) | assumption)
                              have q1165 : x6_1 < (l0.length : Int) := of_decide_eq_true (by first | (with_reducible assumption) | assumption)
                              obtain ⟨ad1165, e1165, hx1165_0⟩ := Kd.at_int HR0.out x6_1 p1165 q1165
                              obtain rfl : ad1157 = ad1165 := (by injection e1165)
                              replace hx1165_0 := (HB.out.cell (World.block_lt_of_cell? w _ hx1165_0)).trans hx1165_0
                              replace p1165 := eq_true p1165
                              replace q1165 := eq_true q1165
                              go_wp2
                              repeat (go_quiet (fail); try go_wp2)
                              go_roundg k2
                              case measure => have := HK1.out; have := HK2.out; omega
                              case rel => exact ⟨(false), (wrap64 (x8_2 + 1)), (by first | rfl | (simp; done) | (simp [*]; done)), (by first | rfl | (simp; done) | (simp [*]; done)), H', ⟨by have := HK1.out; have := HK2.out; omega⟩, ⟨br HO_5.out⟩, ⟨bk BK1156.out⟩, ⟨bz⟩⟩
                            · rw [if_neg c37] at H
                              have c37b0 := decide_eq_false c37
                              clear c37
                              have H' := m0 H
                              clear H
                              obtain ⟨_, _, _, _⟩ := b2 BK1156
                              have p1164 : 0 ≤ (x8_2 : Int) := of_decide_eq_true (by first | (with_reducible assumption) | assumption)
                              have q1164 : x8_2 < (l0.length : Int) := of_decide_eq_true (by first | (with_reducible assumption) | assumption)
                              obtain ⟨ad1164, e1164, hx1164_0⟩ := Kd.at_int HR0.out x8_2 p1164 q1164
                              obtain rfl : ad1157 = ad1164 := (by injection e1164)
                              replace hx1164_0 := (HB.out.cell (World.block_lt_of_cell? w _ hx1164_0)).trans hx1164_0
                              replace p1164 := eq_true p1164
                              replace q1164 := eq_true q1164
                              have p1165 : 0 ≤ (x6_1 : Int) := of_decide_eq_true (by first | (with_reducible assumption) | assumption)
                              have q1165 : x6_1 < (l0.length : Int) := of_decide_eq_true (by first | (with_reducible assumption) | assumption)
                              obtain ⟨ad1165, e1165, hx1165_0⟩ := Kd.at_int HR0.out x6_1 p1165 q1165
                              obtain rfl : ad1157 = ad1165 := (by injection e1165)
                              replace hx1165_0 := (HB.out.cell (World.block_lt_of_cell? w _ hx1165_0)).trans hx1165_0
                              replace p1165 := eq_true p1165
                              replace q1165 := eq_true q1165
                              go_wp2
                              repeat (go_quiet (fail); try go_wp2)
                              go_roundg k2
                              case measure => have := HK1.out; have := HK2.out; omega
                              case rel => exact ⟨(x7_2), (wrap64 (x8_2 + 1)), (by first | rfl | (simp; done) | (simp [*]; done)), (by first | rfl | (simp; done) | (simp [*]; done)), H', ⟨by have := HK1.out; have := HK2.out; omega⟩, ⟨br HO_5.out⟩, ⟨bk BK1156.out⟩, ⟨bz⟩⟩
                          · rw [if_neg c36] at H
                            exact absurd H (by simp)
                        · rw [if_neg c35] at H
                          exact absurd H (by simp)
                      · rw [if_neg c34] at H
                        exact absurd H (by simp)
                    · rw [if_neg c33] at H
                      have c33b0 := decide_eq_false c33
                      clear c33
                      have H' := m0 H
                      clear H
                      obtain ⟨_, _, _, _⟩ := b2 BK1156
                      go_wp2
                      repeat (go_quiet (fail); try go_wp2)
                      go_roundg k2
                      case measure => have := HK1.out; have := HK2.out; omega
                      case rel => exact ⟨(x7_2), (wrap64 (x8_2 + 1)), (by first | rfl | (simp; done) | (simp [*]; done)), (by first | rfl | (simp; done) | (simp [*]; done)), H', ⟨by have := HK1.out; have := HK2.out; omega⟩, ⟨br HO_5.out⟩, ⟨bk BK1156.out⟩, ⟨bz⟩⟩
                  · rw [if_neg c32] at H
                    have c32b0 := decide_eq_false c32
                    clear c32
                    have H' := m0 H
                    clear H
                    go_wp2
                    repeat (go_quiet (fail); try go_wp2)
                    go_roundg k2
                    case measure => have := HK1.out; have := HK2.out; omega
                    case rel => exact ⟨(x7_2), (wrap64 (x8_2 + 1)), (by first | rfl | (simp; done) | (simp [*]; done)), (by first | rfl | (simp; done) | (simp [*]; done)), H', ⟨by have := HK1.out; have := HK2.out; omega⟩, ⟨br HO_5.out⟩, ⟨bk BK1156.out⟩, ⟨bz⟩⟩
              · rw [if_neg c7] at H
                have c7b0 := decide_eq_false c7
                clear c7
                by_cases c41 : x7_2 = true
                · subst c41
                  rw [if_pos rfl] at H
                  by_cases c42 : x5_1.length < 17592186044416
                  · rw [if_pos c42] at H
                    have LMc42 := m0 c42
                    clear c42
                    obtain ⟨y1166, hy1166⟩ : ∃ y_ : List Int, y_ = (x5_1 ++ [x6_1]) := ⟨_, rfl⟩
                    replace H : (Rf_Detections.l0 k2 l0 y1166 (wrap64 (x6_1 + 1)) a1_0 a1_1) = some r := by first | (rw [hy1166]; with_reducible exact H) | (have H2_ := (Option.bind_some _ _).symm.trans H; rw [hy1166]; with_reducible exact H2_) | (have H2_ := (Option.bind_some _ _).symm.trans H; with_reducible exact H2_) | with_reducible exact H | (rw [hy1166]; exact H) | exact H
                    have Ny1166 := m0 hy1166
                    clear hy1166
                    have H' := m0 H
                    clear H
                    go_wp2_with (first | ((with_reducible refine gate_builtin (b := .append) (xs := #[.tmp 75, .tmp 77]) rfl ?_); at_builtin; refine Kd.R_append (Kd.int .i64) (w0 := w) w.heap.size rfl (.tmp 75) (.tmp 77) 22 3 (.int .i64 0) 8 rfl Tryd.underlying22 info3 rfl (by decide) (by omega) u5 x5_1 x6_1 [.int .i64 x6_1] (fun _ => True) (fun _ => False) rfl rfl ?aP (fun _ hk => hk.elim) ?aF ?aO ?aB ?aS ?aL ?_; (case aP => exact rfl); (case aB => exact bz); (case aF => exact (fun _ _ => trivial)); (case aO => exact (br HO_5.out)); (case aS => exact (below_size bz)); (case aL => have := LMc42.out; omega); intro v1167 w43 ho hb hg hat; rw [← Ny1166.out] at ho; have n0_ := m0 (blk_grown (g := gb1156) (o := .cells #[.int .i64 a1_0, .int .i64 a1_1] 57 (0, 0)) (bk BK1156.out) hg (Kd.R_ne HO_5.out BK1156.out (by decide))); have n1_ := m0 (hb); have n2_ := m0 (ho); clear BK1156; clear HB; clear HO_5; have BK1156 := n0_; have HB := n1_; have HO1168 := n2_; clear n0_ n1_ n2_; clear ho hb hg hat))
                    repeat (go_quiet (first | ((with_reducible refine gate_builtin (b := .append) (xs := #[.tmp 75, .tmp 77]) rfl ?_); at_builtin; refine Kd.R_append (Kd.int .i64) (w0 := w) w.heap.size rfl (.tmp 75) (.tmp 77) 22 3 (.int .i64 0) 8 rfl Tryd.underlying22 info3 rfl (by decide) (by omega) u5 x5_1 x6_1 [.int .i64 x6_1] (fun _ => True) (fun _ => False) rfl rfl ?aP (fun _ hk => hk.elim) ?aF ?aO ?aB ?aS ?aL ?_; (case aP => exact rfl); (case aB => exact bz); (case aF => exact (fun _ _ => trivial)); (case aO => exact (br HO_5.out)); (case aS => exact (below_size bz)); (case aL => have := LMc42.out; omega); intro v1167 w43 ho hb hg hat; rw [← Ny1166.out] at ho; have n0_ := m0 (blk_grown (g := gb1156) (o := .cells #[.int .i64 a1_0, .int .i64 a1_1] 57 (0, 0)) (bk BK1156.out) hg (Kd.R_ne HO_5.out BK1156.out (by decide))); have n1_ := m0 (hb); have n2_ := m0 (ho); clear BK1156; clear HB; clear HO_5; have BK1156 := n0_; have HB := n1_; have HO1168 := n2_; clear n0_ n1_ n2_; clear ho hb hg hat)); try go_wp2_with (first | ((with_reducible refine gate_builtin (b := .append) (xs := #[.tmp 75, .tmp 77]) rfl ?_); at_builtin; refine Kd.R_append (Kd.int .i64) (w0 := w) w.heap.size rfl (.tmp 75) (.tmp 77) 22 3 (.int .i64 0) 8 rfl Tryd.underlying22 info3 rfl (by decide) (by omega) u5 x5_1 x6_1 [.int .i64 x6_1] (fun _ => True) (fun _ => False) rfl rfl ?aP (fun _ hk => hk.elim) ?aF ?aO ?aB ?aS ?aL ?_; (case aP => exact rfl); (case aB => exact bz); (case aF => exact (fun _ _ => trivial)); (case aO => exact (br HO_5.out)); (case aS => exact (below_size bz)); (case aL => have := LMc42.out; omega); intro v1167 w43 ho hb hg hat; rw [← Ny1166.out] at ho; have n0_ := m0 (blk_grown (g := gb1156) (o := .cells #[.int .i64 a1_0, .int .i64 a1_1] 57 (0, 0)) (bk BK1156.out) hg (Kd.R_ne HO_5.out BK1156.out (by decide))); have n1_ := m0 (hb); have n2_ := m0 (ho); clear BK1156; clear HB; clear HO_5; have BK1156 := n0_; have HB := n1_; have HO1168 := n2_; clear n0_ n1_ n2_; clear ho hb hg hat)))
                    go_roundg k2
                    case measure => have := HK1.out; have := HK2.out; omega
                    case rel => exact ⟨(y1166), (wrap64 (x6_1 + 1)), (by first | rfl | (simp; done) | (simp [*]; done)), H', ⟨by have := HK1.out; have := HK2.out; omega⟩, ⟨br HO1168.out⟩, ⟨bk BK1156.out⟩, ⟨bz⟩⟩
                  · rw [if_neg c42] at H
                    exact absurd H (by simp)
                · replace c41 := Bool.eq_false_iff.mpr c41
                  subst c41
                  rw [if_neg (show ¬ (false = true) by decide)] at H
                  have H' := m0 H
                  clear H
                  go_wp2
                  repeat (go_quiet (fail); try go_wp2)
                  go_roundg k2
                  case measure => have := HK1.out; have := HK2.out; omega
                  case rel => exact ⟨(x5_1), (wrap64 (x6_1 + 1)), (by first | rfl | (simp; done) | (simp [*]; done)), H', ⟨by have := HK1.out; have := HK2.out; omega⟩, ⟨br HO_5.out⟩, ⟨bk BK1156.out⟩, ⟨bz⟩⟩
        · rw [if_neg c5] at H
          exact absurd H (by simp)
      · rw [if_neg c4] at H
        have c4b0 := decide_eq_false c4
        clear c4
        obtain rfl := Option.some.inj H
        go_wp2
        repeat (go_quiet (fail); try go_wp2)
        go_ret
        exact ⟨_, by first | rfl | (simp [errW_none, errW_some] <;> rfl) | (simp [*, errW_none, errW_some] <;> rfl), by (with_reducible repeat (first | apply Kd.R_alloc | apply Kd.R_drewN | apply Kd.R_drew)); exact HO_5.out, by repeat (first | (with_reducible first | exact HB.out | apply below_alloc | apply pw_below_drewN | apply below_drew1 | refine below_set ?_ GE1156.out) | exact HB.out)⟩
end
section
def Rf_Sum.l0 : Nat → List Int → Int → Int → Option (Int)
 | 0, _, _, _ => none
 | k + 1, x0, x3, x4 => if x4 < (x0.length : Int) then (if 0 ≤ x4 then (Rf_Sum.l0 k x0 (wrap64 (x3 + (rd x0 x4))) (wrap64 (x4 + 1))) else (none)) else (some x3)
def Rf_Sum.f (k : Nat) (l0 : List Int) : Option (Int) := Rf_Sum.l0 k l0 0 0
theorem Rf_Sum.mono_l : ∀ k, (∀ y0 y1 y2, LeO (Rf_Sum.l0 k y0 y1 y2) (Rf_Sum.l0 (k + 1) y0 y1 y2))
 | 0 => fun _ _ _ r h => by simp [Rf_Sum.l0] at h
 | k + 1 => by
  have ih0 := Rf_Sum.mono_l k
  ·intro y0 y1 y2
   unfold Rf_Sum.l0
   repeat' first
   | (with_reducible exact ih0 _ _ _)
   | (with_reducible exact LeO.refl _)
   | (with_reducible exact LeO.none _)
   | (with_reducible refine LeO.ite ?_ ?_)
   | (with_reducible refine LeO.bind ?_ (fun _ => ?_))
   | exact ih0 _ _ _
   | exact LeO.none _
   | refine LeO.ite ?_ ?_
   | refine LeO.bind ?_ (fun _ => ?_)
theorem Rf_Sum.mono : ∀ a0 k, LeO (Rf_Sum.f k a0) (Rf_Sum.f (k + 1) a0) := by
 intro a0 k
 have ih0 := Rf_Sum.mono_l k
 unfold Rf_Sum.f
 repeat' first
   | (with_reducible exact ih0 _ _ _)
   | (with_reducible exact LeO.refl _)
   | (with_reducible exact LeO.none _)
   | (with_reducible refine LeO.ite ?_ ?_)
   | (with_reducible refine LeO.bind ?_ (fun _ => ?_))
   | exact ih0 _ _ _
   | exact LeO.none _
   | refine LeO.ite ?_ ?_
   | refine LeO.bind ?_ (fun _ => ?_)
theorem Rf_Sum.calls (k : Nat) (A0 : Option Addr) (c0 : Nat) (l0 : List Int) (r : Int) (w : World) (hr0 : Kd.C (Kd.int .i64) w A0 l0.length l0) (hc0 : l0.length ≤ c0) (h : Rf_Sum.f k l0 = some r) :
  Calls Tryd.prog 39 #[.slice A0 l0.length c0] w fun e w' => e = .returned (.int .i64 r) ∧ Drawn0 w w' := by
 have HR0 := m0 hr0
 have HC0 := m0 hc0
 clear hr0 hc0
 have H : (Rf_Sum.l0 k l0 0 0) = some r := h
 clear h
 have H' := m0 H
 clear H
 go_enter Tryd.func39, Tryd.ntmps39
 go_wp2
 go_loopg [3, 4] k (fun kq v3 v4 w' => ∃ (x3_1 : Int) (x4_1 : Int), v3 = .int .i64 x3_1 ∧ v4 = .int .i64 x4_1 ∧ Aside0 (Rf_Sum.l0 kq l0 x3_1 x4_1 = some r) ∧ Aside0 (kq ≤ k) ∧ Drawn0 w w')
 case atStart => exact ⟨(0), (0), (by first | rfl | (simp; done) | (simp [*]; done)), (by first | rfl | (simp; done) | (simp [*]; done)), H', ⟨Nat.le_refl _⟩, by repeat (first | exact Drawn0.refl _ | apply Drawn0.step)⟩
 case round =>
  clear H'
  obtain ⟨x3_1, x4_1, rfl, rfl, HA, HK1, ⟨m1, rfl⟩⟩ := hrel
  cases gk with
  | zero => exact absurd HA.out (by simp [Rf_Sum.l0])
  | succ k1 =>
   have H := HA.out
   clear HA
   simp only [Rf_Sum.l0] at H
   by_cases c2 : x4_1 < (l0.length : Int)
   ·rw [if_pos c2] at H
    have c2b0 := decide_eq_true c2
    clear c2
    by_cases c3 : 0 ≤ x4_1
    ·rw [if_pos c3] at H
     have c3b0 := decide_eq_true c3
     clear c3
     have H' := m0 H
     clear H
     have p468 : 0 ≤ (x4_1 : Int) := of_decide_eq_true (by first | (with_reducible assumption) | assumption)
     have q468 : x4_1 < (l0.length : Int) := of_decide_eq_true (by first | (with_reducible assumption) | assumption)
     obtain ⟨ad468, e468, hx468_0⟩ := Kd.at_int HR0.out x4_1 p468 q468
     cases e468
     replace p468 := eq_true p468
     replace q468 := eq_true q468
     go_wp2
     go_roundg k1
     case measure => have := HK1.out; omega
     case rel => exact ⟨(wrap64 (x3_1 + (rd l0 x4_1))), (wrap64 (x4_1 + 1)), (by first | rfl | (simp; done) | (simp [*]; done)), (by first | rfl | (simp; done) | (simp [*]; done)), H', ⟨by have := HK1.out; omega⟩, by repeat (first | exact Drawn0.refl _ | apply Drawn0.step)⟩
    ·rw [if_neg c3] at H
     exact absurd H (by simp)
   ·rw [if_neg c2] at H
    have c2b0 := decide_eq_false c2
    clear c2
    obtain rfl := Option.some.inj H
    go_wp2
    go_ret
    exact ⟨by first | rfl | (simp; done) | (simp [*]; done), by repeat (first | exact Drawn0.refl _ | apply Drawn0.step)⟩
end
end Go.Proofs.YtjnkphmcndaijaaDoor.A
