/- Walks of the program's functions (printed, made shorter), each with what it computes. -/
import Derived.Test.YtjnkphmcndaijaaDoorDts04
import Derived.Test.YtjnkphmcndaijaaDoorDts11
import Derived.Test.YtjnkphmcndaijaaDoorDts14
import Derived.Test.YtjnkphmcndaijaaDoorDts03
import Derived.Test.YtjnkphmcndaijaaDoorDts05
import Derived.Test.YtjnkphmcndaijaaDoorDts13
namespace Go.Proofs.YtjnkphmcndaijaaDoor.A
set_option maxHeartbeats 8000000
set_option maxRecDepth 100000
open Go.RowKit Go.Proofs.YtjnkphmcndaijaaDoorW.PrintWords Go.Proofs.YtjnkphmcndaijaaDoorW.PrintLast Go.Proofs.YtjnkphmcndaijaaDoorW.PrintMore
attribute [local go_sem] max2_int min2_int max_two min_two max_three min_three max_four min_four
set_option linter.unusedVariables false
set_option linter.unusedSimpArgs false
section
def Rf_Quality.f (k : Nat) (l0 : List Int) (a1 : Int) : Option (Int × Int × Bool) := (Rf_Sum.f k l0).bind fun t1170 => (if 0 ≤ a1 then (if a1 < (l0.length : Int) then (if (wrap64 (t1170 - (rd l0 a1))) = 0 then (some (0, 0, false)) else ((Bs_Lowest.f k (wrap64 ((rd l0 a1) * (wrap64 ((l0.length : Int) - 1)))) (wrap64 (t1170 - (rd l0 a1)))).bind fun bt1173 => (some (bt1173.1, bt1173.2, true)))) else (none)) else (none))
theorem Rf_Quality.mono : ∀ a0 a1 k, LeO (Rf_Quality.f k a0 a1) (Rf_Quality.f (k + 1) a0 a1) := by
 intro a0 a1 k
 unfold Rf_Quality.f
 repeat' first
   | (with_reducible exact Bs_Lowest.mono _ _ _)
   | (with_reducible exact Rf_Sum.mono _ _)
   | (with_reducible exact LeO.refl _)
   | (with_reducible exact LeO.none _)
   | (with_reducible refine LeO.ite ?_ ?_)
   | (with_reducible refine LeO.bind ?_ (fun _ => ?_))
   | exact Bs_Lowest.mono _ _ _
   | exact Rf_Sum.mono _ _
   | exact LeO.none _
   | refine LeO.ite ?_ ?_
   | refine LeO.bind ?_ (fun _ => ?_)
theorem Rf_Quality.calls (k : Nat) (A0 : Option Addr) (c0 : Nat) (l0 : List Int) (a1 : Int) (r1 : Int) (r2 : Int) (r3 : Bool) (w : World) (hr0 : Kd.C (Kd.int .i64) w A0 l0.length l0) (hc0 : l0.length ≤ c0) (h : Rf_Quality.f k l0 a1 = some (r1, r2, r3)) :
  Calls Tryd.prog 65 #[.slice A0 l0.length c0, .int .i64 a1] w fun e w' => e = .returned (.tuple #[.agg #[.int .i64 r1, .int .i64 r2], .bool r3]) ∧ Below w.heap.size w w' := by
 have hu26 := Tryd.underlying26
 have HR0 := m0 hr0
 have HC0 := m0 hc0
 clear hr0 hc0
 have HB := m0 (Below.refl w.heap.size w)
 have H : ((Rf_Sum.f k l0).bind fun t1170 => (if 0 ≤ a1 then (if a1 < (l0.length : Int) then (if (wrap64 (t1170 - (rd l0 a1))) = 0 then (some (0, 0, false)) else ((Bs_Lowest.f k (wrap64 ((rd l0 a1) * (wrap64 ((l0.length : Int) - 1)))) (wrap64 (t1170 - (rd l0 a1)))).bind fun bt1173 => (some (bt1173.1, bt1173.2, true)))) else (none)) else (none))) = some (r1, r2, r3) := h
 clear h
 replace H := ob H
 obtain ⟨t1170, A30, H⟩ := H
 (try dsimp only at H)
 have A3 := m0 A30
 clear A30
 by_cases c4 : 0 ≤ a1
 ·rw [if_pos c4] at H
  have c4b0 := decide_eq_true c4
  clear c4
  by_cases c5 : a1 < (l0.length : Int)
  ·rw [if_pos c5] at H
   have c5b0 := decide_eq_true c5
   clear c5
   by_cases c6 : (wrap64 (t1170 - (rd l0 a1))) = 0
   ·rw [if_pos c6] at H
    have c6b0 := beq_iff_eq.mpr c6
    have c6b1 := bne_eq_false_iff_eq.mpr c6
    clear c6
    simp only [Option.some.injEq, Prod.mk.injEq] at H
    obtain ⟨rfl, rfl, rfl⟩ := H
    go_enter Tryd.func65, Tryd.ntmps65
    go_wp2_with (first | ((with_reducible refine gate_dst (N := 4) rfl ?_); refine be 4 26 #[.int .i64 0, .int .i64 0] ?_; intro gb1169 hg w7 hbox hb; have BK1169 := m0 hbox; have GW1169 := m0 (bg (n := w.heap.size) hg); have GE1169 := m0 (bg (n := w.heap.size) hg); replace HB := sb HB hb; clear hb hbox hg) | (go_at_call 39; (with_reducible refine (Rf_Sum.calls k _ _ l0 t1170 _ ?side1 ?side2 A3.out).mono ?_); (case side1 => exact cb HR0 HB); (case side2 => exact HC0.out); rintro e w' ⟨rfl, ⟨nd, rfl⟩⟩; (try first | exact ⟨rfl, _, World.drewN_drewN _ _ _⟩ | exact ⟨rfl, _, Eq.trans (World.drewN_drewN _ _ _) (congrArg (World.drewN _) (Nat.add_assoc _ _ _))⟩); have p1171 : 0 ≤ (a1 : Int) := of_decide_eq_true (by first | (with_reducible assumption) | assumption); have q1171 : a1 < (l0.length : Int) := of_decide_eq_true (by first | (with_reducible assumption) | assumption); obtain ⟨ad1171, e1171, hx1171_0⟩ := Kd.at_int HR0.out a1 p1171 q1171; cases e1171; replace hx1171_0 := (HB.out.cell (World.block_lt_of_cell? w _ hx1171_0)).trans hx1171_0; replace p1171 := eq_true p1171; replace q1171 := eq_true q1171; obtain ⟨hcz8_0, hcz8_1, hfz8_0, hfz8_1⟩ := b2 BK1169))
    repeat (go_quiet (first | ((with_reducible refine gate_dst (N := 4) rfl ?_); refine be 4 26 #[.int .i64 0, .int .i64 0] ?_; intro gb1169 hg w7 hbox hb; have BK1169 := m0 hbox; have GW1169 := m0 (bg (n := w.heap.size) hg); have GE1169 := m0 (bg (n := w.heap.size) hg); replace HB := sb HB hb; clear hb hbox hg) | (go_at_call 39; (with_reducible refine (Rf_Sum.calls k _ _ l0 t1170 _ ?side1 ?side2 A3.out).mono ?_); (case side1 => exact cb HR0 HB); (case side2 => exact HC0.out); rintro e w' ⟨rfl, ⟨nd, rfl⟩⟩; (try first | exact ⟨rfl, _, World.drewN_drewN _ _ _⟩ | exact ⟨rfl, _, Eq.trans (World.drewN_drewN _ _ _) (congrArg (World.drewN _) (Nat.add_assoc _ _ _))⟩); have p1171 : 0 ≤ (a1 : Int) := of_decide_eq_true (by first | (with_reducible assumption) | assumption); have q1171 : a1 < (l0.length : Int) := of_decide_eq_true (by first | (with_reducible assumption) | assumption); obtain ⟨ad1171, e1171, hx1171_0⟩ := Kd.at_int HR0.out a1 p1171 q1171; cases e1171; replace hx1171_0 := (HB.out.cell (World.block_lt_of_cell? w _ hx1171_0)).trans hx1171_0; replace p1171 := eq_true p1171; replace q1171 := eq_true q1171; obtain ⟨hcz8_0, hcz8_1, hfz8_0, hfz8_1⟩ := b2 BK1169)); try go_wp2_with (first | ((with_reducible refine gate_dst (N := 4) rfl ?_); refine be 4 26 #[.int .i64 0, .int .i64 0] ?_; intro gb1169 hg w7 hbox hb; have BK1169 := m0 hbox; have GW1169 := m0 (bg (n := w.heap.size) hg); have GE1169 := m0 (bg (n := w.heap.size) hg); replace HB := sb HB hb; clear hb hbox hg) | (go_at_call 39; (with_reducible refine (Rf_Sum.calls k _ _ l0 t1170 _ ?side1 ?side2 A3.out).mono ?_); (case side1 => exact cb HR0 HB); (case side2 => exact HC0.out); rintro e w' ⟨rfl, ⟨nd, rfl⟩⟩; (try first | exact ⟨rfl, _, World.drewN_drewN _ _ _⟩ | exact ⟨rfl, _, Eq.trans (World.drewN_drewN _ _ _) (congrArg (World.drewN _) (Nat.add_assoc _ _ _))⟩); have p1171 : 0 ≤ (a1 : Int) := of_decide_eq_true (by first | (with_reducible assumption) | assumption); have q1171 : a1 < (l0.length : Int) := of_decide_eq_true (by first | (with_reducible assumption) | assumption); obtain ⟨ad1171, e1171, hx1171_0⟩ := Kd.at_int HR0.out a1 p1171 q1171; cases e1171; replace hx1171_0 := (HB.out.cell (World.block_lt_of_cell? w _ hx1171_0)).trans hx1171_0; replace p1171 := eq_true p1171; replace q1171 := eq_true q1171; obtain ⟨hcz8_0, hcz8_1, hfz8_0, hfz8_1⟩ := b2 BK1169)))
    refine bodyPost_ret (results_ct rfl _ _ gb1169 26 #[.int .i64 0, .int .i64 0] (0, 0) _ rfl (bq BK1169.out) Tryd.underlying26 rfl (by kernel_rfl)) rfl ?_
    exact ez
   ·rw [if_neg c6] at H
    have c6b0 := beq_eq_false_iff_ne.mpr c6
    have c6b1 := bne_iff_ne.mpr c6
    replace H := ob H
    obtain ⟨⟨t1173, t1174⟩, A90, H⟩ := H
    (try dsimp only at H)
    have A9 := m0 A90
    clear A90
    simp only [Option.some.injEq, Prod.mk.injEq] at H
    obtain ⟨rfl, rfl, rfl⟩ := H
    go_enter Tryd.func65, Tryd.ntmps65
    go_wp2_with (first | ((with_reducible refine gate_dst (N := 4) rfl ?_); refine be 4 26 #[.int .i64 0, .int .i64 0] ?_; intro gb1169 hg w10 hbox hb; have BK1169 := m0 hbox; have GW1169 := m0 (bg (n := w.heap.size) hg); have GE1169 := m0 (bg (n := w.heap.size) hg); replace HB := sb HB hb; clear hb hbox hg) | (go_at_call 39; (with_reducible refine (Rf_Sum.calls k _ _ l0 t1170 _ ?side1 ?side2 A3.out).mono ?_); (case side1 => exact cb HR0 HB); (case side2 => exact HC0.out); rintro e w' ⟨rfl, ⟨nd, rfl⟩⟩; (try first | exact ⟨rfl, _, World.drewN_drewN _ _ _⟩ | exact ⟨rfl, _, Eq.trans (World.drewN_drewN _ _ _) (congrArg (World.drewN _) (Nat.add_assoc _ _ _))⟩); have p1171 : 0 ≤ (a1 : Int) := of_decide_eq_true (by first | (with_reducible assumption) | assumption); have q1171 : a1 < (l0.length : Int) := of_decide_eq_true (by first | (with_reducible assumption) | assumption); obtain ⟨ad1171, e1171, hx1171_0⟩ := Kd.at_int HR0.out a1 p1171 q1171; cases e1171; replace hx1171_0 := (HB.out.cell (World.block_lt_of_cell? w _ hx1171_0)).trans hx1171_0; replace p1171 := eq_true p1171; replace q1171 := eq_true q1171; have p1172 : 0 ≤ (a1 : Int) := of_decide_eq_true (by first | (with_reducible assumption) | assumption); have q1172 : a1 < (l0.length : Int) := of_decide_eq_true (by first | (with_reducible assumption) | assumption); obtain ⟨ad1172, e1172, hx1172_0⟩ := Kd.at_int HR0.out a1 p1172 q1172; obtain rfl : ad1171 = ad1172 := (by injection e1172); replace hx1172_0 := (HB.out.cell (World.block_lt_of_cell? w _ hx1172_0)).trans hx1172_0; replace p1172 := eq_true p1172; replace q1172 := eq_true q1172) | (go_at_call 41; (with_reducible refine (Bs_Lowest.calls k (wrap64 ((rd l0 a1) * (wrap64 ((l0.length : Int) - 1)))) (wrap64 (t1170 - (rd l0 a1))) t1173 t1174 _ A9.out).mono ?_); rintro e w11 ⟨rfl, hb⟩; replace BK1169 := bb BK1169 hb; replace HB := sb HB hb; (try clear hb); obtain ⟨hcz12_0, hcz12_1, hfz12_0, hfz12_1⟩ := b2 BK1169))
    repeat (go_quiet (first | ((with_reducible refine gate_dst (N := 4) rfl ?_); refine be 4 26 #[.int .i64 0, .int .i64 0] ?_; intro gb1169 hg w10 hbox hb; have BK1169 := m0 hbox; have GW1169 := m0 (bg (n := w.heap.size) hg); have GE1169 := m0 (bg (n := w.heap.size) hg); replace HB := sb HB hb; clear hb hbox hg) | (go_at_call 39; (with_reducible refine (Rf_Sum.calls k _ _ l0 t1170 _ ?side1 ?side2 A3.out).mono ?_); (case side1 => exact cb HR0 HB); (case side2 => exact HC0.out); rintro e w' ⟨rfl, ⟨nd, rfl⟩⟩; (try first | exact ⟨rfl, _, World.drewN_drewN _ _ _⟩ | exact ⟨rfl, _, Eq.trans (World.drewN_drewN _ _ _) (congrArg (World.drewN _) (Nat.add_assoc _ _ _))⟩); have p1171 : 0 ≤ (a1 : Int) := of_decide_eq_true (by first | (with_reducible assumption) | assumption); have q1171 : a1 < (l0.length : Int) := of_decide_eq_true (by first | (with_reducible assumption) | assumption); obtain ⟨ad1171, e1171, hx1171_0⟩ := Kd.at_int HR0.out a1 p1171 q1171; cases e1171; replace hx1171_0 := (HB.out.cell (World.block_lt_of_cell? w _ hx1171_0)).trans hx1171_0; replace p1171 := eq_true p1171; replace q1171 := eq_true q1171; have p1172 : 0 ≤ (a1 : Int) := of_decide_eq_true (by first | (with_reducible assumption) | assumption); have q1172 : a1 < (l0.length : Int) := of_decide_eq_true (by first | (with_reducible assumption) | assumption); obtain ⟨ad1172, e1172, hx1172_0⟩ := Kd.at_int HR0.out a1 p1172 q1172; obtain rfl : ad1171 = ad1172 := (by injection e1172); replace hx1172_0 := (HB.out.cell (World.block_lt_of_cell? w _ hx1172_0)).trans hx1172_0; replace p1172 := eq_true p1172; replace q1172 := eq_true q1172) | (go_at_call 41; (with_reducible refine (Bs_Lowest.calls k (wrap64 ((rd l0 a1) * (wrap64 ((l0.length : Int) - 1)))) (wrap64 (t1170 - (rd l0 a1))) t1173 t1174 _ A9.out).mono ?_); rintro e w11 ⟨rfl, hb⟩; replace BK1169 := bb BK1169 hb; replace HB := sb HB hb; (try clear hb); obtain ⟨hcz12_0, hcz12_1, hfz12_0, hfz12_1⟩ := b2 BK1169)); try go_wp2_with (first | ((with_reducible refine gate_dst (N := 4) rfl ?_); refine be 4 26 #[.int .i64 0, .int .i64 0] ?_; intro gb1169 hg w10 hbox hb; have BK1169 := m0 hbox; have GW1169 := m0 (bg (n := w.heap.size) hg); have GE1169 := m0 (bg (n := w.heap.size) hg); replace HB := sb HB hb; clear hb hbox hg) | (go_at_call 39; (with_reducible refine (Rf_Sum.calls k _ _ l0 t1170 _ ?side1 ?side2 A3.out).mono ?_); (case side1 => exact cb HR0 HB); (case side2 => exact HC0.out); rintro e w' ⟨rfl, ⟨nd, rfl⟩⟩; (try first | exact ⟨rfl, _, World.drewN_drewN _ _ _⟩ | exact ⟨rfl, _, Eq.trans (World.drewN_drewN _ _ _) (congrArg (World.drewN _) (Nat.add_assoc _ _ _))⟩); have p1171 : 0 ≤ (a1 : Int) := of_decide_eq_true (by first | (with_reducible assumption) | assumption); have q1171 : a1 < (l0.length : Int) := of_decide_eq_true (by first | (with_reducible assumption) | assumption); obtain ⟨ad1171, e1171, hx1171_0⟩ := Kd.at_int HR0.out a1 p1171 q1171; cases e1171; replace hx1171_0 := (HB.out.cell (World.block_lt_of_cell? w _ hx1171_0)).trans hx1171_0; replace p1171 := eq_true p1171; replace q1171 := eq_true q1171; have p1172 : 0 ≤ (a1 : Int) := of_decide_eq_true (by first | (with_reducible assumption) | assumption); have q1172 : a1 < (l0.length : Int) := of_decide_eq_true (by first | (with_reducible assumption) | assumption); obtain ⟨ad1172, e1172, hx1172_0⟩ := Kd.at_int HR0.out a1 p1172 q1172; obtain rfl : ad1171 = ad1172 := (by injection e1172); replace hx1172_0 := (HB.out.cell (World.block_lt_of_cell? w _ hx1172_0)).trans hx1172_0; replace p1172 := eq_true p1172; replace q1172 := eq_true q1172) | (go_at_call 41; (with_reducible refine (Bs_Lowest.calls k (wrap64 ((rd l0 a1) * (wrap64 ((l0.length : Int) - 1)))) (wrap64 (t1170 - (rd l0 a1))) t1173 t1174 _ A9.out).mono ?_); rintro e w11 ⟨rfl, hb⟩; replace BK1169 := bb BK1169 hb; replace HB := sb HB hb; (try clear hb); obtain ⟨hcz12_0, hcz12_1, hfz12_0, hfz12_1⟩ := b2 BK1169)))
    refine bodyPost_ret (results_ct rfl _ _ gb1169 26 #[.int .i64 t1173, .int .i64 t1174] (0, 0) _ rfl (bq BK1169.out) Tryd.underlying26 rfl (by kernel_rfl)) rfl ?_
    exact ez
  ·rw [if_neg c5] at H
   exact absurd H (by simp)
 ·rw [if_neg c4] at H
  exact absurd H (by simp)
end
section
attribute [local go_sem high] eqA26
def Lw_LineDetections.j0 : Nat → List Int → Int → Int → Bool → Int → Int → Option (Bool)
  | 0, _, _, _, _, _, _ => none
  | k + 1, x0, x2, x10, x84, x1192000, x1192001 => if x84 = true then (some false) else ((Bs_Within.f x2 0 (wrap64 ((x0.length : Int) - 1))).bind fun t1198 => (if t1198 = true then ((Rf_Quality.f k x0 x2).bind fun bt1199 => (if bt1199.2.2 = true then (if x10 = 0 then (if (x1192000 == bt1199.1 && (x1192001 == bt1199.2.1)) = true then (some true) else (some false)) else (some false)) else (if x10 = 11 then (some (x1192000 == 0 && (x1192001 == 0))) else (some false)))) else (if x10 = 6 then (some (x1192000 == 0 && (x1192001 == 0))) else (some false))))
def Lw_LineDetections.f (k : Nat) (l0 : List Int) (a1_0 : Int) (a1_1 : Int) (a2 : Int) : Option (Bool) := (Lw_awake.f k).bind fun t1176 => (if t1176 = true then ((Lw_short.f l0).bind fun t1177 => (if t1177 = true then ((Bs_CopyInts.f l0).bind fun t1178 => ((line_DetectionsIn.f k t1178 a1_0 a1_1).bind fun bt1181 => ((Bs_CopyInts.f l0).bind fun t1185 => ((line_QualityOf.f k t1185 a2).bind fun bt1188 => ((Rf_SpectrumErr.f k l0).bind fun t1192 => (if t1192 = 0 then ((Rf_RuleErr.f a1_0 a1_1).bind fun t1193 => (if t1193 = 0 then (if bt1181.2 = 0 then ((Rf_Detections.f k l0 a1_0 a1_1).bind fun t1194 => ((Bs_Ints.f k bt1181.1 t1194).bind fun t1197 => (Lw_LineDetections.j0 k l0 a2 bt1188.2.2 (!t1197) bt1188.1 bt1188.2.1))) else (Lw_LineDetections.j0 k l0 a2 bt1188.2.2 true bt1188.1 bt1188.2.1)) else (if bt1181.2 = t1193 then (if (bt1181.1.length : Int) = 0 then (Lw_LineDetections.j0 k l0 a2 bt1188.2.2 false bt1188.1 bt1188.2.1) else (Lw_LineDetections.j0 k l0 a2 bt1188.2.2 true bt1188.1 bt1188.2.1)) else (Lw_LineDetections.j0 k l0 a2 bt1188.2.2 true bt1188.1 bt1188.2.1)))) else (if bt1181.2 = t1192 then (if bt1188.2.2 = t1192 then (if (bt1181.1.length : Int) = 0 then (some (bt1188.1 == 0 && (bt1188.2.1 == 0))) else (some false)) else (some false)) else (some false)))))))) else (some true))) else (some false))
theorem Lw_LineDetections.mono_l : ∀ k, (∀ y0 y1 y2 y3 y4 y5, LeO (Lw_LineDetections.j0 k y0 y1 y2 y3 y4 y5) (Lw_LineDetections.j0 (k + 1) y0 y1 y2 y3 y4 y5))
  | 0 => fun _ _ _ _ _ _ r h => by simp [Lw_LineDetections.j0] at h
  | k + 1 => by
    have ih0 := Lw_LineDetections.mono_l k
    · intro y0 y1 y2 y3 y4 y5
      unfold Lw_LineDetections.j0
      repeat' first
      | (with_reducible exact ih0 _ _ _ _ _ _)
      | (with_reducible exact Bs_Ints.mono _ _ _)
      | (with_reducible exact Lw_awake.mono _)
      | (with_reducible exact Rf_Detections.mono _ _ _ _)
      | (with_reducible exact Rf_Quality.mono _ _ _)
      | (with_reducible exact Rf_SpectrumErr.mono _ _)
      | (with_reducible exact line_DetectionsIn.mono _ _ _ _)
      | (with_reducible exact line_QualityOf.mono _ _ _)
      | (with_reducible exact LeO.refl _)
      | (with_reducible exact LeO.none _)
      | (with_reducible refine LeO.ite ?_ ?_)
      | (with_reducible refine LeO.bind ?_ (fun _ => ?_))
      | exact ih0 _ _ _ _ _ _
      | exact Bs_Ints.mono _ _ _
      | exact Lw_awake.mono _
      | exact Rf_Detections.mono _ _ _ _
      | exact Rf_Quality.mono _ _ _
      | exact Rf_SpectrumErr.mono _ _
      | exact line_DetectionsIn.mono _ _ _ _
      | exact line_QualityOf.mono _ _ _
      | exact LeO.none _
      | refine LeO.ite ?_ ?_
      | refine LeO.bind ?_ (fun _ => ?_)
theorem Lw_LineDetections.mono : ∀ a0 a1 a2 a3 k, LeO (Lw_LineDetections.f k a0 a1 a2 a3) (Lw_LineDetections.f (k + 1) a0 a1 a2 a3) := by
  intro a0 a1 a2 a3 k
  have ih0 := Lw_LineDetections.mono_l k
  unfold Lw_LineDetections.f
  repeat' first
      | (with_reducible exact ih0 _ _ _ _ _ _)
      | (with_reducible exact Bs_Ints.mono _ _ _)
      | (with_reducible exact Lw_awake.mono _)
      | (with_reducible exact Rf_Detections.mono _ _ _ _)
      | (with_reducible exact Rf_Quality.mono _ _ _)
      | (with_reducible exact Rf_SpectrumErr.mono _ _)
      | (with_reducible exact line_DetectionsIn.mono _ _ _ _)
      | (with_reducible exact line_QualityOf.mono _ _ _)
      | (with_reducible exact LeO.refl _)
      | (with_reducible exact LeO.none _)
      | (with_reducible refine LeO.ite ?_ ?_)
      | (with_reducible refine LeO.bind ?_ (fun _ => ?_))
      | exact ih0 _ _ _ _ _ _
      | exact Bs_Ints.mono _ _ _
      | exact Lw_awake.mono _
      | exact Rf_Detections.mono _ _ _ _
      | exact Rf_Quality.mono _ _ _
      | exact Rf_SpectrumErr.mono _ _
      | exact line_DetectionsIn.mono _ _ _ _
      | exact line_QualityOf.mono _ _ _
      | exact LeO.none _
      | refine LeO.ite ?_ ?_
      | refine LeO.bind ?_ (fun _ => ?_)
def Lw_LineDetections.T5 : Bool × List (List Nat × List Nat) := (true, [([], []), ([0], [0]), ([], []), ([1, 2, 1], [1, 2]), ([3], [3]), ([4], [4]), ([4], [4]), ([5, 3, 0, 1, 2, 3, 4, 5], [5]), ([6, 7, 0, 1, 2, 3, 4, 5, 6, 7], [6])])
def Lw_LineDetections.B5 : List Nat := [0, 1, 0, 7, 15, 31, 31, 63, 255]
theorem Lw_LineDetections.tab5 : rtab .any (opsOf Tryd.f10 5) = Lw_LineDetections.T5 := by kernel_rfl
theorem Lw_LineDetections.bits5 : waitsOk Lw_LineDetections.T5.2 Lw_LineDetections.B5 = true := by kernel_rfl
theorem Lw_LineDetections.calls (k : Nat) (A0 : Option Addr) (c0 : Nat) (l0 : List Int) (a1_0 : Int) (a1_1 : Int) (a2 : Int) (r : Bool) (w : World) (hr0 : Kd.C (Kd.int .i64) w A0 l0.length l0) (hc0 : l0.length ≤ c0) (hG : EstG w) (h : Lw_LineDetections.f k l0 a1_0 a1_1 a2 = some r) :
    Calls Tryd.prog 10 #[.slice A0 l0.length c0, .agg #[.int .i64 a1_0, .int .i64 a1_1], .int .i64 a2] w fun e w' => e = .returned (.bool r) ∧ Below w.heap.size w w' := by
  have hu57 := Tryd.underlying57
  have hu26 := Tryd.underlying26
  have HG := m0 hG
  clear hG
  have HR0 := m0 hr0
  have HC0 := m0 hc0
  clear hr0 hc0
  have HB := m0 (Below.refl w.heap.size w)
  have H : ((Lw_awake.f k).bind fun t1176 => (if t1176 = true then ((Lw_short.f l0).bind fun t1177 => (if t1177 = true then ((Bs_CopyInts.f l0).bind fun t1178 => ((line_DetectionsIn.f k t1178 a1_0 a1_1).bind fun bt1181 => ((Bs_CopyInts.f l0).bind fun t1185 => ((line_QualityOf.f k t1185 a2).bind fun bt1188 => ((Rf_SpectrumErr.f k l0).bind fun t1192 => (if t1192 = 0 then ((Rf_RuleErr.f a1_0 a1_1).bind fun t1193 => (if t1193 = 0 then (if bt1181.2 = 0 then ((Rf_Detections.f k l0 a1_0 a1_1).bind fun t1194 => ((Bs_Ints.f k bt1181.1 t1194).bind fun t1197 => (Lw_LineDetections.j0 k l0 a2 bt1188.2.2 (!t1197) bt1188.1 bt1188.2.1))) else (Lw_LineDetections.j0 k l0 a2 bt1188.2.2 true bt1188.1 bt1188.2.1)) else (if bt1181.2 = t1193 then (if (bt1181.1.length : Int) = 0 then (Lw_LineDetections.j0 k l0 a2 bt1188.2.2 false bt1188.1 bt1188.2.1) else (Lw_LineDetections.j0 k l0 a2 bt1188.2.2 true bt1188.1 bt1188.2.1)) else (Lw_LineDetections.j0 k l0 a2 bt1188.2.2 true bt1188.1 bt1188.2.1)))) else (if bt1181.2 = t1192 then (if bt1188.2.2 = t1192 then (if (bt1181.1.length : Int) = 0 then (some (bt1188.1 == 0 && (bt1188.2.1 == 0))) else (some false)) else (some false)) else (some false)))))))) else (some true))) else (some false))) = some r := h
  clear h
  replace H := ob H
  obtain ⟨t1176, A40, H⟩ := H
  (try dsimp only at H)
  have A4 := m0 A40
  clear A40
  by_cases c5 : t1176 = true
  · subst c5
    rw [if_pos rfl] at H
    replace H := ob H
    obtain ⟨t1177, A60, H⟩ := H
    (try dsimp only at H)
    have A6 := m0 A60
    clear A60
    by_cases c7 : t1177 = true
    · subst c7
      rw [if_pos rfl] at H
      replace H := ob H
      obtain ⟨t1178, A80, H⟩ := H
      (try dsimp only at H)
      have A8 := m0 A80
      clear A80
      replace H := ob H
      obtain ⟨⟨t1181, t1184⟩, A90, H⟩ := H
      (try dsimp only at H)
      have A9 := m0 A90
      clear A90
      replace H := ob H
      obtain ⟨t1185, A100, H⟩ := H
      (try dsimp only at H)
      have A10 := m0 A100
      clear A100
      replace H := ob H
      obtain ⟨⟨t1188, t1189, t1190⟩, A110, H⟩ := H
      (try dsimp only at H)
      have A11 := m0 A110
      clear A110
      replace H := ob H
      obtain ⟨t1192, A120, H⟩ := H
      (try dsimp only at H)
      have A12 := m0 A120
      clear A120
      by_cases c13 : t1192 = 0
      · rw [if_pos c13] at H
        have c13b0 := beq_iff_eq.mpr c13
        have c13b1 := bne_eq_false_iff_eq.mpr c13
        clear c13
        replace H := ob H
        obtain ⟨t1193, A140, H⟩ := H
        (try dsimp only at H)
        have A14 := m0 A140
        clear A140
        have HC15 := m0 H
        clear H
        go_enter Tryd.func10, Tryd.ntmps10
        try go_wp2_with (first | ((with_reducible refine gate_dst (N := 4) rfl ?_); (try (refine gate_guard (by rfl) ?_; dsimp only)); refine be 4 57 #[.int .i64 a1_0, .int .i64 a1_1] ?_; intro gb1175 hg w16 hbox hb; have BK1175 := m0 hbox; have GW1175 := m0 (bg (n := w.heap.size) hg); have GE1175 := m0 (bg (n := w.heap.size) hg); replace HB := sb HB hb; clear hb hbox hg) | ((with_reducible refine gate_callee (f := 18) rfl ?_); refine gl (some 14) Tryd.func18 #[] ?_; (with_reducible refine (Lw_awake.calls k  true _ ?side1 A4.out).mono ?_); (case side1 => exact EstG.below HG.out bz); rintro e w17 ⟨rfl, hb⟩; refine ⟨_, rfl, ?_⟩; replace BK1175 := bb BK1175 hb; replace HB := sb HB hb; (try clear hb)) | ((with_reducible refine gate_callee (f := 50) rfl ?_); refine gl (some 17) Tryd.func50 #[.slice A0 l0.length c0] ?_; (with_reducible refine (Lw_short.calls _ _ l0 true _ ?side1 ?side2 A6.out).mono ?_); (case side1 => exact cb HR0 HB); (case side2 => exact HC0.out); rintro e w' ⟨rfl, ⟨nd, rfl⟩⟩; refine ⟨_, rfl, ?_⟩; (try (rw [drewN_self w17]; generalize hq_ : World.drewN w17 _ = w17; replace BK1175 := gd BK1175 hq_; replace HB := gs HB hq_; clear hq_))))
        replace BK1175 := bd BK1175; replace HB := sd HB
        refine start_ (n := 9) (S := fun w' => w'.cell? ⟨gb1175, 0, none⟩ = some (.int .i64 a1_0) ∧ w'.cell? ⟨gb1175, 1, none⟩ = some (.int .i64 a1_1)) (ds := []) #[false, false, false, false, false, false, false, false, false] (by kernel_rfl) rfl rfl cz (fun hHeld => ?_); refine with_tabW Lw_LineDetections.tab5 Lw_LineDetections.bits5 (fun HT_ HW_ => ?_)
        generalize w17.drew = w18 at BK1175 HB hHeld ⊢
        refine pureZ (i := 0) (N := some 20) #[true, false, false, false, false, false, false, false, false] HT_ ?_
        refine takeZ 2 (some 22) #[true, false, true, false, false, false, false, false, false] (take_ofW HT_.out HW_.out (by kernel_rfl)) hHeld ?_
        refine oneZ 1 (some 21) #[true, true, true, false, false, false, false, false, false] (one_of HT_.out (by kernel_rfl)) fun K hK => ?_
        refine goes_ Tryd.func33 (by kernel_rfl) rfl #[.slice A0 l0.length c0] (by rfl) rfl rfl mz ?_
        with_reducible refine (Bs_CopyInts.calls _ _ l0 t1178 _ ?side1 ?side2 A8.out).mono ?_
        (case side1 => exact cb HR0 HB)
        (case side2 => exact HC0.out)
        rintro e w19 ⟨v1179, rfl, ho0, hb⟩
        refine ⟨_, rfl, ?_⟩
        have HO1180 := m0 (Kd.R_lower ho0 (below_size bz)); replace BK1175 := bb BK1175 hb; replace HB := sb HB hb
        (try clear hb)
        (try clear ho0)
        obtain ⟨Ao20, co20, eo20⟩ := Kd.R_slice HO1180.out
        (first | subst eo20 | (injection eo20 with f1_ f2_ f3_; have f4_ := f1_.symm; have f5_ := f3_.symm; clear f1_ f2_ f3_; subst f4_; subst f5_))
        refine hK.out _ _ cz (fun hHeld => ?_)
        clear hK K
        refine norm_ (a' := ?_) ?_ ?_
        rotate_left
        · show Act.put _ (some 21) _ = _
          exact pz
        refine oneZ 3 (some 23) #[true, true, true, true, false, false, false, false, false] (one_of HT_.out (by kernel_rfl)) fun K hK => ?_
        refine goes_ Tryd.func43 (by kernel_rfl) rfl #[.slice Ao20 t1178.length co20, .agg #[.int .i64 a1_0, .int .i64 a1_1]] (by rfl) rfl rfl mz ?_
        with_reducible refine (line_DetectionsIn.calls k _ _ t1178 a1_0 a1_1 t1181 t1184 _ ?side1 ?side2 A9.out).mono ?_
        (case side1 => exact bc (Kd.R_reads' HO1180.out).2.2)
        (case side2 => exact (Kd.R_reads' HO1180.out).2.1)
        rintro e w21 ⟨v1182, rfl, ho0, hb⟩
        refine ⟨_, rfl, ?_⟩
        have HO1183 := m0 (Kd.R_lower (Kd.R_new' ho0 (Kd.R_lt (br HO1180.out))) (below_size bz)); replace HO1180 := m0 (Kd.R_elder' (br HO1180.out) (Kd.R_base ho0) hb); replace BK1175 := bb BK1175 hb; replace HB := sb HB hb
        (try clear hb)
        (try clear ho0)
        refine hK.out _ _ cz (fun hHeld => ?_)
        clear hK K
        refine norm_ (a' := ?_) ?_ ?_
        rotate_left
        · show Act.put _ (some 23) _ = _
          exact pz
        refine pureZ (i := 4) (N := some 19) #[true, true, true, true, true, false, false, false, false] HT_ ?_
        refine pureZ (i := 5) (N := some 24) #[true, true, true, true, true, true, false, false, false] HT_ ?_
        refine pureZ (i := 6) (N := some 25) #[true, true, true, true, true, true, true, false, false] HT_ ?_
        refine pureZ (i := 7) (N := some 7) #[true, true, true, true, true, true, true, true, false] HT_ ?_
        refine pureZ (i := 8) (N := some 8) #[true, true, true, true, true, true, true, true, true] HT_ ?_
        refine done_ (done_of HT_.out (by kernel_rfl)) ?_
        go_upto_region 11 with (first | ((with_reducible refine gate_callee (f := 33) rfl ?_); refine gl (some 28) Tryd.func33 #[.slice A0 l0.length c0] ?_; (with_reducible refine (Bs_CopyInts.calls _ _ l0 t1185 _ ?side1 ?side2 A10.out).mono ?_); (case side1 => exact cb HR0 HB); (case side2 => exact HC0.out); rintro e w22 ⟨v1186, rfl, ho0, hb⟩; refine ⟨_, rfl, ?_⟩; have HO1187 := m0 (Kd.R_lower (Kd.R_new' (Kd.R_new' ho0 (Kd.R_lt (br HO1180.out))) (Kd.R_lt (br HO1183.out))) (below_size bz)); replace HO1180 := m0 (Kd.R_elder' (br HO1180.out) (Kd.R_base ho0) hb); replace HO1183 := m0 (Kd.R_elder' (br HO1183.out) (Kd.R_base ho0) hb); replace BK1175 := bb BK1175 hb; replace HB := sb HB hb; (try clear hb); (try clear ho0); obtain ⟨Ao23, co23, eo23⟩ := Kd.R_slice HO1187.out; subst eo23) | ((with_reducible refine gate_callee (f := 63) rfl ?_); refine gl (some 30) Tryd.func63 #[.slice Ao23 t1185.length co23, .int .i64 a2] ?_; (with_reducible refine (line_QualityOf.calls k _ _ t1185 a2 t1188 t1189 t1190 _ ?side1 ?side2 A11.out).mono ?_); (case side1 => exact bc (Kd.R_reads' HO1187.out).2.2); (case side2 => exact (Kd.R_reads' HO1187.out).2.1); rintro e w24 ⟨rfl, hb⟩; refine ⟨_, rfl, ?_⟩; replace HO1180 := rb HO1180 hb; replace HO1183 := rb HO1183 hb; replace HO1187 := rb HO1187 hb; replace BK1175 := bb BK1175 hb; replace HB := sb HB hb; (try clear hb)) | ((with_reducible refine gate_dst (N := 9) rfl ?_); (try (refine gate_guard (by rfl) ?_; dsimp only)); refine be 9 26 #[.int .i64 0, .int .i64 0] ?_; intro gb1191 hg w25 hbox hb; replace HO1180 := rb HO1180 hb; replace HO1183 := rb HO1183 hb; replace HO1187 := rb HO1187 hb; have BK1191 := m0 hbox; have GW1191 := m0 (bg (n := w.heap.size) hg); have GE1191 := m0 (bg (n := w.heap.size) hg); replace HB := sb HB hb; have NB1175_1191 := nl BK1175 hg; have NB1191_1175 := ng (nl BK1175 hg); replace BK1175 := bb BK1175 hb; clear hb hbox hg; have hnb26 := NB1191_1175.out; have hnc26 := NB1175_1191.out; obtain ⟨hcz27_0, hcz27_1, hfz27_0, hfz27_1⟩ := b2 BK1191) | ((with_reducible refine gate_callee (f := 30) rfl ?_); refine gl (some 34) Tryd.func30 #[.slice A0 l0.length c0] ?_; (with_reducible refine (Rf_SpectrumErr.calls k _ _ l0 t1192 _ ?side1 ?side2 A12.out).mono ?_); (case side1 => exact Kd.C_below HR0.out bz); (case side2 => exact HC0.out); rintro e w' ⟨rfl, ⟨nd, rfl⟩⟩; refine ⟨_, rfl, ?_⟩; obtain ⟨hcz28_0, hcz28_1, hfz28_0, hfz28_1⟩ := b2 BK1175) | ((with_reducible refine gate_callee (f := 42) rfl ?_); refine gl (some 56) Tryd.func42 #[.agg #[.int .i64 a1_0, .int .i64 a1_1]] ?_; (with_reducible refine (Rf_RuleErr.calls a1_0 a1_1 t1193 _ A14.out).mono ?_); rintro e w29 ⟨rfl, hb⟩; refine ⟨_, rfl, ?_⟩; replace HO1180 := m0 (Kd.R_below (by (with_reducible repeat (first | apply Kd.R_alloc | apply Kd.R_drewN | apply Kd.R_drew)); exact (Kd.R_mono (Kd.R_far (p := ⟨gb1191, 1, none⟩) (Kd.R_far (p := ⟨gb1191, 0, none⟩) (Kd.R_types HO1180.out BK1191.out (by decide)) (fun _ hk => hk.2) (.int .i64 t1188)) (fun _ hk => hk.2) (.int .i64 t1189)) (fun _ h_ => h_.1))) hb); replace HO1183 := m0 (Kd.R_below (by (with_reducible repeat (first | apply Kd.R_alloc | apply Kd.R_drewN | apply Kd.R_drew)); exact (Kd.R_mono (Kd.R_far (p := ⟨gb1191, 1, none⟩) (Kd.R_far (p := ⟨gb1191, 0, none⟩) (Kd.R_types HO1183.out BK1191.out (by decide)) (fun _ hk => hk.2) (.int .i64 t1188)) (fun _ hk => hk.2) (.int .i64 t1189)) (fun _ h_ => h_.1))) hb); replace HO1187 := m0 (Kd.R_below (by (with_reducible repeat (first | apply Kd.R_alloc | apply Kd.R_drewN | apply Kd.R_drew)); exact (Kd.R_mono (Kd.R_far (p := ⟨gb1191, 1, none⟩) (Kd.R_far (p := ⟨gb1191, 0, none⟩) (Kd.R_types HO1187.out BK1191.out (by decide)) (fun _ hk => hk.2) (.int .i64 t1188)) (fun _ hk => hk.2) (.int .i64 t1189)) (fun _ h_ => h_.1))) hb); replace BK1175 := m0 (blk_below (g := gb1175) (o := .cells #[.int .i64 a1_0, .int .i64 a1_1] 57 (0, 0)) (bq BK1175.out) hb); replace BK1191 := m0 (blk_below (g := gb1191) (o := .cells #[.int .i64 t1188, .int .i64 t1189] 26 (0, 0)) (bq BK1191.out) hb); replace HB := sb HB hb; (try clear hb)))
        (try simp only [Act.put, List.setIfInBounds_toArray, List.set_cons_zero, List.set_cons_succ])
        go_cut [84] (fun v84 wc => ∃ (kq : Nat) (x84_14 : Bool), v84 = .bool x84_14 ∧ Aside0 (Lw_LineDetections.j0 kq l0 a2 t1190 x84_14 t1188 t1189 = some r) ∧ Aside0 (kq ≤ k) ∧ Aside0 (wc.heap[gb1175]? = some (.cells #[.int .i64 a1_0, .int .i64 a1_1] 57 (0, 0))) ∧ Aside0 (wc.heap[gb1191]? = some (.cells #[.int .i64 t1188, .int .i64 t1189] 26 (0, 0))) ∧ Aside0 (Below w.heap.size w wc))
        case first =>
          have H := HC15.out
          clear HC15
          by_cases c30 : t1193 = 0
          · rw [if_pos c30] at H
            have c30b0 := beq_iff_eq.mpr c30
            have c30b1 := bne_eq_false_iff_eq.mpr c30
            clear c30
            (first | rw [c30b0] | (simp only [i64_w, i32_w]; rw [c30b0]) | skip)
            by_cases c31 : t1184 = 0
            · rw [if_pos c31] at H
              have c31b0 := beq_iff_eq.mpr c31
              have c31b1 := bne_eq_false_iff_eq.mpr c31
              clear c31
              replace H := ob H
              obtain ⟨t1194, A320, H⟩ := H
              (try dsimp only at H)
              have A32 := m0 A320
              clear A320
              replace H := ob H
              obtain ⟨t1197, A330, H⟩ := H
              (try dsimp only at H)
              have A33 := m0 A330
              clear A330
              have H' := m0 H
              clear H
              have hnb34 := NB1175_1191.out
              have hnc34 := NB1191_1175.out
              obtain ⟨hcz35_0, hcz35_1, hfz35_0, hfz35_1⟩ := b2 BK1175
              go_wp2_with (first | (go_at_call 64; (with_reducible refine (Rf_Detections.calls k _ _ l0 a1_0 a1_1 t1194 _ ?side1 ?side2 A32.out).mono ?_); (case side1 => exact cb HR0 HB); (case side2 => exact HC0.out); rintro e w36 ⟨v1195, rfl, ho0, hb⟩; have HO1196 := m0 (Kd.R_lower (Kd.R_new' (Kd.R_new' (Kd.R_new' ho0 (Kd.R_lt (br HO1180.out))) (Kd.R_lt (br HO1183.out))) (Kd.R_lt (br HO1187.out))) (below_size bz)); replace HO1180 := m0 (Kd.R_elder' (br HO1180.out) (Kd.R_base ho0) hb); replace HO1183 := m0 (Kd.R_elder' (br HO1183.out) (Kd.R_base ho0) hb); replace HO1187 := m0 (Kd.R_elder' (br HO1187.out) (Kd.R_base ho0) hb); replace BK1175 := bb BK1175 hb; replace BK1191 := bb BK1191 hb; replace HB := sb HB hb; (try clear hb); (try clear ho0); obtain ⟨Ao37, co37, eo37⟩ := Kd.R_slice HO1183.out; subst eo37; obtain ⟨Ao38, co38, eo38⟩ := Kd.R_slice HO1196.out; subst eo38) | (go_at_call 57; (with_reducible refine (Bs_Ints.calls k _ _ t1181 _ _ t1194 t1197 _ ?side1 ?side2 ?side3 ?side4 A33.out).mono ?_); (case side1 => exact bc (Kd.R_reads' HO1183.out).2.2); (case side2 => exact (Kd.R_reads' HO1183.out).2.1); (case side3 => exact bc (Kd.R_reads' HO1196.out).2.2); (case side4 => exact (Kd.R_reads' HO1196.out).2.1); rintro e w' ⟨rfl, ⟨nd, rfl⟩⟩))
              go_meet
              case rel => exact ⟨_, (!t1197), (by first | rfl | (simp; done) | (simp [*]; done)), H', ⟨by first | omega | exact Nat.le_refl _⟩, ⟨bk BK1175.out⟩, ⟨bk BK1191.out⟩, ⟨bz⟩⟩
            · rw [if_neg c31] at H
              have c31b0 := beq_eq_false_iff_ne.mpr c31
              have c31b1 := bne_iff_ne.mpr c31
              have H' := m0 H
              clear H
              go_wp2
              go_meet
              case rel => exact ⟨_, (true), (by first | rfl | (simp; done) | (simp [*]; done)), H', ⟨by first | omega | exact Nat.le_refl _⟩, ⟨bk BK1175.out⟩, ⟨bk BK1191.out⟩, ⟨bz⟩⟩
          · rw [if_neg c30] at H
            have c30b0 := beq_eq_false_iff_ne.mpr c30
            have c30b1 := bne_iff_ne.mpr c30
            (first | rw [c30b0] | (simp only [i64_w, i32_w]; rw [c30b0]) | skip)
            by_cases c39 : t1184 = t1193
            · rw [if_pos c39] at H
              have c39b0 := beq_iff_eq.mpr c39
              have c39b1 := bne_eq_false_iff_eq.mpr c39
              clear c39
              by_cases c40 : (t1181.length : Int) = 0
              · rw [if_pos c40] at H
                have c40b0 := beq_iff_eq.mpr c40
                have c40b1 := bne_eq_false_iff_eq.mpr c40
                clear c40
                have H' := m0 H
                clear H
                obtain ⟨Ao41, co41, eo41⟩ := Kd.R_slice HO1183.out
                subst eo41
                go_wp2
                go_meet
                case rel => exact ⟨_, (false), (by first | rfl | (simp; done) | (simp [*]; done)), H', ⟨by first | omega | exact Nat.le_refl _⟩, ⟨bk BK1175.out⟩, ⟨bk BK1191.out⟩, ⟨bz⟩⟩
              · rw [if_neg c40] at H
                have c40b0 := beq_eq_false_iff_ne.mpr c40
                have c40b1 := bne_iff_ne.mpr c40
                have c40b2 : ¬ (t1181 = []) := fun h_ => c40 (by rw [h_]; rfl)
                have H' := m0 H
                clear H
                obtain ⟨Ao42, co42, eo42⟩ := Kd.R_slice HO1183.out
                subst eo42
                go_wp2
                go_meet
                case rel => exact ⟨_, (true), (by first | rfl | (simp; done) | (simp [*]; done)), H', ⟨by first | omega | exact Nat.le_refl _⟩, ⟨bk BK1175.out⟩, ⟨bk BK1191.out⟩, ⟨bz⟩⟩
            · rw [if_neg c39] at H
              have c39b0 := beq_eq_false_iff_ne.mpr c39
              have c39b1 := bne_iff_ne.mpr c39
              have H' := m0 H
              clear H
              go_wp2
              go_meet
              case rel => exact ⟨_, (true), (by first | rfl | (simp; done) | (simp [*]; done)), H', ⟨by first | omega | exact Nat.le_refl _⟩, ⟨bk BK1175.out⟩, ⟨bk BK1191.out⟩, ⟨bz⟩⟩
        case rest =>
          clear HC15
          try clear c1
          try clear c2
          try clear p2
          try clear c3
          try clear c4
          try clear c5
          try clear c6
          try clear c7
          try clear c10
          try clear c13
          try clear c13b0
          try clear c13b1
          try clear c18
          try clear c26
          try clear c30
          try clear c30b0
          try clear c30b1
          try clear c31
          try clear c31b0
          try clear c31b1
          try clear c33
          try clear c34
          try clear c39
          try clear c39b0
          try clear c39b1
          try clear c40
          try clear c40b0
          try clear c40b1
          try clear c40b2
          try clear c42
          try clear hcz27_0
          try clear hcz27_1
          try clear hcz28_0
          try clear hcz28_1
          try clear hcz35_0
          try clear hcz35_1
          try clear hfz27_0
          try clear hfz27_1
          try clear hfz28_0
          try clear hfz28_1
          try clear hfz35_0
          try clear hfz35_1
          obtain ⟨kq, x84_14, rfl, HA, HJ14, BK1175, BK1191, HB⟩ := hcut
          cases kq with
          | zero => exact absurd HA.out (by simp [Lw_LineDetections.j0])
          | succ kj14 =>
            have H := HA.out
            clear HA
            simp only [Lw_LineDetections.j0] at H
            by_cases c43 : x84_14 = true
            · subst c43
              rw [if_pos rfl] at H
              obtain rfl := Option.some.inj H
              go_wp2
              go_ret
              exact ez
            · replace c43 := Bool.eq_false_iff.mpr c43
              subst c43
              rw [if_neg (show ¬ (false = true) by decide)] at H
              replace H := ob H
              obtain ⟨t1198, A440, H⟩ := H
              (try dsimp only at H)
              have A44 := m0 A440
              clear A440
              by_cases c45 : t1198 = true
              · subst c45
                rw [if_pos rfl] at H
                replace H := ob H
                obtain ⟨⟨t1199, t1200, t1201⟩, A460, H⟩ := H
                (try dsimp only at H)
                have A46 := m0 A460
                clear A460
                by_cases c47 : t1201 = true
                · subst c47
                  rw [if_pos rfl] at H
                  by_cases c48 : t1190 = 0
                  · rw [if_pos c48] at H
                    have c48b0 := beq_iff_eq.mpr c48
                    have c48b1 := bne_eq_false_iff_eq.mpr c48
                    clear c48
                    by_cases c49 : (t1188 == t1199 && (t1189 == t1200)) = true
                    · rw [if_pos c49] at H
                      have c49b0 : (t1188 == t1199 && (t1189 == t1200)) = true := c49
                      (try (have c49b1 : decide (t1188 = t1199 && (t1189 == t1200)) = true := by simpa using c49))
                      (try (have c49b2 : (t1188 == t1199 && (t1189 == t1200)) = true := by simpa using c49))
                      clear c49
                      obtain rfl := Option.some.inj H
                      go_wp2_with (first | ((with_reducible refine gate_callee (f := 31) rfl ?_); refine gl (some 89) Tryd.func31 #[.int .i64 a2, .int .i64 0, .int .i64 (wrap64 ((l0.length : Int) - 1))] ?_; (with_reducible refine (Bs_Within.calls a2 0 (wrap64 ((l0.length : Int) - 1)) true _ A44.out).mono ?_); rintro e w' ⟨rfl, ⟨nd, rfl⟩⟩; refine ⟨_, rfl, ?_⟩; (try (rw [drewN_self wc]; generalize hq_ : World.drewN wc _ = wc; replace BK1175 := gd BK1175 hq_; replace BK1191 := gd BK1191 hq_; replace HB := gs HB hq_; clear hq_))) | ((with_reducible refine gate_callee (f := 65) rfl ?_); refine gl (some 101) Tryd.func65 #[.slice A0 l0.length c0, .int .i64 a2] ?_; (with_reducible refine (Rf_Quality.calls kj14 _ _ l0 a2 t1199 t1200 true _ ?side1 ?side2 A46.out).mono ?_); (case side1 => exact cb HR0 HB); (case side2 => exact HC0.out); rintro e w50 ⟨rfl, hb⟩; refine ⟨_, rfl, ?_⟩; replace BK1175 := bb BK1175 hb; replace BK1191 := bb BK1191 hb; replace HB := sb HB hb; (try clear hb)) | ((with_reducible refine gate_dst (N := 12) rfl ?_); (try (refine gate_guard (by rfl) ?_; dsimp only)); refine be 12 26 #[.int .i64 0, .int .i64 0] ?_; intro gb1202 hg w51 hbox hb; have BK1202 := m0 hbox; have GW1202 := m0 (bg (n := w.heap.size) hg); have GE1202 := m0 (bg (n := w.heap.size) hg); replace HB := sb HB hb; have NB1175_1202 := nl BK1175 hg; have NB1202_1175 := ng (nl BK1175 hg); replace BK1175 := bb BK1175 hb; have NB1191_1202 := nl BK1191 hg; have NB1202_1191 := ng (nl BK1191 hg); replace BK1191 := bb BK1191 hb; clear hb hbox hg; have hnb52 := NB1202_1175.out; have hnc52 := NB1175_1202.out; have hnb53 := NB1202_1191.out; have hnc53 := NB1191_1202.out; obtain ⟨_, _, _, _⟩ := b2 BK1202; have hnb55 := NB1191_1175.out; have hnc55 := NB1175_1191.out; obtain ⟨_, _, _, _⟩ := b2 BK1191))
                      go_ret
                      exact ez
                    · rw [if_neg c49] at H
                      have c49b0 : (t1188 == t1199 && (t1189 == t1200)) = false := by simpa using c49
                      (try (have c49b1 : decide (t1188 = t1199 && (t1189 == t1200)) = false := by simpa using c49))
                      (try (have c49b2 : (t1188 == t1199 && (t1189 == t1200)) = false := by simpa using c49))
                      (try (have c49b3 : ¬ (t1188 = t1199 && (t1189 == t1200)) := by simpa using c49))
                      clear c49
                      obtain rfl := Option.some.inj H
                      go_wp2_with (first | ((with_reducible refine gate_callee (f := 31) rfl ?_); refine gl (some 89) Tryd.func31 #[.int .i64 a2, .int .i64 0, .int .i64 (wrap64 ((l0.length : Int) - 1))] ?_; (with_reducible refine (Bs_Within.calls a2 0 (wrap64 ((l0.length : Int) - 1)) true _ A44.out).mono ?_); rintro e w' ⟨rfl, ⟨nd, rfl⟩⟩; refine ⟨_, rfl, ?_⟩; (try (rw [drewN_self wc]; generalize hq_ : World.drewN wc _ = wc; replace BK1175 := gd BK1175 hq_; replace BK1191 := gd BK1191 hq_; replace HB := gs HB hq_; clear hq_))) | ((with_reducible refine gate_callee (f := 65) rfl ?_); refine gl (some 101) Tryd.func65 #[.slice A0 l0.length c0, .int .i64 a2] ?_; (with_reducible refine (Rf_Quality.calls kj14 _ _ l0 a2 t1199 t1200 true _ ?side1 ?side2 A46.out).mono ?_); (case side1 => exact cb HR0 HB); (case side2 => exact HC0.out); rintro e w57 ⟨rfl, hb⟩; refine ⟨_, rfl, ?_⟩; replace BK1175 := bb BK1175 hb; replace BK1191 := bb BK1191 hb; replace HB := sb HB hb; (try clear hb)) | ((with_reducible refine gate_dst (N := 12) rfl ?_); (try (refine gate_guard (by rfl) ?_; dsimp only)); refine be 12 26 #[.int .i64 0, .int .i64 0] ?_; intro gb1202 hg w58 hbox hb; have BK1202 := m0 hbox; have GW1202 := m0 (bg (n := w.heap.size) hg); have GE1202 := m0 (bg (n := w.heap.size) hg); replace HB := sb HB hb; have NB1175_1202 := nl BK1175 hg; have NB1202_1175 := ng (nl BK1175 hg); replace BK1175 := bb BK1175 hb; have NB1191_1202 := nl BK1191 hg; have NB1202_1191 := ng (nl BK1191 hg); replace BK1191 := bb BK1191 hb; clear hb hbox hg; have hnb59 := NB1202_1175.out; have hnc59 := NB1175_1202.out; have hnb60 := NB1202_1191.out; have hnc60 := NB1191_1202.out; obtain ⟨_, _, _, _⟩ := b2 BK1202; have hnb62 := NB1191_1175.out; have hnc62 := NB1175_1191.out; obtain ⟨_, _, _, _⟩ := b2 BK1191))
                      go_ret
                      exact ez
                  · rw [if_neg c48] at H
                    have c48b0 := beq_eq_false_iff_ne.mpr c48
                    have c48b1 := bne_iff_ne.mpr c48
                    obtain rfl := Option.some.inj H
                    go_wp2_with (first | ((with_reducible refine gate_callee (f := 31) rfl ?_); refine gl (some 89) Tryd.func31 #[.int .i64 a2, .int .i64 0, .int .i64 (wrap64 ((l0.length : Int) - 1))] ?_; (with_reducible refine (Bs_Within.calls a2 0 (wrap64 ((l0.length : Int) - 1)) true _ A44.out).mono ?_); rintro e w' ⟨rfl, ⟨nd, rfl⟩⟩; refine ⟨_, rfl, ?_⟩; (try (rw [drewN_self wc]; generalize hq_ : World.drewN wc _ = wc; replace BK1175 := gd BK1175 hq_; replace BK1191 := gd BK1191 hq_; replace HB := gs HB hq_; clear hq_))) | ((with_reducible refine gate_callee (f := 65) rfl ?_); refine gl (some 101) Tryd.func65 #[.slice A0 l0.length c0, .int .i64 a2] ?_; (with_reducible refine (Rf_Quality.calls kj14 _ _ l0 a2 t1199 t1200 true _ ?side1 ?side2 A46.out).mono ?_); (case side1 => exact cb HR0 HB); (case side2 => exact HC0.out); rintro e w64 ⟨rfl, hb⟩; refine ⟨_, rfl, ?_⟩; replace BK1175 := bb BK1175 hb; replace BK1191 := bb BK1191 hb; replace HB := sb HB hb; (try clear hb)) | ((with_reducible refine gate_dst (N := 12) rfl ?_); (try (refine gate_guard (by rfl) ?_; dsimp only)); refine be 12 26 #[.int .i64 0, .int .i64 0] ?_; intro gb1202 hg w65 hbox hb; have BK1202 := m0 hbox; have GW1202 := m0 (bg (n := w.heap.size) hg); have GE1202 := m0 (bg (n := w.heap.size) hg); replace HB := sb HB hb; have NB1175_1202 := nl BK1175 hg; have NB1202_1175 := ng (nl BK1175 hg); replace BK1175 := bb BK1175 hb; have NB1191_1202 := nl BK1191 hg; have NB1202_1191 := ng (nl BK1191 hg); replace BK1191 := bb BK1191 hb; clear hb hbox hg; have hnb66 := NB1202_1175.out; have hnc66 := NB1175_1202.out; have hnb67 := NB1202_1191.out; have hnc67 := NB1191_1202.out; obtain ⟨_, _, _, _⟩ := b2 BK1202))
                    go_ret
                    exact ez
                · replace c47 := Bool.eq_false_iff.mpr c47
                  subst c47
                  rw [if_neg (show ¬ (false = true) by decide)] at H
                  by_cases c69 : t1190 = 11
                  · rw [if_pos c69] at H
                    have c69b0 := beq_iff_eq.mpr c69
                    have c69b1 := bne_eq_false_iff_eq.mpr c69
                    clear c69
                    obtain rfl := Option.some.inj H
                    go_wp2_with (first | ((with_reducible refine gate_callee (f := 31) rfl ?_); refine gl (some 89) Tryd.func31 #[.int .i64 a2, .int .i64 0, .int .i64 (wrap64 ((l0.length : Int) - 1))] ?_; (with_reducible refine (Bs_Within.calls a2 0 (wrap64 ((l0.length : Int) - 1)) true _ A44.out).mono ?_); rintro e w' ⟨rfl, ⟨nd, rfl⟩⟩; refine ⟨_, rfl, ?_⟩; (try (rw [drewN_self wc]; generalize hq_ : World.drewN wc _ = wc; replace BK1175 := gd BK1175 hq_; replace BK1191 := gd BK1191 hq_; replace HB := gs HB hq_; clear hq_))) | ((with_reducible refine gate_callee (f := 65) rfl ?_); refine gl (some 101) Tryd.func65 #[.slice A0 l0.length c0, .int .i64 a2] ?_; (with_reducible refine (Rf_Quality.calls kj14 _ _ l0 a2 t1199 t1200 false _ ?side1 ?side2 A46.out).mono ?_); (case side1 => exact cb HR0 HB); (case side2 => exact HC0.out); rintro e w70 ⟨rfl, hb⟩; refine ⟨_, rfl, ?_⟩; replace BK1175 := bb BK1175 hb; replace BK1191 := bb BK1191 hb; replace HB := sb HB hb; (try clear hb)) | ((with_reducible refine gate_dst (N := 12) rfl ?_); (try (refine gate_guard (by rfl) ?_; dsimp only)); refine be 12 26 #[.int .i64 0, .int .i64 0] ?_; intro gb1202 hg w71 hbox hb; have BK1202 := m0 hbox; have GW1202 := m0 (bg (n := w.heap.size) hg); have GE1202 := m0 (bg (n := w.heap.size) hg); replace HB := sb HB hb; have NB1175_1202 := nl BK1175 hg; have NB1202_1175 := ng (nl BK1175 hg); replace BK1175 := bb BK1175 hb; have NB1191_1202 := nl BK1191 hg; have NB1202_1191 := ng (nl BK1191 hg); replace BK1191 := bb BK1191 hb; clear hb hbox hg; have hnb72 := NB1202_1175.out; have hnc72 := NB1175_1202.out; have hnb73 := NB1202_1191.out; have hnc73 := NB1191_1202.out; obtain ⟨_, _, _, _⟩ := b2 BK1202; have hnb75 := NB1191_1175.out; have hnc75 := NB1175_1191.out; obtain ⟨_, _, _, _⟩ := b2 BK1191))
                    go_ret
                    exact ez
                  · rw [if_neg c69] at H
                    have c69b0 := beq_eq_false_iff_ne.mpr c69
                    have c69b1 := bne_iff_ne.mpr c69
                    obtain rfl := Option.some.inj H
                    go_wp2_with (first | ((with_reducible refine gate_callee (f := 31) rfl ?_); refine gl (some 89) Tryd.func31 #[.int .i64 a2, .int .i64 0, .int .i64 (wrap64 ((l0.length : Int) - 1))] ?_; (with_reducible refine (Bs_Within.calls a2 0 (wrap64 ((l0.length : Int) - 1)) true _ A44.out).mono ?_); rintro e w' ⟨rfl, ⟨nd, rfl⟩⟩; refine ⟨_, rfl, ?_⟩; (try (rw [drewN_self wc]; generalize hq_ : World.drewN wc _ = wc; replace BK1175 := gd BK1175 hq_; replace BK1191 := gd BK1191 hq_; replace HB := gs HB hq_; clear hq_))) | ((with_reducible refine gate_callee (f := 65) rfl ?_); refine gl (some 101) Tryd.func65 #[.slice A0 l0.length c0, .int .i64 a2] ?_; (with_reducible refine (Rf_Quality.calls kj14 _ _ l0 a2 t1199 t1200 false _ ?side1 ?side2 A46.out).mono ?_); (case side1 => exact cb HR0 HB); (case side2 => exact HC0.out); rintro e w77 ⟨rfl, hb⟩; refine ⟨_, rfl, ?_⟩; replace BK1175 := bb BK1175 hb; replace BK1191 := bb BK1191 hb; replace HB := sb HB hb; (try clear hb)) | ((with_reducible refine gate_dst (N := 12) rfl ?_); (try (refine gate_guard (by rfl) ?_; dsimp only)); refine be 12 26 #[.int .i64 0, .int .i64 0] ?_; intro gb1202 hg w78 hbox hb; have BK1202 := m0 hbox; have GW1202 := m0 (bg (n := w.heap.size) hg); have GE1202 := m0 (bg (n := w.heap.size) hg); replace HB := sb HB hb; have NB1175_1202 := nl BK1175 hg; have NB1202_1175 := ng (nl BK1175 hg); replace BK1175 := bb BK1175 hb; have NB1191_1202 := nl BK1191 hg; have NB1202_1191 := ng (nl BK1191 hg); replace BK1191 := bb BK1191 hb; clear hb hbox hg; have hnb79 := NB1202_1175.out; have hnc79 := NB1175_1202.out; have hnb80 := NB1202_1191.out; have hnc80 := NB1191_1202.out; obtain ⟨_, _, _, _⟩ := b2 BK1202))
                    go_ret
                    exact ez
              · replace c45 := Bool.eq_false_iff.mpr c45
                subst c45
                rw [if_neg (show ¬ (false = true) by decide)] at H
                by_cases c82 : t1190 = 6
                · rw [if_pos c82] at H
                  have c82b0 := beq_iff_eq.mpr c82
                  have c82b1 := bne_eq_false_iff_eq.mpr c82
                  clear c82
                  obtain rfl := Option.some.inj H
                  go_wp2_with (first | ((with_reducible refine gate_callee (f := 31) rfl ?_); refine gl (some 89) Tryd.func31 #[.int .i64 a2, .int .i64 0, .int .i64 (wrap64 ((l0.length : Int) - 1))] ?_; (with_reducible refine (Bs_Within.calls a2 0 (wrap64 ((l0.length : Int) - 1)) false _ A44.out).mono ?_); rintro e w' ⟨rfl, ⟨nd, rfl⟩⟩; refine ⟨_, rfl, ?_⟩; have hnb83 := NB1191_1175.out; have hnc83 := NB1175_1191.out; obtain ⟨_, _, _, _⟩ := b2 BK1191))
                  go_ret
                  exact ez
                · rw [if_neg c82] at H
                  have c82b0 := beq_eq_false_iff_ne.mpr c82
                  have c82b1 := bne_iff_ne.mpr c82
                  obtain rfl := Option.some.inj H
                  go_wp2_with (first | ((with_reducible refine gate_callee (f := 31) rfl ?_); refine gl (some 89) Tryd.func31 #[.int .i64 a2, .int .i64 0, .int .i64 (wrap64 ((l0.length : Int) - 1))] ?_; (with_reducible refine (Bs_Within.calls a2 0 (wrap64 ((l0.length : Int) - 1)) false _ A44.out).mono ?_); rintro e w' ⟨rfl, ⟨nd, rfl⟩⟩; refine ⟨_, rfl, ?_⟩))
                  go_ret
                  exact ez
      · rw [if_neg c13] at H
        have c13b0 := beq_eq_false_iff_ne.mpr c13
        have c13b1 := bne_iff_ne.mpr c13
        by_cases c85 : t1184 = t1192
        · rw [if_pos c85] at H
          have c85b0 := beq_iff_eq.mpr c85
          have c85b1 := bne_eq_false_iff_eq.mpr c85
          clear c85
          by_cases c86 : t1190 = t1192
          · rw [if_pos c86] at H
            have c86b0 := beq_iff_eq.mpr c86
            have c86b1 := bne_eq_false_iff_eq.mpr c86
            clear c86
            by_cases c87 : (t1181.length : Int) = 0
            · rw [if_pos c87] at H
              have c87b0 := beq_iff_eq.mpr c87
              have c87b1 := bne_eq_false_iff_eq.mpr c87
              clear c87
              obtain rfl := Option.some.inj H
              go_enter Tryd.func10, Tryd.ntmps10
              try go_wp2_with (first | ((with_reducible refine gate_dst (N := 4) rfl ?_); (try (refine gate_guard (by rfl) ?_; dsimp only)); refine be 4 57 #[.int .i64 a1_0, .int .i64 a1_1] ?_; intro gb1175 hg w88 hbox hb; have BK1175 := m0 hbox; have GW1175 := m0 (bg (n := w.heap.size) hg); have GE1175 := m0 (bg (n := w.heap.size) hg); replace HB := sb HB hb; clear hb hbox hg) | ((with_reducible refine gate_callee (f := 18) rfl ?_); refine gl (some 14) Tryd.func18 #[] ?_; (with_reducible refine (Lw_awake.calls k  true _ ?side1 A4.out).mono ?_); (case side1 => exact EstG.below HG.out bz); rintro e w89 ⟨rfl, hb⟩; refine ⟨_, rfl, ?_⟩; replace BK1175 := bb BK1175 hb; replace HB := sb HB hb; (try clear hb)) | ((with_reducible refine gate_callee (f := 50) rfl ?_); refine gl (some 17) Tryd.func50 #[.slice A0 l0.length c0] ?_; (with_reducible refine (Lw_short.calls _ _ l0 true _ ?side1 ?side2 A6.out).mono ?_); (case side1 => exact cb HR0 HB); (case side2 => exact HC0.out); rintro e w' ⟨rfl, ⟨nd, rfl⟩⟩; refine ⟨_, rfl, ?_⟩; (try (rw [drewN_self w89]; generalize hq_ : World.drewN w89 _ = w89; replace BK1175 := gd BK1175 hq_; replace HB := gs HB hq_; clear hq_))))
              replace BK1175 := bd BK1175; replace HB := sd HB
              refine start_ (n := 9) (S := fun w' => w'.cell? ⟨gb1175, 0, none⟩ = some (.int .i64 a1_0) ∧ w'.cell? ⟨gb1175, 1, none⟩ = some (.int .i64 a1_1)) (ds := []) #[false, false, false, false, false, false, false, false, false] (by kernel_rfl) rfl rfl cz (fun hHeld => ?_); refine with_tabW Lw_LineDetections.tab5 Lw_LineDetections.bits5 (fun HT_ HW_ => ?_)
              generalize w89.drew = w90 at BK1175 HB hHeld ⊢
              refine pureZ (i := 0) (N := some 20) #[true, false, false, false, false, false, false, false, false] HT_ ?_
              refine takeZ 2 (some 22) #[true, false, true, false, false, false, false, false, false] (take_ofW HT_.out HW_.out (by kernel_rfl)) hHeld ?_
              refine oneZ 1 (some 21) #[true, true, true, false, false, false, false, false, false] (one_of HT_.out (by kernel_rfl)) fun K hK => ?_
              refine goes_ Tryd.func33 (by kernel_rfl) rfl #[.slice A0 l0.length c0] (by rfl) rfl rfl mz ?_
              with_reducible refine (Bs_CopyInts.calls _ _ l0 t1178 _ ?side1 ?side2 A8.out).mono ?_
              (case side1 => exact cb HR0 HB)
              (case side2 => exact HC0.out)
              rintro e w91 ⟨v1179, rfl, ho0, hb⟩
              refine ⟨_, rfl, ?_⟩
              have HO1180 := m0 (Kd.R_lower ho0 (below_size bz)); replace BK1175 := bb BK1175 hb; replace HB := sb HB hb
              (try clear hb)
              (try clear ho0)
              obtain ⟨Ao92, co92, eo92⟩ := Kd.R_slice HO1180.out
              (first | subst eo92 | (injection eo92 with f1_ f2_ f3_; have f4_ := f1_.symm; have f5_ := f3_.symm; clear f1_ f2_ f3_; subst f4_; subst f5_))
              refine hK.out _ _ cz (fun hHeld => ?_)
              clear hK K
              refine norm_ (a' := ?_) ?_ ?_
              rotate_left
              · show Act.put _ (some 21) _ = _
                exact pz
              refine oneZ 3 (some 23) #[true, true, true, true, false, false, false, false, false] (one_of HT_.out (by kernel_rfl)) fun K hK => ?_
              refine goes_ Tryd.func43 (by kernel_rfl) rfl #[.slice Ao92 t1178.length co92, .agg #[.int .i64 a1_0, .int .i64 a1_1]] (by rfl) rfl rfl mz ?_
              with_reducible refine (line_DetectionsIn.calls k _ _ t1178 a1_0 a1_1 t1181 t1184 _ ?side1 ?side2 A9.out).mono ?_
              (case side1 => exact bc (Kd.R_reads' HO1180.out).2.2)
              (case side2 => exact (Kd.R_reads' HO1180.out).2.1)
              rintro e w93 ⟨v1182, rfl, ho0, hb⟩
              refine ⟨_, rfl, ?_⟩
              have HO1183 := m0 (Kd.R_lower (Kd.R_new' ho0 (Kd.R_lt (br HO1180.out))) (below_size bz)); replace HO1180 := m0 (Kd.R_elder' (br HO1180.out) (Kd.R_base ho0) hb); replace BK1175 := bb BK1175 hb; replace HB := sb HB hb
              (try clear hb)
              (try clear ho0)
              refine hK.out _ _ cz (fun hHeld => ?_)
              clear hK K
              refine norm_ (a' := ?_) ?_ ?_
              rotate_left
              · show Act.put _ (some 23) _ = _
                exact pz
              refine pureZ (i := 4) (N := some 19) #[true, true, true, true, true, false, false, false, false] HT_ ?_
              refine pureZ (i := 5) (N := some 24) #[true, true, true, true, true, true, false, false, false] HT_ ?_
              refine pureZ (i := 6) (N := some 25) #[true, true, true, true, true, true, true, false, false] HT_ ?_
              refine pureZ (i := 7) (N := some 7) #[true, true, true, true, true, true, true, true, false] HT_ ?_
              refine pureZ (i := 8) (N := some 8) #[true, true, true, true, true, true, true, true, true] HT_ ?_
              refine done_ (done_of HT_.out (by kernel_rfl)) ?_
              try go_wp2_with (first | ((with_reducible refine gate_callee (f := 33) rfl ?_); refine gl (some 28) Tryd.func33 #[.slice A0 l0.length c0] ?_; (with_reducible refine (Bs_CopyInts.calls _ _ l0 t1185 _ ?side1 ?side2 A10.out).mono ?_); (case side1 => exact cb HR0 HB); (case side2 => exact HC0.out); rintro e w94 ⟨v1186, rfl, ho0, hb⟩; refine ⟨_, rfl, ?_⟩; have HO1187 := m0 (Kd.R_lower (Kd.R_new' (Kd.R_new' ho0 (Kd.R_lt (br HO1180.out))) (Kd.R_lt (br HO1183.out))) (below_size bz)); replace HO1180 := m0 (Kd.R_elder' (br HO1180.out) (Kd.R_base ho0) hb); replace HO1183 := m0 (Kd.R_elder' (br HO1183.out) (Kd.R_base ho0) hb); replace BK1175 := bb BK1175 hb; replace HB := sb HB hb; (try clear hb); (try clear ho0); obtain ⟨Ao95, co95, eo95⟩ := Kd.R_slice HO1187.out; subst eo95) | ((with_reducible refine gate_callee (f := 63) rfl ?_); refine gl (some 30) Tryd.func63 #[.slice Ao95 t1185.length co95, .int .i64 a2] ?_; (with_reducible refine (line_QualityOf.calls k _ _ t1185 a2 t1188 t1189 t1190 _ ?side1 ?side2 A11.out).mono ?_); (case side1 => exact bc (Kd.R_reads' HO1187.out).2.2); (case side2 => exact (Kd.R_reads' HO1187.out).2.1); rintro e w96 ⟨rfl, hb⟩; refine ⟨_, rfl, ?_⟩; replace HO1180 := rb HO1180 hb; replace HO1183 := rb HO1183 hb; replace HO1187 := rb HO1187 hb; replace BK1175 := bb BK1175 hb; replace HB := sb HB hb; (try clear hb)) | ((with_reducible refine gate_dst (N := 9) rfl ?_); (try (refine gate_guard (by rfl) ?_; dsimp only)); refine be 9 26 #[.int .i64 0, .int .i64 0] ?_; intro gb1191 hg w97 hbox hb; replace HO1180 := rb HO1180 hb; replace HO1183 := rb HO1183 hb; replace HO1187 := rb HO1187 hb; have BK1191 := m0 hbox; have GW1191 := m0 (bg (n := w.heap.size) hg); have GE1191 := m0 (bg (n := w.heap.size) hg); replace HB := sb HB hb; have NB1175_1191 := nl BK1175 hg; have NB1191_1175 := ng (nl BK1175 hg); replace BK1175 := bb BK1175 hb; clear hb hbox hg; have hnb98 := NB1191_1175.out; have hnc98 := NB1175_1191.out; obtain ⟨_, _, _, _⟩ := b2 BK1191) | ((with_reducible refine gate_callee (f := 30) rfl ?_); refine gl (some 34) Tryd.func30 #[.slice A0 l0.length c0] ?_; (with_reducible refine (Rf_SpectrumErr.calls k _ _ l0 t1192 _ ?side1 ?side2 A12.out).mono ?_); (case side1 => exact Kd.C_below HR0.out bz); (case side2 => exact HC0.out); rintro e w' ⟨rfl, ⟨nd, rfl⟩⟩; refine ⟨_, rfl, ?_⟩; obtain ⟨Ao100, co100, eo100⟩ := Kd.R_slice HO1183.out; subst eo100))
              go_ret
              exact ez
            · rw [if_neg c87] at H
              have c87b0 := beq_eq_false_iff_ne.mpr c87
              have c87b1 := bne_iff_ne.mpr c87
              have c87b2 : ¬ (t1181 = []) := fun h_ => c87 (by rw [h_]; rfl)
              obtain rfl := Option.some.inj H
              go_enter Tryd.func10, Tryd.ntmps10
              try go_wp2_with (first | ((with_reducible refine gate_dst (N := 4) rfl ?_); (try (refine gate_guard (by rfl) ?_; dsimp only)); refine be 4 57 #[.int .i64 a1_0, .int .i64 a1_1] ?_; intro gb1175 hg w101 hbox hb; have BK1175 := m0 hbox; have GW1175 := m0 (bg (n := w.heap.size) hg); have GE1175 := m0 (bg (n := w.heap.size) hg); replace HB := sb HB hb; clear hb hbox hg) | ((with_reducible refine gate_callee (f := 18) rfl ?_); refine gl (some 14) Tryd.func18 #[] ?_; (with_reducible refine (Lw_awake.calls k  true _ ?side1 A4.out).mono ?_); (case side1 => exact EstG.below HG.out bz); rintro e w102 ⟨rfl, hb⟩; refine ⟨_, rfl, ?_⟩; replace BK1175 := bb BK1175 hb; replace HB := sb HB hb; (try clear hb)) | ((with_reducible refine gate_callee (f := 50) rfl ?_); refine gl (some 17) Tryd.func50 #[.slice A0 l0.length c0] ?_; (with_reducible refine (Lw_short.calls _ _ l0 true _ ?side1 ?side2 A6.out).mono ?_); (case side1 => exact cb HR0 HB); (case side2 => exact HC0.out); rintro e w' ⟨rfl, ⟨nd, rfl⟩⟩; refine ⟨_, rfl, ?_⟩; (try (rw [drewN_self w102]; generalize hq_ : World.drewN w102 _ = w102; replace BK1175 := gd BK1175 hq_; replace HB := gs HB hq_; clear hq_))))
              replace BK1175 := bd BK1175; replace HB := sd HB
              refine start_ (n := 9) (S := fun w' => w'.cell? ⟨gb1175, 0, none⟩ = some (.int .i64 a1_0) ∧ w'.cell? ⟨gb1175, 1, none⟩ = some (.int .i64 a1_1)) (ds := []) #[false, false, false, false, false, false, false, false, false] (by kernel_rfl) rfl rfl cz (fun hHeld => ?_); refine with_tabW Lw_LineDetections.tab5 Lw_LineDetections.bits5 (fun HT_ HW_ => ?_)
              generalize w102.drew = w103 at BK1175 HB hHeld ⊢
              refine pureZ (i := 0) (N := some 20) #[true, false, false, false, false, false, false, false, false] HT_ ?_
              refine takeZ 2 (some 22) #[true, false, true, false, false, false, false, false, false] (take_ofW HT_.out HW_.out (by kernel_rfl)) hHeld ?_
              refine oneZ 1 (some 21) #[true, true, true, false, false, false, false, false, false] (one_of HT_.out (by kernel_rfl)) fun K hK => ?_
              refine goes_ Tryd.func33 (by kernel_rfl) rfl #[.slice A0 l0.length c0] (by rfl) rfl rfl mz ?_
              with_reducible refine (Bs_CopyInts.calls _ _ l0 t1178 _ ?side1 ?side2 A8.out).mono ?_
              (case side1 => exact cb HR0 HB)
              (case side2 => exact HC0.out)
              rintro e w104 ⟨v1179, rfl, ho0, hb⟩
              refine ⟨_, rfl, ?_⟩
              have HO1180 := m0 (Kd.R_lower ho0 (below_size bz)); replace BK1175 := bb BK1175 hb; replace HB := sb HB hb
              (try clear hb)
              (try clear ho0)
              obtain ⟨Ao105, co105, eo105⟩ := Kd.R_slice HO1180.out
              (first | subst eo105 | (injection eo105 with f1_ f2_ f3_; have f4_ := f1_.symm; have f5_ := f3_.symm; clear f1_ f2_ f3_; subst f4_; subst f5_))
              refine hK.out _ _ cz (fun hHeld => ?_)
              clear hK K
              refine norm_ (a' := ?_) ?_ ?_
              rotate_left
              · show Act.put _ (some 21) _ = _
                exact pz
              refine oneZ 3 (some 23) #[true, true, true, true, false, false, false, false, false] (one_of HT_.out (by kernel_rfl)) fun K hK => ?_
              refine goes_ Tryd.func43 (by kernel_rfl) rfl #[.slice Ao105 t1178.length co105, .agg #[.int .i64 a1_0, .int .i64 a1_1]] (by rfl) rfl rfl mz ?_
              with_reducible refine (line_DetectionsIn.calls k _ _ t1178 a1_0 a1_1 t1181 t1184 _ ?side1 ?side2 A9.out).mono ?_
              (case side1 => exact bc (Kd.R_reads' HO1180.out).2.2)
              (case side2 => exact (Kd.R_reads' HO1180.out).2.1)
              rintro e w106 ⟨v1182, rfl, ho0, hb⟩
              refine ⟨_, rfl, ?_⟩
              have HO1183 := m0 (Kd.R_lower (Kd.R_new' ho0 (Kd.R_lt (br HO1180.out))) (below_size bz)); replace HO1180 := m0 (Kd.R_elder' (br HO1180.out) (Kd.R_base ho0) hb); replace BK1175 := bb BK1175 hb; replace HB := sb HB hb
              (try clear hb)
              (try clear ho0)
              refine hK.out _ _ cz (fun hHeld => ?_)
              clear hK K
              refine norm_ (a' := ?_) ?_ ?_
              rotate_left
              · show Act.put _ (some 23) _ = _
                exact pz
              refine pureZ (i := 4) (N := some 19) #[true, true, true, true, true, false, false, false, false] HT_ ?_
              refine pureZ (i := 5) (N := some 24) #[true, true, true, true, true, true, false, false, false] HT_ ?_
              refine pureZ (i := 6) (N := some 25) #[true, true, true, true, true, true, true, false, false] HT_ ?_
              refine pureZ (i := 7) (N := some 7) #[true, true, true, true, true, true, true, true, false] HT_ ?_
              refine pureZ (i := 8) (N := some 8) #[true, true, true, true, true, true, true, true, true] HT_ ?_
              refine done_ (done_of HT_.out (by kernel_rfl)) ?_
              try go_wp2_with (first | ((with_reducible refine gate_callee (f := 33) rfl ?_); refine gl (some 28) Tryd.func33 #[.slice A0 l0.length c0] ?_; (with_reducible refine (Bs_CopyInts.calls _ _ l0 t1185 _ ?side1 ?side2 A10.out).mono ?_); (case side1 => exact cb HR0 HB); (case side2 => exact HC0.out); rintro e w107 ⟨v1186, rfl, ho0, hb⟩; refine ⟨_, rfl, ?_⟩; have HO1187 := m0 (Kd.R_lower (Kd.R_new' (Kd.R_new' ho0 (Kd.R_lt (br HO1180.out))) (Kd.R_lt (br HO1183.out))) (below_size bz)); replace HO1180 := m0 (Kd.R_elder' (br HO1180.out) (Kd.R_base ho0) hb); replace HO1183 := m0 (Kd.R_elder' (br HO1183.out) (Kd.R_base ho0) hb); replace BK1175 := bb BK1175 hb; replace HB := sb HB hb; (try clear hb); (try clear ho0); obtain ⟨Ao108, co108, eo108⟩ := Kd.R_slice HO1187.out; subst eo108) | ((with_reducible refine gate_callee (f := 63) rfl ?_); refine gl (some 30) Tryd.func63 #[.slice Ao108 t1185.length co108, .int .i64 a2] ?_; (with_reducible refine (line_QualityOf.calls k _ _ t1185 a2 t1188 t1189 t1190 _ ?side1 ?side2 A11.out).mono ?_); (case side1 => exact bc (Kd.R_reads' HO1187.out).2.2); (case side2 => exact (Kd.R_reads' HO1187.out).2.1); rintro e w109 ⟨rfl, hb⟩; refine ⟨_, rfl, ?_⟩; replace HO1180 := rb HO1180 hb; replace HO1183 := rb HO1183 hb; replace HO1187 := rb HO1187 hb; replace BK1175 := bb BK1175 hb; replace HB := sb HB hb; (try clear hb)) | ((with_reducible refine gate_dst (N := 9) rfl ?_); (try (refine gate_guard (by rfl) ?_; dsimp only)); refine be 9 26 #[.int .i64 0, .int .i64 0] ?_; intro gb1191 hg w110 hbox hb; replace HO1180 := rb HO1180 hb; replace HO1183 := rb HO1183 hb; replace HO1187 := rb HO1187 hb; have BK1191 := m0 hbox; have GW1191 := m0 (bg (n := w.heap.size) hg); have GE1191 := m0 (bg (n := w.heap.size) hg); replace HB := sb HB hb; have NB1175_1191 := nl BK1175 hg; have NB1191_1175 := ng (nl BK1175 hg); replace BK1175 := bb BK1175 hb; clear hb hbox hg; have hnb111 := NB1191_1175.out; have hnc111 := NB1175_1191.out; obtain ⟨_, _, _, _⟩ := b2 BK1191) | ((with_reducible refine gate_callee (f := 30) rfl ?_); refine gl (some 34) Tryd.func30 #[.slice A0 l0.length c0] ?_; (with_reducible refine (Rf_SpectrumErr.calls k _ _ l0 t1192 _ ?side1 ?side2 A12.out).mono ?_); (case side1 => exact Kd.C_below HR0.out bz); (case side2 => exact HC0.out); rintro e w' ⟨rfl, ⟨nd, rfl⟩⟩; refine ⟨_, rfl, ?_⟩; obtain ⟨Ao113, co113, eo113⟩ := Kd.R_slice HO1183.out; subst eo113))
              go_ret
              exact ez
          · rw [if_neg c86] at H
            have c86b0 := beq_eq_false_iff_ne.mpr c86
            have c86b1 := bne_iff_ne.mpr c86
            obtain rfl := Option.some.inj H
            go_enter Tryd.func10, Tryd.ntmps10
            try go_wp2_with (first | ((with_reducible refine gate_dst (N := 4) rfl ?_); (try (refine gate_guard (by rfl) ?_; dsimp only)); refine be 4 57 #[.int .i64 a1_0, .int .i64 a1_1] ?_; intro gb1175 hg w114 hbox hb; have BK1175 := m0 hbox; have GW1175 := m0 (bg (n := w.heap.size) hg); have GE1175 := m0 (bg (n := w.heap.size) hg); replace HB := sb HB hb; clear hb hbox hg) | ((with_reducible refine gate_callee (f := 18) rfl ?_); refine gl (some 14) Tryd.func18 #[] ?_; (with_reducible refine (Lw_awake.calls k  true _ ?side1 A4.out).mono ?_); (case side1 => exact EstG.below HG.out bz); rintro e w115 ⟨rfl, hb⟩; refine ⟨_, rfl, ?_⟩; replace BK1175 := bb BK1175 hb; replace HB := sb HB hb; (try clear hb)) | ((with_reducible refine gate_callee (f := 50) rfl ?_); refine gl (some 17) Tryd.func50 #[.slice A0 l0.length c0] ?_; (with_reducible refine (Lw_short.calls _ _ l0 true _ ?side1 ?side2 A6.out).mono ?_); (case side1 => exact cb HR0 HB); (case side2 => exact HC0.out); rintro e w' ⟨rfl, ⟨nd, rfl⟩⟩; refine ⟨_, rfl, ?_⟩; (try (rw [drewN_self w115]; generalize hq_ : World.drewN w115 _ = w115; replace BK1175 := gd BK1175 hq_; replace HB := gs HB hq_; clear hq_))))
            replace BK1175 := bd BK1175; replace HB := sd HB
            refine start_ (n := 9) (S := fun w' => w'.cell? ⟨gb1175, 0, none⟩ = some (.int .i64 a1_0) ∧ w'.cell? ⟨gb1175, 1, none⟩ = some (.int .i64 a1_1)) (ds := []) #[false, false, false, false, false, false, false, false, false] (by kernel_rfl) rfl rfl cz (fun hHeld => ?_); refine with_tabW Lw_LineDetections.tab5 Lw_LineDetections.bits5 (fun HT_ HW_ => ?_)
            generalize w115.drew = w116 at BK1175 HB hHeld ⊢
            refine pureZ (i := 0) (N := some 20) #[true, false, false, false, false, false, false, false, false] HT_ ?_
            refine takeZ 2 (some 22) #[true, false, true, false, false, false, false, false, false] (take_ofW HT_.out HW_.out (by kernel_rfl)) hHeld ?_
            refine oneZ 1 (some 21) #[true, true, true, false, false, false, false, false, false] (one_of HT_.out (by kernel_rfl)) fun K hK => ?_
            refine goes_ Tryd.func33 (by kernel_rfl) rfl #[.slice A0 l0.length c0] (by rfl) rfl rfl mz ?_
            with_reducible refine (Bs_CopyInts.calls _ _ l0 t1178 _ ?side1 ?side2 A8.out).mono ?_
            (case side1 => exact cb HR0 HB)
            (case side2 => exact HC0.out)
            rintro e w117 ⟨v1179, rfl, ho0, hb⟩
            refine ⟨_, rfl, ?_⟩
            have HO1180 := m0 (Kd.R_lower ho0 (below_size bz)); replace BK1175 := bb BK1175 hb; replace HB := sb HB hb
            (try clear hb)
            (try clear ho0)
            obtain ⟨Ao118, co118, eo118⟩ := Kd.R_slice HO1180.out
            (first | subst eo118 | (injection eo118 with f1_ f2_ f3_; have f4_ := f1_.symm; have f5_ := f3_.symm; clear f1_ f2_ f3_; subst f4_; subst f5_))
            refine hK.out _ _ cz (fun hHeld => ?_)
            clear hK K
            refine norm_ (a' := ?_) ?_ ?_
            rotate_left
            · show Act.put _ (some 21) _ = _
              exact pz
            refine oneZ 3 (some 23) #[true, true, true, true, false, false, false, false, false] (one_of HT_.out (by kernel_rfl)) fun K hK => ?_
            refine goes_ Tryd.func43 (by kernel_rfl) rfl #[.slice Ao118 t1178.length co118, .agg #[.int .i64 a1_0, .int .i64 a1_1]] (by rfl) rfl rfl mz ?_
            with_reducible refine (line_DetectionsIn.calls k _ _ t1178 a1_0 a1_1 t1181 t1184 _ ?side1 ?side2 A9.out).mono ?_
            (case side1 => exact bc (Kd.R_reads' HO1180.out).2.2)
            (case side2 => exact (Kd.R_reads' HO1180.out).2.1)
            rintro e w119 ⟨v1182, rfl, ho0, hb⟩
            refine ⟨_, rfl, ?_⟩
            have HO1183 := m0 (Kd.R_lower (Kd.R_new' ho0 (Kd.R_lt (br HO1180.out))) (below_size bz)); replace HO1180 := m0 (Kd.R_elder' (br HO1180.out) (Kd.R_base ho0) hb); replace BK1175 := bb BK1175 hb; replace HB := sb HB hb
            (try clear hb)
            (try clear ho0)
            refine hK.out _ _ cz (fun hHeld => ?_)
            clear hK K
            refine norm_ (a' := ?_) ?_ ?_
            rotate_left
            · show Act.put _ (some 23) _ = _
              exact pz
            refine pureZ (i := 4) (N := some 19) #[true, true, true, true, true, false, false, false, false] HT_ ?_
            refine pureZ (i := 5) (N := some 24) #[true, true, true, true, true, true, false, false, false] HT_ ?_
            refine pureZ (i := 6) (N := some 25) #[true, true, true, true, true, true, true, false, false] HT_ ?_
            refine pureZ (i := 7) (N := some 7) #[true, true, true, true, true, true, true, true, false] HT_ ?_
            refine pureZ (i := 8) (N := some 8) #[true, true, true, true, true, true, true, true, true] HT_ ?_
            refine done_ (done_of HT_.out (by kernel_rfl)) ?_
            try go_wp2_with (first | ((with_reducible refine gate_callee (f := 33) rfl ?_); refine gl (some 28) Tryd.func33 #[.slice A0 l0.length c0] ?_; (with_reducible refine (Bs_CopyInts.calls _ _ l0 t1185 _ ?side1 ?side2 A10.out).mono ?_); (case side1 => exact cb HR0 HB); (case side2 => exact HC0.out); rintro e w120 ⟨v1186, rfl, ho0, hb⟩; refine ⟨_, rfl, ?_⟩; have HO1187 := m0 (Kd.R_lower (Kd.R_new' (Kd.R_new' ho0 (Kd.R_lt (br HO1180.out))) (Kd.R_lt (br HO1183.out))) (below_size bz)); replace HO1180 := m0 (Kd.R_elder' (br HO1180.out) (Kd.R_base ho0) hb); replace HO1183 := m0 (Kd.R_elder' (br HO1183.out) (Kd.R_base ho0) hb); replace BK1175 := bb BK1175 hb; replace HB := sb HB hb; (try clear hb); (try clear ho0); obtain ⟨Ao121, co121, eo121⟩ := Kd.R_slice HO1187.out; subst eo121) | ((with_reducible refine gate_callee (f := 63) rfl ?_); refine gl (some 30) Tryd.func63 #[.slice Ao121 t1185.length co121, .int .i64 a2] ?_; (with_reducible refine (line_QualityOf.calls k _ _ t1185 a2 t1188 t1189 t1190 _ ?side1 ?side2 A11.out).mono ?_); (case side1 => exact bc (Kd.R_reads' HO1187.out).2.2); (case side2 => exact (Kd.R_reads' HO1187.out).2.1); rintro e w122 ⟨rfl, hb⟩; refine ⟨_, rfl, ?_⟩; replace HO1180 := rb HO1180 hb; replace HO1183 := rb HO1183 hb; replace HO1187 := rb HO1187 hb; replace BK1175 := bb BK1175 hb; replace HB := sb HB hb; (try clear hb)) | ((with_reducible refine gate_dst (N := 9) rfl ?_); (try (refine gate_guard (by rfl) ?_; dsimp only)); refine be 9 26 #[.int .i64 0, .int .i64 0] ?_; intro gb1191 hg w123 hbox hb; replace HO1180 := rb HO1180 hb; replace HO1183 := rb HO1183 hb; replace HO1187 := rb HO1187 hb; have BK1191 := m0 hbox; have GW1191 := m0 (bg (n := w.heap.size) hg); have GE1191 := m0 (bg (n := w.heap.size) hg); replace HB := sb HB hb; have NB1175_1191 := nl BK1175 hg; have NB1191_1175 := ng (nl BK1175 hg); replace BK1175 := bb BK1175 hb; clear hb hbox hg; have hnb124 := NB1191_1175.out; have hnc124 := NB1175_1191.out; obtain ⟨_, _, _, _⟩ := b2 BK1191) | ((with_reducible refine gate_callee (f := 30) rfl ?_); refine gl (some 34) Tryd.func30 #[.slice A0 l0.length c0] ?_; (with_reducible refine (Rf_SpectrumErr.calls k _ _ l0 t1192 _ ?side1 ?side2 A12.out).mono ?_); (case side1 => exact Kd.C_below HR0.out bz); (case side2 => exact HC0.out); rintro e w' ⟨rfl, ⟨nd, rfl⟩⟩; refine ⟨_, rfl, ?_⟩))
            go_ret
            exact ez
        · rw [if_neg c85] at H
          have c85b0 := beq_eq_false_iff_ne.mpr c85
          have c85b1 := bne_iff_ne.mpr c85
          obtain rfl := Option.some.inj H
          go_enter Tryd.func10, Tryd.ntmps10
          try go_wp2_with (first | ((with_reducible refine gate_dst (N := 4) rfl ?_); (try (refine gate_guard (by rfl) ?_; dsimp only)); refine be 4 57 #[.int .i64 a1_0, .int .i64 a1_1] ?_; intro gb1175 hg w126 hbox hb; have BK1175 := m0 hbox; have GW1175 := m0 (bg (n := w.heap.size) hg); have GE1175 := m0 (bg (n := w.heap.size) hg); replace HB := sb HB hb; clear hb hbox hg) | ((with_reducible refine gate_callee (f := 18) rfl ?_); refine gl (some 14) Tryd.func18 #[] ?_; (with_reducible refine (Lw_awake.calls k  true _ ?side1 A4.out).mono ?_); (case side1 => exact EstG.below HG.out bz); rintro e w127 ⟨rfl, hb⟩; refine ⟨_, rfl, ?_⟩; replace BK1175 := bb BK1175 hb; replace HB := sb HB hb; (try clear hb)) | ((with_reducible refine gate_callee (f := 50) rfl ?_); refine gl (some 17) Tryd.func50 #[.slice A0 l0.length c0] ?_; (with_reducible refine (Lw_short.calls _ _ l0 true _ ?side1 ?side2 A6.out).mono ?_); (case side1 => exact cb HR0 HB); (case side2 => exact HC0.out); rintro e w' ⟨rfl, ⟨nd, rfl⟩⟩; refine ⟨_, rfl, ?_⟩; (try (rw [drewN_self w127]; generalize hq_ : World.drewN w127 _ = w127; replace BK1175 := gd BK1175 hq_; replace HB := gs HB hq_; clear hq_))))
          replace BK1175 := bd BK1175; replace HB := sd HB
          refine start_ (n := 9) (S := fun w' => w'.cell? ⟨gb1175, 0, none⟩ = some (.int .i64 a1_0) ∧ w'.cell? ⟨gb1175, 1, none⟩ = some (.int .i64 a1_1)) (ds := []) #[false, false, false, false, false, false, false, false, false] (by kernel_rfl) rfl rfl cz (fun hHeld => ?_); refine with_tabW Lw_LineDetections.tab5 Lw_LineDetections.bits5 (fun HT_ HW_ => ?_)
          generalize w127.drew = w128 at BK1175 HB hHeld ⊢
          refine pureZ (i := 0) (N := some 20) #[true, false, false, false, false, false, false, false, false] HT_ ?_
          refine takeZ 2 (some 22) #[true, false, true, false, false, false, false, false, false] (take_ofW HT_.out HW_.out (by kernel_rfl)) hHeld ?_
          refine oneZ 1 (some 21) #[true, true, true, false, false, false, false, false, false] (one_of HT_.out (by kernel_rfl)) fun K hK => ?_
          refine goes_ Tryd.func33 (by kernel_rfl) rfl #[.slice A0 l0.length c0] (by rfl) rfl rfl mz ?_
          with_reducible refine (Bs_CopyInts.calls _ _ l0 t1178 _ ?side1 ?side2 A8.out).mono ?_
          (case side1 => exact cb HR0 HB)
          (case side2 => exact HC0.out)
          rintro e w129 ⟨v1179, rfl, ho0, hb⟩
          refine ⟨_, rfl, ?_⟩
          have HO1180 := m0 (Kd.R_lower ho0 (below_size bz)); replace BK1175 := bb BK1175 hb; replace HB := sb HB hb
          (try clear hb)
          (try clear ho0)
          obtain ⟨Ao130, co130, eo130⟩ := Kd.R_slice HO1180.out
          (first | subst eo130 | (injection eo130 with f1_ f2_ f3_; have f4_ := f1_.symm; have f5_ := f3_.symm; clear f1_ f2_ f3_; subst f4_; subst f5_))
          refine hK.out _ _ cz (fun hHeld => ?_)
          clear hK K
          refine norm_ (a' := ?_) ?_ ?_
          rotate_left
          · show Act.put _ (some 21) _ = _
            exact pz
          refine oneZ 3 (some 23) #[true, true, true, true, false, false, false, false, false] (one_of HT_.out (by kernel_rfl)) fun K hK => ?_
          refine goes_ Tryd.func43 (by kernel_rfl) rfl #[.slice Ao130 t1178.length co130, .agg #[.int .i64 a1_0, .int .i64 a1_1]] (by rfl) rfl rfl mz ?_
          with_reducible refine (line_DetectionsIn.calls k _ _ t1178 a1_0 a1_1 t1181 t1184 _ ?side1 ?side2 A9.out).mono ?_
          (case side1 => exact bc (Kd.R_reads' HO1180.out).2.2)
          (case side2 => exact (Kd.R_reads' HO1180.out).2.1)
          rintro e w131 ⟨v1182, rfl, ho0, hb⟩
          refine ⟨_, rfl, ?_⟩
          have HO1183 := m0 (Kd.R_lower (Kd.R_new' ho0 (Kd.R_lt (br HO1180.out))) (below_size bz)); replace HO1180 := m0 (Kd.R_elder' (br HO1180.out) (Kd.R_base ho0) hb); replace BK1175 := bb BK1175 hb; replace HB := sb HB hb
          (try clear hb)
          (try clear ho0)
          refine hK.out _ _ cz (fun hHeld => ?_)
          clear hK K
          refine norm_ (a' := ?_) ?_ ?_
          rotate_left
          · show Act.put _ (some 23) _ = _
            exact pz
          refine pureZ (i := 4) (N := some 19) #[true, true, true, true, true, false, false, false, false] HT_ ?_
          refine pureZ (i := 5) (N := some 24) #[true, true, true, true, true, true, false, false, false] HT_ ?_
          refine pureZ (i := 6) (N := some 25) #[true, true, true, true, true, true, true, false, false] HT_ ?_
          refine pureZ (i := 7) (N := some 7) #[true, true, true, true, true, true, true, true, false] HT_ ?_
          refine pureZ (i := 8) (N := some 8) #[true, true, true, true, true, true, true, true, true] HT_ ?_
          refine done_ (done_of HT_.out (by kernel_rfl)) ?_
          try go_wp2_with (first | ((with_reducible refine gate_callee (f := 33) rfl ?_); refine gl (some 28) Tryd.func33 #[.slice A0 l0.length c0] ?_; (with_reducible refine (Bs_CopyInts.calls _ _ l0 t1185 _ ?side1 ?side2 A10.out).mono ?_); (case side1 => exact cb HR0 HB); (case side2 => exact HC0.out); rintro e w132 ⟨v1186, rfl, ho0, hb⟩; refine ⟨_, rfl, ?_⟩; have HO1187 := m0 (Kd.R_lower (Kd.R_new' (Kd.R_new' ho0 (Kd.R_lt (br HO1180.out))) (Kd.R_lt (br HO1183.out))) (below_size bz)); replace HO1180 := m0 (Kd.R_elder' (br HO1180.out) (Kd.R_base ho0) hb); replace HO1183 := m0 (Kd.R_elder' (br HO1183.out) (Kd.R_base ho0) hb); replace BK1175 := bb BK1175 hb; replace HB := sb HB hb; (try clear hb); (try clear ho0); obtain ⟨Ao133, co133, eo133⟩ := Kd.R_slice HO1187.out; subst eo133) | ((with_reducible refine gate_callee (f := 63) rfl ?_); refine gl (some 30) Tryd.func63 #[.slice Ao133 t1185.length co133, .int .i64 a2] ?_; (with_reducible refine (line_QualityOf.calls k _ _ t1185 a2 t1188 t1189 t1190 _ ?side1 ?side2 A11.out).mono ?_); (case side1 => exact bc (Kd.R_reads' HO1187.out).2.2); (case side2 => exact (Kd.R_reads' HO1187.out).2.1); rintro e w134 ⟨rfl, hb⟩; refine ⟨_, rfl, ?_⟩; replace HO1180 := rb HO1180 hb; replace HO1183 := rb HO1183 hb; replace HO1187 := rb HO1187 hb; replace BK1175 := bb BK1175 hb; replace HB := sb HB hb; (try clear hb)) | ((with_reducible refine gate_dst (N := 9) rfl ?_); (try (refine gate_guard (by rfl) ?_; dsimp only)); refine be 9 26 #[.int .i64 0, .int .i64 0] ?_; intro gb1191 hg w135 hbox hb; replace HO1180 := rb HO1180 hb; replace HO1183 := rb HO1183 hb; replace HO1187 := rb HO1187 hb; have BK1191 := m0 hbox; have GW1191 := m0 (bg (n := w.heap.size) hg); have GE1191 := m0 (bg (n := w.heap.size) hg); replace HB := sb HB hb; have NB1175_1191 := nl BK1175 hg; have NB1191_1175 := ng (nl BK1175 hg); replace BK1175 := bb BK1175 hb; clear hb hbox hg; have hnb136 := NB1191_1175.out; have hnc136 := NB1175_1191.out; obtain ⟨_, _, _, _⟩ := b2 BK1191) | ((with_reducible refine gate_callee (f := 30) rfl ?_); refine gl (some 34) Tryd.func30 #[.slice A0 l0.length c0] ?_; (with_reducible refine (Rf_SpectrumErr.calls k _ _ l0 t1192 _ ?side1 ?side2 A12.out).mono ?_); (case side1 => exact Kd.C_below HR0.out bz); (case side2 => exact HC0.out); rintro e w' ⟨rfl, ⟨nd, rfl⟩⟩; refine ⟨_, rfl, ?_⟩))
          go_ret
          exact ez
    · replace c7 := Bool.eq_false_iff.mpr c7
      subst c7
      rw [if_neg (show ¬ (false = true) by decide)] at H
      obtain rfl := Option.some.inj H
      go_enter Tryd.func10, Tryd.ntmps10
      go_wp2_with (first | ((with_reducible refine gate_dst (N := 4) rfl ?_); (try (refine gate_guard (by rfl) ?_; dsimp only)); refine be 4 57 #[.int .i64 a1_0, .int .i64 a1_1] ?_; intro gb1175 hg w138 hbox hb; have BK1175 := m0 hbox; have GW1175 := m0 (bg (n := w.heap.size) hg); have GE1175 := m0 (bg (n := w.heap.size) hg); replace HB := sb HB hb; clear hb hbox hg) | ((with_reducible refine gate_callee (f := 18) rfl ?_); refine gl (some 14) Tryd.func18 #[] ?_; (with_reducible refine (Lw_awake.calls k  true _ ?side1 A4.out).mono ?_); (case side1 => exact EstG.below HG.out bz); rintro e w139 ⟨rfl, hb⟩; refine ⟨_, rfl, ?_⟩; replace BK1175 := bb BK1175 hb; replace HB := sb HB hb; (try clear hb)) | ((with_reducible refine gate_callee (f := 50) rfl ?_); refine gl (some 17) Tryd.func50 #[.slice A0 l0.length c0] ?_; (with_reducible refine (Lw_short.calls _ _ l0 false _ ?side1 ?side2 A6.out).mono ?_); (case side1 => exact cb HR0 HB); (case side2 => exact HC0.out); rintro e w' ⟨rfl, ⟨nd, rfl⟩⟩; refine ⟨_, rfl, ?_⟩))
      go_ret
      exact ez
  · replace c5 := Bool.eq_false_iff.mpr c5
    subst c5
    rw [if_neg (show ¬ (false = true) by decide)] at H
    obtain rfl := Option.some.inj H
    go_enter Tryd.func10, Tryd.ntmps10
    go_wp2_with (first | ((with_reducible refine gate_dst (N := 4) rfl ?_); (try (refine gate_guard (by rfl) ?_; dsimp only)); refine be 4 57 #[.int .i64 a1_0, .int .i64 a1_1] ?_; intro gb1175 hg w140 hbox hb; have BK1175 := m0 hbox; have GW1175 := m0 (bg (n := w.heap.size) hg); have GE1175 := m0 (bg (n := w.heap.size) hg); replace HB := sb HB hb; clear hb hbox hg) | ((with_reducible refine gate_callee (f := 18) rfl ?_); refine gl (some 14) Tryd.func18 #[] ?_; (with_reducible refine (Lw_awake.calls k  false _ ?side1 A4.out).mono ?_); (case side1 => exact EstG.below HG.out bz); rintro e w141 ⟨rfl, hb⟩; refine ⟨_, rfl, ?_⟩; replace BK1175 := bb BK1175 hb; replace HB := sb HB hb; (try clear hb)))
    go_ret
    exact ez
end
end Go.Proofs.YtjnkphmcndaijaaDoor.A
