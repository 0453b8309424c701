/- Walks of the program's functions (printed, made shorter), each with what it computes. -/
import Derived.Test.YtibhfahbabgbaaaB05
import Derived.Test.YtibhfahbabgbaaaB04
import Derived.Test.YtibhfahbabgbaaaB12
import Derived.Test.YtibhfahbabgbaaaB10
namespace Go.Proofs.Ytibhfahbabgbaaa.A
set_option maxHeartbeats 8000000
set_option maxRecDepth 100000
open Go.RowKit Go.Proofs.YtibhfahbabgbaaaW.PrintWords Go.Proofs.YtibhfahbabgbaaaW.PrintLast Go.Proofs.YtibhfahbabgbaaaW.PrintMore
attribute [local go_sem] max2_int min2_int max_two min_two max_three min_three max_four min_four
set_option linter.unusedVariables false
set_option linter.unusedSimpArgs false
section
theorem eqA73 (d : Nat) (w : World) (x0 y0 : Int) (x1 y1 : Int) :
  (Op.equalIn (d + 2) 73 (.agg #[.int .i64 x0, .int .i64 x1]) (.agg #[.int .i64 y0, .int .i64 y1])).run Try.prog w = .ok (x0 == y0 && (x1 == y1)) w := by
 refine eqA_of Try.underlying73 (by kernel_rfl) ?_
 refine eqf_cons (by rfl) (by go_simp; rfl) (by go_simp; rfl) (by go_simp) ?_
 exact eqf_last (by rfl) (by go_simp; rfl) (by go_simp; rfl) (by go_simp)
end
section
theorem eqA93 (d : Nat) (w : World) (x0 y0 : Int) (x1 y1 : Int) (x2 y2 : Int) (x3 y3 : Int) :
  (Op.equalIn (d + 3) 93 (.agg #[.int .i64 x0, .int .i64 x1, .int .i64 x2, .int .i64 x3]) (.agg #[.int .i64 y0, .int .i64 y1, .int .i64 y2, .int .i64 y3])).run Try.prog w = .ok ((x0 == y0 && (x1 == y1)) && ((x2 == y2 && (x3 == y3)))) w := by
 refine eqA_of Try.underlying93 (by kernel_rfl) ?_
 refine eqf_cons (by rfl) (by go_simp) (by go_simp) (eqA73 (d + 0) w _ _ _ _) ?_
 exact eqf_last (by rfl) (by go_simp) (by go_simp) (eqA73 (d + 0) w _ _ _ _)
end
section
def Bs_Within.f (a0 : Int) (a1 : Int) (a2 : Int) : Option (Bool) := if a1 ≤ a0 then (some (decide (a0 ≤ a2))) else (some false)
theorem Bs_Within.calls (a0 : Int) (a1 : Int) (a2 : Int) (r : Bool) (w : World) (h : Bs_Within.f a0 a1 a2 = some r) :
  Calls Try.prog 24 #[.int .i64 a0, .int .i64 a1, .int .i64 a2] w fun e w' => e = .returned (.bool r) ∧ Drawn0 w w' := by
 have H : (if a1 ≤ a0 then (some (decide (a0 ≤ a2))) else (some false)) = some r := h
 clear h
 by_cases c4 : a1 ≤ a0
 ·rw [if_pos c4] at H
  have c4b0 := decide_eq_true c4
  clear c4
  obtain rfl := Option.some.inj H
  go_enter Try.func24, Try.ntmps24
  go_wp2
  go_ret
  exact ⟨by first | rfl | (simp; done) | (simp [*]; done), by repeat (first | exact Drawn0.refl _ | apply Drawn0.step)⟩
 ·rw [if_neg c4] at H
  have c4b0 := decide_eq_false c4
  clear c4
  obtain rfl := Option.some.inj H
  go_enter Try.func24, Try.ntmps24
  go_wp2
  go_ret
  exact ⟨by first | rfl | (simp; done) | (simp [*]; done), by repeat (first | exact Drawn0.refl _ | apply Drawn0.step)⟩
end
section
def L_pairsErr_1.f (a0_0 : Int) (a0_1 : Int) : Option (Bool) := (L_isSized.f a0_0 10000).bind fun t1154 => (if t1154 = true then ((L_isSized.f a0_1 10000).bind fun t1155 => (some t1155)) else (some false))
theorem L_pairsErr_1.calls (a0_0 : Int) (a0_1 : Int) (r : Bool) (w : World) (h : L_pairsErr_1.f a0_0 a0_1 = some r) :
  Calls Try.prog 140 #[.agg #[.int .i64 a0_0, .int .i64 a0_1]] w fun e w' => e = .returned (.bool r) ∧ Below w.heap.size w w' := by
 have hu58 := Try.underlying58
 have HB := m0 (Below.refl w.heap.size w)
 have H : ((L_isSized.f a0_0 10000).bind fun t1154 => (if t1154 = true then ((L_isSized.f a0_1 10000).bind fun t1155 => (some t1155)) else (some false))) = some r := h
 clear h
 replace H := ob H
 obtain ⟨t1154, A2, H⟩ := H
 (try dsimp only at H)
 replace A2 := m0 A2
 by_cases c3 : t1154 = true
 ·subst c3
  rw [if_pos rfl] at H
  replace H := ob H
  obtain ⟨t1155, A4, H⟩ := H
  (try dsimp only at H)
  replace A4 := m0 A4
  obtain rfl := Option.some.inj H
  go_enter Try.func140, Try.ntmps140
  go_wp2_with (first | ((with_reducible refine gate_dst (N := 1) rfl ?_); refine be 1 58 #[.int .i64 a0_0, .int .i64 a0_1] ?_; intro gb1153 hg w5 hbox hb; have BK1153 := m0 hbox; have GE1153 := gw w hg; replace HB := sb HB hb; clear hb hbox hg; obtain ⟨_, _, _, _⟩ := b2 BK1153) | ((with_reducible refine gate_callee (f := 107) rfl ?_); refine gl (some 5) Try.func107 #[.int .i64 a0_0, .int .i64 10000] ?_; (with_reducible refine (L_isSized.calls a0_0 10000 true _ A2.out).mono ?_); rintro e w' ⟨rfl, ⟨nd, rfl⟩⟩; refine ⟨_, rfl, ?_⟩) | (go_at_call 107; (with_reducible refine (L_isSized.calls a0_1 10000 t1155 _ A4.out).mono ?_); rintro e w' ⟨rfl, ⟨nd, rfl⟩⟩))
  go_ret
  exact ez
 ·replace c3 := Bool.eq_false_iff.mpr c3
  subst c3
  rw [if_neg (show ¬ (false = true) by decide)] at H
  obtain rfl := Option.some.inj H
  go_enter Try.func140, Try.ntmps140
  go_wp2_with (first | ((with_reducible refine gate_dst (N := 1) rfl ?_); refine be 1 58 #[.int .i64 a0_0, .int .i64 a0_1] ?_; intro gb1153 hg w7 hbox hb; have BK1153 := m0 hbox; have GE1153 := gw w hg; replace HB := sb HB hb; clear hb hbox hg; obtain ⟨_, _, _, _⟩ := b2 BK1153) | ((with_reducible refine gate_callee (f := 107) rfl ?_); refine gl (some 5) Try.func107 #[.int .i64 a0_0, .int .i64 10000] ?_; (with_reducible refine (L_isSized.calls a0_0 10000 false _ A2.out).mono ?_); rintro e w' ⟨rfl, ⟨nd, rfl⟩⟩; refine ⟨_, rfl, ?_⟩))
  go_ret
  exact ez
end
section
def L_pairsErr.l0 : Nat → Int → List (S165) → Int → Int → Option (Int)
 | 0, _, _, _, _ => none
 | k + 1, x3, x17, x18, x19 => if x19 < x18 then (if 0 ≤ x19 then (if x19 < (x17.length : Int) then ((L_pairsErr_1.f ((rd_T165 x17 x19).f0.f0) ((rd_T165 x17 x19).f0.f1)).bind fun t1164 => (if t1164 = true then ((L_pairsErr_1.f ((rd_T165 x17 x19).f1.f0) ((rd_T165 x17 x19).f1.f1)).bind fun t1165 => ((L_unless.f t1165 2).bind fun t1166 => (if ((rd_T165 x17 x19).f0.f0) ≤ ((rd_T165 x17 x19).f0.f1) then ((L_unless.f (decide (((rd_T165 x17 x19).f1.f0) ≤ ((rd_T165 x17 x19).f1.f1))) 9).bind fun t1167 => ((L_first.f k (([x3, t1166, t1167] : List Int))).bind fun t1171 => (L_pairsErr.l0 k t1171 x17 x18 (wrap64 (x19 + 1))))) else ((L_unless.f false 9).bind fun t1172 => ((L_first.f k (([x3, t1166, t1172] : List Int))).bind fun t1176 => (L_pairsErr.l0 k t1176 x17 x18 (wrap64 (x19 + 1)))))))) else ((L_unless.f false 2).bind fun t1177 => (if ((rd_T165 x17 x19).f0.f0) ≤ ((rd_T165 x17 x19).f0.f1) then ((L_unless.f (decide (((rd_T165 x17 x19).f1.f0) ≤ ((rd_T165 x17 x19).f1.f1))) 9).bind fun t1178 => ((L_first.f k (([x3, t1177, t1178] : List Int))).bind fun t1182 => (L_pairsErr.l0 k t1182 x17 x18 (wrap64 (x19 + 1))))) else ((L_unless.f false 9).bind fun t1183 => ((L_first.f k (([x3, t1177, t1183] : List Int))).bind fun t1187 => (L_pairsErr.l0 k t1187 x17 x18 (wrap64 (x19 + 1))))))))) else (none)) else (none)) else (some x3)
def L_pairsErr.f (k : Nat) (l0 : List (S165)) : Option (Int) := (L_unless.f (decide ((l0.length : Int) > 0)) 10).bind fun t1156 => ((L_unless.f (decide ((l0.length : Int) ≤ 20)) 8).bind fun t1157 => ((L_first.f k (([t1156, t1157] : List Int))).bind fun t1161 => (L_pairsErr.l0 k t1161 l0 (l0.length : Int) 0)))
theorem L_pairsErr.mono_l : ∀ k, (∀ y0 y1 y2 y3, LeO (L_pairsErr.l0 k y0 y1 y2 y3) (L_pairsErr.l0 (k + 1) y0 y1 y2 y3))
 | 0 => fun _ _ _ _ r h => by simp [L_pairsErr.l0] at h
 | k + 1 => by
  have ih0 := L_pairsErr.mono_l k
  ·intro y0 y1 y2 y3
   unfold L_pairsErr.l0
   repeat' with_reducible first
    | exact ih0 ..
    | exact L_first.mono ..
    | exact LeO.refl ..
    | exact LeO.none ..
    | refine LeO.ite ?_ ?_
    | refine LeO.bind ?_ (fun _ => ?_)
theorem L_pairsErr.mono : ∀ a0 k, LeO (L_pairsErr.f k a0) (L_pairsErr.f (k + 1) a0) := by
 intro a0 k
 have ih0 := L_pairsErr.mono_l k
 unfold L_pairsErr.f
 repeat' with_reducible first
  | exact ih0 ..
  | exact L_first.mono ..
  | exact LeO.refl ..
  | exact LeO.none ..
  | refine LeO.ite ?_ ?_
  | refine LeO.bind ?_ (fun _ => ?_)
def L_pairsErr.T6 : Bool × List (List Nat × List Nat) := (true, [([], []), ([], []), ([], []), ([2], [2]), ([1, 3], [1, 3]), ([4, 4], [4]), ([5], [5]), ([5], [5]), ([7, 5], [5, 7]), ([6, 8, 5, 5], [5, 6, 8]), ([5, 9], [5, 9]), ([10, 9], [10]), ([], []), ([12], [12]), ([13], [13]), ([], []), ([15], [15]), ([16], [16]), ([14, 17], [14, 17]), ([18, 11], [18]), ([19], [19]), ([20, 19], [19, 20]), ([21, 19], [19, 21]), ([19], [19]), ([23, 19], [19, 23]), ([24, 19], [19, 24]), ([22, 25, 19], [19, 22, 25]), ([19, 26], [19, 26]), ([27, 19], [27]), ([0, 11, 28], [0, 11, 28]), ([29, 28], [29]), ([30, 30, 0, 1, 2, 3, 4, 5, 6, 7, 8, 9, 10, 11, 12, 13, 14, 15, 16, 17, 18, 19, 20, 21, 22, 23, 24, 25, 26, 27, 28, 29, 30], [0, 30])])
def L_pairsErr.B6 : List Nat := [0, 0, 0, 4, 14, 30, 62, 62, 190, 510, 1022, 2046, 0, 4096, 12288, 0, 32768, 98304, 258048, 524286, 1048574, 2097150, 4194302, 1048574, 9437182, 26214398, 67108862, 134217726, 268435454, 536870911, 1073741823, 2147483647]
theorem L_pairsErr.tab6 : rtab .any (opsOf Try.f105 6) = L_pairsErr.T6 := by kernel_rfl
theorem L_pairsErr.bits6 : waitsOk L_pairsErr.T6.2 L_pairsErr.B6 = true := by kernel_rfl
theorem L_pairsErr.calls (k : Nat) (A0 : Option Addr) (c0 : Nat) (l0 : List (S165)) (r : Int) (w : World) (hr0 : Kd.C k165 w A0 l0.length l0) (hc0 : l0.length ≤ c0) (h : L_pairsErr.f k l0 = some r) :
  Calls Try.prog 105 #[.slice A0 l0.length c0] w fun e w' => e = .returned (.int .i64 r) ∧ Below w.heap.size w w' := by
 have hu165 := Try.underlying165
 have hu58 := Try.underlying58
 have HR0 := m0 hr0
 have HC0 := m0 hc0
 clear hr0 hc0
 have HB := m0 (Below.refl w.heap.size w)
 have H : ((L_unless.f (decide ((l0.length : Int) > 0)) 10).bind fun t1156 => ((L_unless.f (decide ((l0.length : Int) ≤ 20)) 8).bind fun t1157 => ((L_first.f k (([t1156, t1157] : List Int))).bind fun t1161 => (L_pairsErr.l0 k t1161 l0 (l0.length : Int) 0)))) = some r := h
 clear h
 replace H := ob H
 obtain ⟨t1156, A2, H⟩ := H
 (try dsimp only at H)
 replace A2 := m0 A2
 replace H := ob H
 obtain ⟨t1157, A3, H⟩ := H
 (try dsimp only at H)
 replace A3 := m0 A3
 obtain ⟨y1158, hy1158⟩ : ∃ y_ : List Int, y_ = (([t1156, t1157] : List Int)) := ⟨_, rfl⟩
 replace H : ((L_first.f k y1158).bind fun t1161 => (L_pairsErr.l0 k t1161 l0 (l0.length : Int) 0)) = some r := by first | (rw [hy1158]; with_reducible exact H) | (have H2_ := (Option.bind_some _ _).symm.trans H; rw [hy1158]; with_reducible exact H2_) | (have H2_ := (Option.bind_some _ _).symm.trans H; with_reducible exact H2_) | with_reducible exact H | (rw [hy1158]; exact H) | exact H
 have Ny1158 := m0 hy1158
 clear hy1158
 replace H := ob H
 obtain ⟨t1161, A4, H⟩ := H
 (try dsimp only at H)
 replace A4 := m0 A4
 have H' := m0 H
 clear H
 go_enter Try.func105, Try.ntmps105
 go_wp2_with (first | ((with_reducible refine gate_callee (f := 76) rfl ?_); refine goesL_ (some 10) rfl rfl Try.func76 (by kernel_rfl) rfl #[.bool (decide ((l0.length : Int) > 0)), .int .i64 10] rfl (by (try simp only [List.map_toArray, List.map_cons, List.map_nil]); first | done | rfl | (simp only [List.length_drop, List.length_take]; rfl) | (simp; first | done | exact ⟨rfl, rfl⟩)) ?_; (with_reducible refine (L_unless.calls (decide ((l0.length : Int) > 0)) 10 t1156 _ A2.out).mono ?_); rintro e w' ⟨rfl, ⟨nd, rfl⟩⟩; refine ⟨_, rfl, ?_⟩) | ((with_reducible refine gate_callee (f := 76) rfl ?_); refine gl (some 14) Try.func76 #[.bool (decide ((l0.length : Int) ≤ 20)), .int .i64 8] ?_; (with_reducible refine (L_unless.calls (decide ((l0.length : Int) ≤ 20)) 8 t1157 _ A3.out).mono ?_); rintro e w' ⟨rfl, ⟨nd, rfl⟩⟩; refine ⟨_, rfl, ?_⟩) | ((with_reducible refine gate_dst (N := 15) rfl ?_); refine Kd.R_lit (Kd.int .i64) _ 24 ?hg (N := 15) ?hd (xs := ([t1156, t1157] : List Int)) (inner := [.int .i64 t1156, .int .i64 t1157]) (ok := fun _ => True) (okp := fun _ => True) ?hr ?hp (fun _ hk => hk) trivial (Below.refl _ _) (Nat.le_refl _) (by simp) ?_; (case hd => rfl); (case hg => rfl); (case hr => first | (go_simp; done) | (go_simp; rfl)); (case hp => exact (Reps.one (show Kd.M (Kd.int .i64) _ _ _ t1156 [.int .i64 t1156] from rfl) (Reps.one (show Kd.M (Kd.int .i64) _ _ _ t1157 [.int .i64 t1157] from rfl) (Reps.none _ _)))); intro v1159 w5 ho6 hb hg_ hnew_; clear hg_ hnew_; (first | rw [← Ny1158.out] at ho6 | (simp only [Int.reduceToNat] at ho6; rw [← Ny1158.out] at ho6)); have HO1160 := m0 (Kd.R_lower ho6 (below_size bz)); replace HB := sb HB hb; clear hb ho6; obtain ⟨Ao7, co7, eo7⟩ := Kd.R_slice HO1160.out; subst eo7) | ((with_reducible refine gate_callee (f := 75) rfl ?_); refine gl (some 16) Try.func75 #[.slice Ao7 y1158.length co7] ?_; (with_reducible refine (L_first.calls k _ _ y1158 t1161 _ ?side1 ?side2 A4.out).mono ?_); (case side1 => exact bc (Kd.R_reads' HO1160.out).2.2); (case side2 => exact (Kd.R_reads' HO1160.out).2.1); rintro e w' ⟨rfl, ⟨nd, rfl⟩⟩; refine ⟨_, rfl, ?_⟩))
 go_loopg [3, 19] k (fun kq v3 v19 w' => ∃ (x3_1 : Int) (x19_1 : Int), v3 = .int .i64 x3_1 ∧ v19 = .int .i64 x19_1 ∧ Aside0 (L_pairsErr.l0 kq x3_1 l0 (l0.length : Int) x19_1 = some r) ∧ Aside0 (kq ≤ k) ∧ Aside0 (Below w.heap.size w w'))
 case atStart => exact ⟨(t1161), (0), (by first | rfl | (simp; done) | (simp [*]; done)), (by first | rfl | (simp; done) | (simp [*]; done)), H', ⟨Nat.le_refl _⟩, ⟨bz⟩⟩
 case round =>
  clear H'
  obtain ⟨x3_1, x19_1, rfl, rfl, HA, HK1, HB⟩ := hrel
  cases gk with
  | zero => exact absurd HA.out (by simp [L_pairsErr.l0])
  | succ k1 =>
   have H := HA.out
   clear HA
   simp only [L_pairsErr.l0] at H
   by_cases c8 : x19_1 < (l0.length : Int)
   ·rw [if_pos c8] at H
    have c8b0 := decide_eq_true c8
    clear c8
    by_cases c9 : 0 ≤ x19_1
    ·rw [if_pos c9] at H
     have c9b0 := decide_eq_true c9
     clear c9
     by_cases c10 : x19_1 < (l0.length : Int)
     ·rw [if_pos c10] at H
      have c10b0 := decide_eq_true c10
      clear c10
      replace H := ob H
      obtain ⟨t1164, A11, H⟩ := H
      (try dsimp only at H)
      replace A11 := m0 A11
      by_cases c12 : t1164 = true
      ·subst c12
       rw [if_pos rfl] at H
       replace H := ob H
       obtain ⟨t1165, A13, H⟩ := H
       (try dsimp only at H)
       replace A13 := m0 A13
       replace H := ob H
       obtain ⟨t1166, A14, H⟩ := H
       (try dsimp only at H)
       replace A14 := m0 A14
       by_cases c15 : ((rd_T165 l0 x19_1).f0.f0) ≤ ((rd_T165 l0 x19_1).f0.f1)
       ·rw [if_pos c15] at H
        have c15b0 := decide_eq_true c15
        clear c15
        replace H := ob H
        obtain ⟨t1167, A16, H⟩ := H
        (try dsimp only at H)
        replace A16 := m0 A16
        obtain ⟨y1168, hy1168⟩ : ∃ y_ : List Int, y_ = (([x3_1, t1166, t1167] : List Int)) := ⟨_, rfl⟩
        replace H : ((L_first.f k1 y1168).bind fun t1171 => (L_pairsErr.l0 k1 t1171 l0 (l0.length : Int) (wrap64 (x19_1 + 1)))) = some r := by first | (rw [hy1168]; with_reducible exact H) | (have H2_ := (Option.bind_some _ _).symm.trans H; rw [hy1168]; with_reducible exact H2_) | (have H2_ := (Option.bind_some _ _).symm.trans H; with_reducible exact H2_) | with_reducible exact H | (rw [hy1168]; exact H) | exact H
        have Ny1168 := m0 hy1168
        clear hy1168
        replace H := ob H
        obtain ⟨t1171, A17, H⟩ := H
        (try dsimp only at H)
        replace A17 := m0 A17
        have H' := m0 H
        clear H
        have p1162 : 0 ≤ (x19_1 : Int) := od
        have q1162 : x19_1 < (l0.length : Int) := od
        obtain ⟨ad1162, e1162, hx1162_0, hx1162_1, hx1162_2, hx1162_3⟩ := at_T165 HR0.out x19_1 p1162 q1162
        cases e1162
        replace hx1162_0 := (HB.out.cell (World.block_lt_of_cell? w _ hx1162_0)).trans hx1162_0
        replace hx1162_1 := (HB.out.cell (World.block_lt_of_cell? w _ hx1162_1)).trans hx1162_1
        replace hx1162_2 := (HB.out.cell (World.block_lt_of_cell? w _ hx1162_2)).trans hx1162_2
        replace hx1162_3 := (HB.out.cell (World.block_lt_of_cell? w _ hx1162_3)).trans hx1162_3
        replace p1162 := eq_true p1162
        replace q1162 := eq_true q1162
        try go_wp2_with (first | ((with_reducible refine gate_dst (N := 6) rfl ?_); refine be 6 165 #[.int .i64 0, .int .i64 0, .int .i64 0, .int .i64 0] ?_; intro gb1163 hg w18 hbox hb; have BK1163 := m0 hbox; have GE1163 := gw w hg; replace HB := sb HB hb; clear hb hbox hg; obtain ⟨_, _, _, _, _, _, _, _⟩ := b4 BK1163))
        replace BK1163 : Aside0 (((((w18.setCell ⟨gb1163, 0, none⟩ (.int .i64 ((rd_T165 l0 x19_1).f0.f0))).setCell ⟨gb1163, 1, none⟩ (.int .i64 ((rd_T165 l0 x19_1).f0.f1))).setCell ⟨gb1163, 2, none⟩ (.int .i64 ((rd_T165 l0 x19_1).f1.f0))).setCell ⟨gb1163, 3, none⟩ (.int .i64 ((rd_T165 l0 x19_1).f1.f1))).heap[gb1163]? = some (.cells #[.int .i64 ((rd_T165 l0 x19_1).f0.f0), .int .i64 ((rd_T165 l0 x19_1).f0.f1), .int .i64 ((rd_T165 l0 x19_1).f1.f0), .int .i64 ((rd_T165 l0 x19_1).f1.f1)] 165 (0, 0))) := ⟨bq BK1163.out⟩
        replace HB : Aside0 (Below w.heap.size w ((((w18.setCell ⟨gb1163, 0, none⟩ (.int .i64 ((rd_T165 l0 x19_1).f0.f0))).setCell ⟨gb1163, 1, none⟩ (.int .i64 ((rd_T165 l0 x19_1).f0.f1))).setCell ⟨gb1163, 2, none⟩ (.int .i64 ((rd_T165 l0 x19_1).f1.f0))).setCell ⟨gb1163, 3, none⟩ (.int .i64 ((rd_T165 l0 x19_1).f1.f1)))) := ⟨bz⟩
        generalize ((((w18.setCell ⟨gb1163, 0, none⟩ (.int .i64 ((rd_T165 l0 x19_1).f0.f0))).setCell ⟨gb1163, 1, none⟩ (.int .i64 ((rd_T165 l0 x19_1).f0.f1))).setCell ⟨gb1163, 2, none⟩ (.int .i64 ((rd_T165 l0 x19_1).f1.f0))).setCell ⟨gb1163, 3, none⟩ (.int .i64 ((rd_T165 l0 x19_1).f1.f1))) = w20 at BK1163 HB ⊢
        replace BK1163 := bd BK1163; replace HB := sd HB
        refine start_ (n := 32) (S := fun w' => w'.cell? ⟨gb1163, 0, none⟩ = some (.int .i64 ((rd_T165 l0 x19_1).f0.f0)) ∧ w'.cell? ⟨gb1163, 1, none⟩ = some (.int .i64 ((rd_T165 l0 x19_1).f0.f1)) ∧ w'.cell? ⟨gb1163, 2, none⟩ = some (.int .i64 ((rd_T165 l0 x19_1).f1.f0)) ∧ w'.cell? ⟨gb1163, 3, none⟩ = some (.int .i64 ((rd_T165 l0 x19_1).f1.f1))) (ds := []) #[false, false, false, false, false, false, false, false, false, false, false, false, false, false, false, false, false, false, false, false, false, false, false, false, false, false, false, false, false, false, false, false] (by kernel_rfl) rfl rfl cz (fun hH => ?_); refine with_tabW L_pairsErr.tab6 L_pairsErr.bits6 (fun HT_ HW_ => ?_)
        generalize w20.drew = w21 at BK1163 HB hH ⊢
        refine pZ 0 (some 23) (bs 32 1) HT_ ?_
        refine pZ 1 (some 24) (bs 32 3) HT_ ?_
        refine pZ 2 (some 25) (bs 32 7) HT_ ?_
        refine pZ 12 (some 35) (bs 32 4103) HT_ ?_
        refine pZ 13 (some 36) (bs 32 12295) HT_ ?_
        refine pZ 15 (some 38) (bs 32 45063) HT_ ?_
        refine pZ 16 (some 39) (bs 32 110599) HT_ ?_
        refine takeZ 3 (some 26) (bs 32 110607) (take_ofW HT_.out HW_.out (by kernel_rfl)) hH ?_
        refine takeZ 14 (some 37) (bs 32 126991) (take_ofW HT_.out HW_.out (by kernel_rfl)) hH ?_
        refine takeZ 17 (some 40) (bs 32 258063) (take_ofW HT_.out HW_.out (by kernel_rfl)) hH ?_
        refine pZ 18 (some 41) (bs 32 520207) HT_ ?_
        refine oneZ 4 (some 27) (bs 32 520223) (one_of HT_.out (by kernel_rfl)) fun K hK => ?_
        refine goesV_ 24 Try.func140 (by kernel_rfl) rfl #[.agg #[.int .i64 ((rd_T165 l0 x19_1).f0.f0), .int .i64 ((rd_T165 l0 x19_1).f0.f1)]] (by rfl) rfl rfl (by rfl) mz ?_
        with_reducible refine (L_pairsErr_1.calls ((rd_T165 l0 x19_1).f0.f0) ((rd_T165 l0 x19_1).f0.f1) true _ A11.out).mono ?_
        rintro e w22 ⟨rfl, hb⟩
        refine ⟨_, rfl, ?_⟩
        replace BK1163 := bb BK1163 hb; replace HB := sb HB hb
        (try clear hb)
        refine hK.out _ _ cz (fun hH => ?_)
        clear hK K
        refine norm_ (a' := ?_) ?_ ?_
        rotate_left
        ·show Act.put _ (some 27) _ = _
         exact pz
        refine pZ 5 (some 28) (bs 32 520255) HT_ ?_
        refine pZ 6 (some 29) (bs 32 520319) HT_ ?_
        refine pZ 7 (some 30) (bs 32 520447) HT_ ?_
        refine takeZ 8 (some 31) (bs 32 520703) (take_ofW HT_.out HW_.out (by kernel_rfl)) hH ?_
        refine oneZ 9 (some 32) (bs 32 521215) (one_of HT_.out (by kernel_rfl)) fun K hK => ?_
        refine goesV_ 29 Try.func140 (by kernel_rfl) rfl #[.agg #[.int .i64 ((rd_T165 l0 x19_1).f1.f0), .int .i64 ((rd_T165 l0 x19_1).f1.f1)]] (by rfl) rfl rfl (by rfl) mz ?_
        with_reducible refine (L_pairsErr_1.calls ((rd_T165 l0 x19_1).f1.f0) ((rd_T165 l0 x19_1).f1.f1) t1165 _ A13.out).mono ?_
        rintro e w23 ⟨rfl, hb⟩
        refine ⟨_, rfl, ?_⟩
        replace BK1163 := bb BK1163 hb; replace HB := sb HB hb
        (try clear hb)
        refine hK.out _ _ cz (fun hH => ?_)
        clear hK K
        refine norm_ (a' := ?_) ?_ ?_
        rotate_left
        ·show Act.put _ (some 32) _ = _
         exact pz
        refine pZ 10 (some 33) (bs 32 522239) HT_ ?_
        refine oneZ 11 (some 34) (bs 32 524287) (one_of HT_.out (by kernel_rfl)) fun K hK => ?_
        refine gz Try.func76 #[.bool t1165, .int .i64 2] ?_
        with_reducible refine (L_unless.calls t1165 2 t1166 _ A14.out).mono ?_
        rintro e w' ⟨rfl, ⟨nd, rfl⟩⟩
        refine ⟨_, rfl, ?_⟩
        refine hK.out _ _ cz (fun hH => ?_)
        clear hK K
        refine norm_ (a' := ?_) ?_ ?_
        rotate_left
        ·show Act.put _ (some 34) _ = _
         exact pz
        refine pZ 19 (some 42) (bs 32 1048575) HT_ ?_
        refine pZ 20 (some 43) (bs 32 2097151) HT_ ?_
        refine pZ 21 (some 44) (bs 32 4194303) HT_ ?_
        refine pZ 23 (some 46) (bs 32 12582911) HT_ ?_
        refine pZ 24 (some 47) (bs 32 29360127) HT_ ?_
        refine takeZ 22 (some 45) (bs 32 33554431) (take_ofW HT_.out HW_.out (by kernel_rfl)) hH ?_
        refine takeZ 25 (some 48) (bs 32 67108863) (take_ofW HT_.out HW_.out (by kernel_rfl)) hH ?_
        refine pZ 26 (some 49) (bs 32 134217727) HT_ ?_
        refine pZ 27 (some 50) (bs 32 268435455) HT_ ?_
        refine oneZ 28 (some 51) (bs 32 536870911) (one_of HT_.out (by kernel_rfl)) fun K hK => ?_
        refine gz Try.func76 #[.bool (decide (((rd_T165 l0 x19_1).f1.f0) ≤ ((rd_T165 l0 x19_1).f1.f1))), .int .i64 9] ?_
        with_reducible refine (L_unless.calls (decide (((rd_T165 l0 x19_1).f1.f0) ≤ ((rd_T165 l0 x19_1).f1.f1))) 9 t1167 _ A16.out).mono ?_
        rintro e w' ⟨rfl, ⟨nd, rfl⟩⟩
        refine ⟨_, rfl, ?_⟩
        refine hK.out _ _ cz (fun hH => ?_)
        clear hK K
        refine norm_ (a' := ?_) ?_ ?_
        rotate_left
        ·show Act.put _ (some 51) _ = _
         exact pz
        refine oneZ 29 (some 52) (bs 32 1073741823) (one_of HT_.out (by kernel_rfl)) fun K hK => ?_
        refine Kd.R_lit_step (Kd.int .i64) _ 24 ?hg (N := 52) ?hd (xs := ([x3_1, t1166, t1167] : List Int)) (inner := [.int .i64 x3_1, .int .i64 t1166, .int .i64 t1167]) (ok := fun _ => True) (okp := fun _ => True) ?hr ?hp (fun _ hk => hk) trivial (Below.refl _ _) (Nat.le_refl _) (by simp) ?_; (case hd => rfl); (case hg => rfl); (case hr => first | (go_simp; done) | (go_simp; rfl)); (case hp => exact (Reps.one (show Kd.M (Kd.int .i64) _ _ _ x3_1 [.int .i64 x3_1] from rfl) (Reps.one (show Kd.M (Kd.int .i64) _ _ _ t1166 [.int .i64 t1166] from rfl) (Reps.one (show Kd.M (Kd.int .i64) _ _ _ t1167 [.int .i64 t1167] from rfl) (Reps.none _ _)))))
        intro v1169 w24 ho25 hb hg_ hnew_
        clear hg_ hnew_
        (first | rw [← Ny1168.out] at ho25 | (simp only [Int.reduceToNat] at ho25; rw [← Ny1168.out] at ho25))
        have HO1170 := m0 (Kd.R_lower ho25 (below_size bz)); replace BK1163 := bb BK1163 hb; replace HB := sb HB hb
        clear hb ho25
        obtain ⟨Ao26, co26, eo26⟩ := Kd.R_slice HO1170.out
        subst eo26
        refine hK.out _ _ cz (fun hH => ?_)
        clear hK K
        refine norm_ (a' := ?_) ?_ ?_
        rotate_left
        ·show Act.put _ (some 52) _ = _
         exact pz
        refine oneZ 30 (some 53) (bs 32 2147483647) (one_of HT_.out (by kernel_rfl)) fun K hK => ?_
        refine gz Try.func75 #[.slice Ao26 y1168.length co26] ?_
        with_reducible refine (L_first.calls k1 _ _ y1168 t1171 _ ?side1 ?side2 A17.out).mono ?_
        (case side1 => exact bc (Kd.R_reads' HO1170.out).2.2)
        (case side2 => exact (Kd.R_reads' HO1170.out).2.1)
        rintro e w' ⟨rfl, ⟨nd, rfl⟩⟩
        refine ⟨_, rfl, ?_⟩
        refine hK.out _ _ cz (fun hH => ?_)
        clear hK K
        refine norm_ (a' := ?_) ?_ ?_
        rotate_left
        ·show Act.put _ (some 53) _ = _
         exact pz
        refine pZ 31 (some 3) (bs 32 4294967295) HT_ ?_
        refine done_ (done_of HT_.out (by kernel_rfl)) ?_
        try go_wp2
        go_roundg k1
        case measure => have := HK1.out; omega
        case rel => exact ⟨(t1171), (wrap64 (x19_1 + 1)), (by first | rfl | (simp; done) | (simp [*]; done)), (by first | rfl | (simp; done) | (simp [*]; done)), H', ⟨by have := HK1.out; omega⟩, ⟨bz⟩⟩
       ·rw [if_neg c15] at H
        have c15b0 := decide_eq_false c15
        clear c15
        replace H := ob H
        obtain ⟨t1172, A27, H⟩ := H
        (try dsimp only at H)
        replace A27 := m0 A27
        obtain ⟨y1173, hy1173⟩ : ∃ y_ : List Int, y_ = (([x3_1, t1166, t1172] : List Int)) := ⟨_, rfl⟩
        replace H : ((L_first.f k1 y1173).bind fun t1176 => (L_pairsErr.l0 k1 t1176 l0 (l0.length : Int) (wrap64 (x19_1 + 1)))) = some r := by first | (rw [hy1173]; with_reducible exact H) | (have H2_ := (Option.bind_some _ _).symm.trans H; rw [hy1173]; with_reducible exact H2_) | (have H2_ := (Option.bind_some _ _).symm.trans H; with_reducible exact H2_) | with_reducible exact H | (rw [hy1173]; exact H) | exact H
        have Ny1173 := m0 hy1173
        clear hy1173
        replace H := ob H
        obtain ⟨t1176, A28, H⟩ := H
        (try dsimp only at H)
        replace A28 := m0 A28
        have H' := m0 H
        clear H
        have p1162 : 0 ≤ (x19_1 : Int) := od
        have q1162 : x19_1 < (l0.length : Int) := od
        obtain ⟨ad1162, e1162, hx1162_0, hx1162_1, hx1162_2, hx1162_3⟩ := at_T165 HR0.out x19_1 p1162 q1162
        cases e1162
        replace hx1162_0 := (HB.out.cell (World.block_lt_of_cell? w _ hx1162_0)).trans hx1162_0
        replace hx1162_1 := (HB.out.cell (World.block_lt_of_cell? w _ hx1162_1)).trans hx1162_1
        replace hx1162_2 := (HB.out.cell (World.block_lt_of_cell? w _ hx1162_2)).trans hx1162_2
        replace hx1162_3 := (HB.out.cell (World.block_lt_of_cell? w _ hx1162_3)).trans hx1162_3
        replace p1162 := eq_true p1162
        replace q1162 := eq_true q1162
        try go_wp2_with (first | ((with_reducible refine gate_dst (N := 6) rfl ?_); refine be 6 165 #[.int .i64 0, .int .i64 0, .int .i64 0, .int .i64 0] ?_; intro gb1163 hg w29 hbox hb; have BK1163 := m0 hbox; have GE1163 := gw w hg; replace HB := sb HB hb; clear hb hbox hg; obtain ⟨_, _, _, _, _, _, _, _⟩ := b4 BK1163))
        replace BK1163 : Aside0 (((((w29.setCell ⟨gb1163, 0, none⟩ (.int .i64 ((rd_T165 l0 x19_1).f0.f0))).setCell ⟨gb1163, 1, none⟩ (.int .i64 ((rd_T165 l0 x19_1).f0.f1))).setCell ⟨gb1163, 2, none⟩ (.int .i64 ((rd_T165 l0 x19_1).f1.f0))).setCell ⟨gb1163, 3, none⟩ (.int .i64 ((rd_T165 l0 x19_1).f1.f1))).heap[gb1163]? = some (.cells #[.int .i64 ((rd_T165 l0 x19_1).f0.f0), .int .i64 ((rd_T165 l0 x19_1).f0.f1), .int .i64 ((rd_T165 l0 x19_1).f1.f0), .int .i64 ((rd_T165 l0 x19_1).f1.f1)] 165 (0, 0))) := ⟨bq BK1163.out⟩
        replace HB : Aside0 (Below w.heap.size w ((((w29.setCell ⟨gb1163, 0, none⟩ (.int .i64 ((rd_T165 l0 x19_1).f0.f0))).setCell ⟨gb1163, 1, none⟩ (.int .i64 ((rd_T165 l0 x19_1).f0.f1))).setCell ⟨gb1163, 2, none⟩ (.int .i64 ((rd_T165 l0 x19_1).f1.f0))).setCell ⟨gb1163, 3, none⟩ (.int .i64 ((rd_T165 l0 x19_1).f1.f1)))) := ⟨bz⟩
        generalize ((((w29.setCell ⟨gb1163, 0, none⟩ (.int .i64 ((rd_T165 l0 x19_1).f0.f0))).setCell ⟨gb1163, 1, none⟩ (.int .i64 ((rd_T165 l0 x19_1).f0.f1))).setCell ⟨gb1163, 2, none⟩ (.int .i64 ((rd_T165 l0 x19_1).f1.f0))).setCell ⟨gb1163, 3, none⟩ (.int .i64 ((rd_T165 l0 x19_1).f1.f1))) = w31 at BK1163 HB ⊢
        replace BK1163 := bd BK1163; replace HB := sd HB
        refine start_ (n := 32) (S := fun w' => w'.cell? ⟨gb1163, 0, none⟩ = some (.int .i64 ((rd_T165 l0 x19_1).f0.f0)) ∧ w'.cell? ⟨gb1163, 1, none⟩ = some (.int .i64 ((rd_T165 l0 x19_1).f0.f1)) ∧ w'.cell? ⟨gb1163, 2, none⟩ = some (.int .i64 ((rd_T165 l0 x19_1).f1.f0)) ∧ w'.cell? ⟨gb1163, 3, none⟩ = some (.int .i64 ((rd_T165 l0 x19_1).f1.f1))) (ds := []) #[false, false, false, false, false, false, false, false, false, false, false, false, false, false, false, false, false, false, false, false, false, false, false, false, false, false, false, false, false, false, false, false] (by kernel_rfl) rfl rfl cz (fun hH => ?_); refine with_tabW L_pairsErr.tab6 L_pairsErr.bits6 (fun HT_ HW_ => ?_)
        generalize w31.drew = w32 at BK1163 HB hH ⊢
        refine pZ 0 (some 23) (bs 32 1) HT_ ?_
        refine pZ 1 (some 24) (bs 32 3) HT_ ?_
        refine pZ 2 (some 25) (bs 32 7) HT_ ?_
        refine pZ 12 (some 35) (bs 32 4103) HT_ ?_
        refine pZ 13 (some 36) (bs 32 12295) HT_ ?_
        refine pZ 15 (some 38) (bs 32 45063) HT_ ?_
        refine pZ 16 (some 39) (bs 32 110599) HT_ ?_
        refine takeZ 3 (some 26) (bs 32 110607) (take_ofW HT_.out HW_.out (by kernel_rfl)) hH ?_
        refine takeZ 14 (some 37) (bs 32 126991) (take_ofW HT_.out HW_.out (by kernel_rfl)) hH ?_
        refine takeZ 17 (some 40) (bs 32 258063) (take_ofW HT_.out HW_.out (by kernel_rfl)) hH ?_
        refine pZ 18 (some 41) (bs 32 520207) HT_ ?_
        refine oneZ 4 (some 27) (bs 32 520223) (one_of HT_.out (by kernel_rfl)) fun K hK => ?_
        refine goesV_ 24 Try.func140 (by kernel_rfl) rfl #[.agg #[.int .i64 ((rd_T165 l0 x19_1).f0.f0), .int .i64 ((rd_T165 l0 x19_1).f0.f1)]] (by rfl) rfl rfl (by rfl) mz ?_
        with_reducible refine (L_pairsErr_1.calls ((rd_T165 l0 x19_1).f0.f0) ((rd_T165 l0 x19_1).f0.f1) true _ A11.out).mono ?_
        rintro e w33 ⟨rfl, hb⟩
        refine ⟨_, rfl, ?_⟩
        replace BK1163 := bb BK1163 hb; replace HB := sb HB hb
        (try clear hb)
        refine hK.out _ _ cz (fun hH => ?_)
        clear hK K
        refine norm_ (a' := ?_) ?_ ?_
        rotate_left
        ·show Act.put _ (some 27) _ = _
         exact pz
        refine pZ 5 (some 28) (bs 32 520255) HT_ ?_
        refine pZ 6 (some 29) (bs 32 520319) HT_ ?_
        refine pZ 7 (some 30) (bs 32 520447) HT_ ?_
        refine takeZ 8 (some 31) (bs 32 520703) (take_ofW HT_.out HW_.out (by kernel_rfl)) hH ?_
        refine oneZ 9 (some 32) (bs 32 521215) (one_of HT_.out (by kernel_rfl)) fun K hK => ?_
        refine goesV_ 29 Try.func140 (by kernel_rfl) rfl #[.agg #[.int .i64 ((rd_T165 l0 x19_1).f1.f0), .int .i64 ((rd_T165 l0 x19_1).f1.f1)]] (by rfl) rfl rfl (by rfl) mz ?_
        with_reducible refine (L_pairsErr_1.calls ((rd_T165 l0 x19_1).f1.f0) ((rd_T165 l0 x19_1).f1.f1) t1165 _ A13.out).mono ?_
        rintro e w34 ⟨rfl, hb⟩
        refine ⟨_, rfl, ?_⟩
        replace BK1163 := bb BK1163 hb; replace HB := sb HB hb
        (try clear hb)
        refine hK.out _ _ cz (fun hH => ?_)
        clear hK K
        refine norm_ (a' := ?_) ?_ ?_
        rotate_left
        ·show Act.put _ (some 32) _ = _
         exact pz
        refine pZ 10 (some 33) (bs 32 522239) HT_ ?_
        refine oneZ 11 (some 34) (bs 32 524287) (one_of HT_.out (by kernel_rfl)) fun K hK => ?_
        refine gz Try.func76 #[.bool t1165, .int .i64 2] ?_
        with_reducible refine (L_unless.calls t1165 2 t1166 _ A14.out).mono ?_
        rintro e w' ⟨rfl, ⟨nd, rfl⟩⟩
        refine ⟨_, rfl, ?_⟩
        refine hK.out _ _ cz (fun hH => ?_)
        clear hK K
        refine norm_ (a' := ?_) ?_ ?_
        rotate_left
        ·show Act.put _ (some 34) _ = _
         exact pz
        refine pZ 19 (some 42) (bs 32 1048575) HT_ ?_
        refine pure_ (i := 20) (N := some 43) (v := undef) (a' := ?_) (bs 32 2097151) rfl rfl (any_of HT_.out (by kernel_rfl)) (fun _ _ _ h => h) (Or.inr ⟨by rfl, rfl⟩) ?_ ?_
        rotate_left
        ·exact pz
        refine pure_ (i := 21) (N := some 44) (v := undef) (a' := ?_) (bs 32 4194303) rfl rfl (any_of HT_.out (by kernel_rfl)) (fun _ _ _ h => h) (Or.inr ⟨by rfl, rfl⟩) ?_ ?_
        rotate_left
        ·exact pz
        refine pure_ (i := 22) (N := some 45) (v := undef) (a' := ?_) (bs 32 8388607) rfl rfl (any_of HT_.out (by kernel_rfl)) (fun _ _ _ h => h) (Or.inr ⟨by rfl, rfl⟩) ?_ ?_
        rotate_left
        ·exact pz
        refine pure_ (i := 23) (N := some 46) (v := undef) (a' := ?_) (bs 32 16777215) rfl rfl (any_of HT_.out (by kernel_rfl)) (fun _ _ _ h => h) (Or.inr ⟨by rfl, rfl⟩) ?_ ?_
        rotate_left
        ·exact pz
        refine pure_ (i := 24) (N := some 47) (v := undef) (a' := ?_) (bs 32 33554431) rfl rfl (any_of HT_.out (by kernel_rfl)) (fun _ _ _ h => h) (Or.inr ⟨by rfl, rfl⟩) ?_ ?_
        rotate_left
        ·exact pz
        refine pure_ (i := 25) (N := some 48) (v := undef) (a' := ?_) (bs 32 67108863) rfl rfl (any_of HT_.out (by kernel_rfl)) (fun _ _ _ h => h) (Or.inr ⟨by rfl, rfl⟩) ?_ ?_
        rotate_left
        ·exact pz
        refine pure_ (i := 26) (N := some 49) (v := undef) (a' := ?_) (bs 32 134217727) rfl rfl (any_of HT_.out (by kernel_rfl)) (fun _ _ _ h => h) (Or.inr ⟨by rfl, rfl⟩) ?_ ?_
        rotate_left
        ·exact pz
        refine pZ 27 (some 50) (bs 32 268435455) HT_ ?_
        refine oneZ 28 (some 51) (bs 32 536870911) (one_of HT_.out (by kernel_rfl)) fun K hK => ?_
        refine gz Try.func76 #[.bool false, .int .i64 9] ?_
        with_reducible refine (L_unless.calls false 9 t1172 _ A27.out).mono ?_
        rintro e w' ⟨rfl, ⟨nd, rfl⟩⟩
        refine ⟨_, rfl, ?_⟩
        refine hK.out _ _ cz (fun hH => ?_)
        clear hK K
        refine norm_ (a' := ?_) ?_ ?_
        rotate_left
        ·show Act.put _ (some 51) _ = _
         exact pz
        refine oneZ 29 (some 52) (bs 32 1073741823) (one_of HT_.out (by kernel_rfl)) fun K hK => ?_
        refine Kd.R_lit_step (Kd.int .i64) _ 24 ?hg (N := 52) ?hd (xs := ([x3_1, t1166, t1172] : List Int)) (inner := [.int .i64 x3_1, .int .i64 t1166, .int .i64 t1172]) (ok := fun _ => True) (okp := fun _ => True) ?hr ?hp (fun _ hk => hk) trivial (Below.refl _ _) (Nat.le_refl _) (by simp) ?_; (case hd => rfl); (case hg => rfl); (case hr => first | (go_simp; done) | (go_simp; rfl)); (case hp => exact (Reps.one (show Kd.M (Kd.int .i64) _ _ _ x3_1 [.int .i64 x3_1] from rfl) (Reps.one (show Kd.M (Kd.int .i64) _ _ _ t1166 [.int .i64 t1166] from rfl) (Reps.one (show Kd.M (Kd.int .i64) _ _ _ t1172 [.int .i64 t1172] from rfl) (Reps.none _ _)))))
        intro v1174 w35 ho36 hb hg_ hnew_
        clear hg_ hnew_
        (first | rw [← Ny1173.out] at ho36 | (simp only [Int.reduceToNat] at ho36; rw [← Ny1173.out] at ho36))
        have HO1175 := m0 (Kd.R_lower ho36 (below_size bz)); replace BK1163 := bb BK1163 hb; replace HB := sb HB hb
        clear hb ho36
        obtain ⟨Ao37, co37, eo37⟩ := Kd.R_slice HO1175.out
        subst eo37
        refine hK.out _ _ cz (fun hH => ?_)
        clear hK K
        refine norm_ (a' := ?_) ?_ ?_
        rotate_left
        ·show Act.put _ (some 52) _ = _
         exact pz
        refine oneZ 30 (some 53) (bs 32 2147483647) (one_of HT_.out (by kernel_rfl)) fun K hK => ?_
        refine gz Try.func75 #[.slice Ao37 y1173.length co37] ?_
        with_reducible refine (L_first.calls k1 _ _ y1173 t1176 _ ?side1 ?side2 A28.out).mono ?_
        (case side1 => exact bc (Kd.R_reads' HO1175.out).2.2)
        (case side2 => exact (Kd.R_reads' HO1175.out).2.1)
        rintro e w' ⟨rfl, ⟨nd, rfl⟩⟩
        refine ⟨_, rfl, ?_⟩
        refine hK.out _ _ cz (fun hH => ?_)
        clear hK K
        refine norm_ (a' := ?_) ?_ ?_
        rotate_left
        ·show Act.put _ (some 53) _ = _
         exact pz
        refine pZ 31 (some 3) (bs 32 4294967295) HT_ ?_
        refine done_ (done_of HT_.out (by kernel_rfl)) ?_
        try go_wp2
        go_roundg k1
        case measure => have := HK1.out; omega
        case rel => exact ⟨(t1176), (wrap64 (x19_1 + 1)), (by first | rfl | (simp; done) | (simp [*]; done)), (by first | rfl | (simp; done) | (simp [*]; done)), H', ⟨by have := HK1.out; omega⟩, ⟨bz⟩⟩
      ·replace c12 := Bool.eq_false_iff.mpr c12
       subst c12
       rw [if_neg (show ¬ (false = true) by decide)] at H
       replace H := ob H
       obtain ⟨t1177, A38, H⟩ := H
       (try dsimp only at H)
       replace A38 := m0 A38
       by_cases c39 : ((rd_T165 l0 x19_1).f0.f0) ≤ ((rd_T165 l0 x19_1).f0.f1)
       ·rw [if_pos c39] at H
        have c39b0 := decide_eq_true c39
        clear c39
        replace H := ob H
        obtain ⟨t1178, A40, H⟩ := H
        (try dsimp only at H)
        replace A40 := m0 A40
        obtain ⟨y1179, hy1179⟩ : ∃ y_ : List Int, y_ = (([x3_1, t1177, t1178] : List Int)) := ⟨_, rfl⟩
        replace H : ((L_first.f k1 y1179).bind fun t1182 => (L_pairsErr.l0 k1 t1182 l0 (l0.length : Int) (wrap64 (x19_1 + 1)))) = some r := by first | (rw [hy1179]; with_reducible exact H) | (have H2_ := (Option.bind_some _ _).symm.trans H; rw [hy1179]; with_reducible exact H2_) | (have H2_ := (Option.bind_some _ _).symm.trans H; with_reducible exact H2_) | with_reducible exact H | (rw [hy1179]; exact H) | exact H
        have Ny1179 := m0 hy1179
        clear hy1179
        replace H := ob H
        obtain ⟨t1182, A41, H⟩ := H
        (try dsimp only at H)
        replace A41 := m0 A41
        have H' := m0 H
        clear H
        have p1162 : 0 ≤ (x19_1 : Int) := od
        have q1162 : x19_1 < (l0.length : Int) := od
        obtain ⟨ad1162, e1162, hx1162_0, hx1162_1, hx1162_2, hx1162_3⟩ := at_T165 HR0.out x19_1 p1162 q1162
        cases e1162
        replace hx1162_0 := (HB.out.cell (World.block_lt_of_cell? w _ hx1162_0)).trans hx1162_0
        replace hx1162_1 := (HB.out.cell (World.block_lt_of_cell? w _ hx1162_1)).trans hx1162_1
        replace hx1162_2 := (HB.out.cell (World.block_lt_of_cell? w _ hx1162_2)).trans hx1162_2
        replace hx1162_3 := (HB.out.cell (World.block_lt_of_cell? w _ hx1162_3)).trans hx1162_3
        replace p1162 := eq_true p1162
        replace q1162 := eq_true q1162
        try go_wp2_with (first | ((with_reducible refine gate_dst (N := 6) rfl ?_); refine be 6 165 #[.int .i64 0, .int .i64 0, .int .i64 0, .int .i64 0] ?_; intro gb1163 hg w42 hbox hb; have BK1163 := m0 hbox; have GE1163 := gw w hg; replace HB := sb HB hb; clear hb hbox hg; obtain ⟨_, _, _, _, _, _, _, _⟩ := b4 BK1163))
        replace BK1163 : Aside0 (((((w42.setCell ⟨gb1163, 0, none⟩ (.int .i64 ((rd_T165 l0 x19_1).f0.f0))).setCell ⟨gb1163, 1, none⟩ (.int .i64 ((rd_T165 l0 x19_1).f0.f1))).setCell ⟨gb1163, 2, none⟩ (.int .i64 ((rd_T165 l0 x19_1).f1.f0))).setCell ⟨gb1163, 3, none⟩ (.int .i64 ((rd_T165 l0 x19_1).f1.f1))).heap[gb1163]? = some (.cells #[.int .i64 ((rd_T165 l0 x19_1).f0.f0), .int .i64 ((rd_T165 l0 x19_1).f0.f1), .int .i64 ((rd_T165 l0 x19_1).f1.f0), .int .i64 ((rd_T165 l0 x19_1).f1.f1)] 165 (0, 0))) := ⟨bq BK1163.out⟩
        replace HB : Aside0 (Below w.heap.size w ((((w42.setCell ⟨gb1163, 0, none⟩ (.int .i64 ((rd_T165 l0 x19_1).f0.f0))).setCell ⟨gb1163, 1, none⟩ (.int .i64 ((rd_T165 l0 x19_1).f0.f1))).setCell ⟨gb1163, 2, none⟩ (.int .i64 ((rd_T165 l0 x19_1).f1.f0))).setCell ⟨gb1163, 3, none⟩ (.int .i64 ((rd_T165 l0 x19_1).f1.f1)))) := ⟨bz⟩
        generalize ((((w42.setCell ⟨gb1163, 0, none⟩ (.int .i64 ((rd_T165 l0 x19_1).f0.f0))).setCell ⟨gb1163, 1, none⟩ (.int .i64 ((rd_T165 l0 x19_1).f0.f1))).setCell ⟨gb1163, 2, none⟩ (.int .i64 ((rd_T165 l0 x19_1).f1.f0))).setCell ⟨gb1163, 3, none⟩ (.int .i64 ((rd_T165 l0 x19_1).f1.f1))) = w44 at BK1163 HB ⊢
        replace BK1163 := bd BK1163; replace HB := sd HB
        refine start_ (n := 32) (S := fun w' => w'.cell? ⟨gb1163, 0, none⟩ = some (.int .i64 ((rd_T165 l0 x19_1).f0.f0)) ∧ w'.cell? ⟨gb1163, 1, none⟩ = some (.int .i64 ((rd_T165 l0 x19_1).f0.f1)) ∧ w'.cell? ⟨gb1163, 2, none⟩ = some (.int .i64 ((rd_T165 l0 x19_1).f1.f0)) ∧ w'.cell? ⟨gb1163, 3, none⟩ = some (.int .i64 ((rd_T165 l0 x19_1).f1.f1))) (ds := []) #[false, false, false, false, false, false, false, false, false, false, false, false, false, false, false, false, false, false, false, false, false, false, false, false, false, false, false, false, false, false, false, false] (by kernel_rfl) rfl rfl cz (fun hH => ?_); refine with_tabW L_pairsErr.tab6 L_pairsErr.bits6 (fun HT_ HW_ => ?_)
        generalize w44.drew = w45 at BK1163 HB hH ⊢
        refine pZ 0 (some 23) (bs 32 1) HT_ ?_
        refine pZ 1 (some 24) (bs 32 3) HT_ ?_
        refine pZ 2 (some 25) (bs 32 7) HT_ ?_
        refine pZ 12 (some 35) (bs 32 4103) HT_ ?_
        refine pZ 13 (some 36) (bs 32 12295) HT_ ?_
        refine pZ 15 (some 38) (bs 32 45063) HT_ ?_
        refine pZ 16 (some 39) (bs 32 110599) HT_ ?_
        refine takeZ 3 (some 26) (bs 32 110607) (take_ofW HT_.out HW_.out (by kernel_rfl)) hH ?_
        refine takeZ 14 (some 37) (bs 32 126991) (take_ofW HT_.out HW_.out (by kernel_rfl)) hH ?_
        refine takeZ 17 (some 40) (bs 32 258063) (take_ofW HT_.out HW_.out (by kernel_rfl)) hH ?_
        refine pZ 18 (some 41) (bs 32 520207) HT_ ?_
        refine oneZ 4 (some 27) (bs 32 520223) (one_of HT_.out (by kernel_rfl)) fun K hK => ?_
        refine goesV_ 24 Try.func140 (by kernel_rfl) rfl #[.agg #[.int .i64 ((rd_T165 l0 x19_1).f0.f0), .int .i64 ((rd_T165 l0 x19_1).f0.f1)]] (by rfl) rfl rfl (by rfl) mz ?_
        with_reducible refine (L_pairsErr_1.calls ((rd_T165 l0 x19_1).f0.f0) ((rd_T165 l0 x19_1).f0.f1) false _ A11.out).mono ?_
        rintro e w46 ⟨rfl, hb⟩
        refine ⟨_, rfl, ?_⟩
        replace BK1163 := bb BK1163 hb; replace HB := sb HB hb
        (try clear hb)
        refine hK.out _ _ cz (fun hH => ?_)
        clear hK K
        refine norm_ (a' := ?_) ?_ ?_
        rotate_left
        ·show Act.put _ (some 27) _ = _
         exact pz
        refine pZ 5 (some 28) (bs 32 520255) HT_ ?_
        refine pure_ (i := 6) (N := some 29) (v := undef) (a' := ?_) (bs 32 520319) rfl rfl (any_of HT_.out (by kernel_rfl)) (fun _ _ _ h => h) (Or.inr ⟨by rfl, rfl⟩) ?_ ?_
        rotate_left
        ·exact pz
        refine pure_ (i := 7) (N := some 30) (v := undef) (a' := ?_) (bs 32 520447) rfl rfl (any_of HT_.out (by kernel_rfl)) (fun _ _ _ h => h) (Or.inr ⟨by rfl, rfl⟩) ?_ ?_
        rotate_left
        ·exact pz
        refine pure_ (i := 8) (N := some 31) (v := undef) (a' := ?_) (bs 32 520703) rfl rfl (any_of HT_.out (by kernel_rfl)) (fun _ _ _ h => h) (Or.inr ⟨by rfl, rfl⟩) ?_ ?_
        rotate_left
        ·exact pz
        refine pure_ (i := 9) (N := some 32) (v := undef) (a' := ?_) (bs 32 521215) rfl rfl (any_of HT_.out (by kernel_rfl)) (fun _ _ _ h => h) (Or.inr ⟨by rfl, rfl⟩) ?_ ?_
        rotate_left
        ·exact pz
        refine pZ 10 (some 33) (bs 32 522239) HT_ ?_
        refine oneZ 11 (some 34) (bs 32 524287) (one_of HT_.out (by kernel_rfl)) fun K hK => ?_
        refine gz Try.func76 #[.bool false, .int .i64 2] ?_
        with_reducible refine (L_unless.calls false 2 t1177 _ A38.out).mono ?_
        rintro e w' ⟨rfl, ⟨nd, rfl⟩⟩
        refine ⟨_, rfl, ?_⟩
        refine hK.out _ _ cz (fun hH => ?_)
        clear hK K
        refine norm_ (a' := ?_) ?_ ?_
        rotate_left
        ·show Act.put _ (some 34) _ = _
         exact pz
        refine pZ 19 (some 42) (bs 32 1048575) HT_ ?_
        refine pZ 20 (some 43) (bs 32 2097151) HT_ ?_
        refine pZ 21 (some 44) (bs 32 4194303) HT_ ?_
        refine pZ 23 (some 46) (bs 32 12582911) HT_ ?_
        refine pZ 24 (some 47) (bs 32 29360127) HT_ ?_
        refine takeZ 22 (some 45) (bs 32 33554431) (take_ofW HT_.out HW_.out (by kernel_rfl)) hH ?_
        refine takeZ 25 (some 48) (bs 32 67108863) (take_ofW HT_.out HW_.out (by kernel_rfl)) hH ?_
        refine pZ 26 (some 49) (bs 32 134217727) HT_ ?_
        refine pZ 27 (some 50) (bs 32 268435455) HT_ ?_
        refine oneZ 28 (some 51) (bs 32 536870911) (one_of HT_.out (by kernel_rfl)) fun K hK => ?_
        refine gz Try.func76 #[.bool (decide (((rd_T165 l0 x19_1).f1.f0) ≤ ((rd_T165 l0 x19_1).f1.f1))), .int .i64 9] ?_
        with_reducible refine (L_unless.calls (decide (((rd_T165 l0 x19_1).f1.f0) ≤ ((rd_T165 l0 x19_1).f1.f1))) 9 t1178 _ A40.out).mono ?_
        rintro e w' ⟨rfl, ⟨nd, rfl⟩⟩
        refine ⟨_, rfl, ?_⟩
        refine hK.out _ _ cz (fun hH => ?_)
        clear hK K
        refine norm_ (a' := ?_) ?_ ?_
        rotate_left
        ·show Act.put _ (some 51) _ = _
         exact pz
        refine oneZ 29 (some 52) (bs 32 1073741823) (one_of HT_.out (by kernel_rfl)) fun K hK => ?_
        refine Kd.R_lit_step (Kd.int .i64) _ 24 ?hg (N := 52) ?hd (xs := ([x3_1, t1177, t1178] : List Int)) (inner := [.int .i64 x3_1, .int .i64 t1177, .int .i64 t1178]) (ok := fun _ => True) (okp := fun _ => True) ?hr ?hp (fun _ hk => hk) trivial (Below.refl _ _) (Nat.le_refl _) (by simp) ?_; (case hd => rfl); (case hg => rfl); (case hr => first | (go_simp; done) | (go_simp; rfl)); (case hp => exact (Reps.one (show Kd.M (Kd.int .i64) _ _ _ x3_1 [.int .i64 x3_1] from rfl) (Reps.one (show Kd.M (Kd.int .i64) _ _ _ t1177 [.int .i64 t1177] from rfl) (Reps.one (show Kd.M (Kd.int .i64) _ _ _ t1178 [.int .i64 t1178] from rfl) (Reps.none _ _)))))
        intro v1180 w47 ho48 hb hg_ hnew_
        clear hg_ hnew_
        (first | rw [← Ny1179.out] at ho48 | (simp only [Int.reduceToNat] at ho48; rw [← Ny1179.out] at ho48))
        have HO1181 := m0 (Kd.R_lower ho48 (below_size bz)); replace BK1163 := bb BK1163 hb; replace HB := sb HB hb
        clear hb ho48
        obtain ⟨Ao49, co49, eo49⟩ := Kd.R_slice HO1181.out
        subst eo49
        refine hK.out _ _ cz (fun hH => ?_)
        clear hK K
        refine norm_ (a' := ?_) ?_ ?_
        rotate_left
        ·show Act.put _ (some 52) _ = _
         exact pz
        refine oneZ 30 (some 53) (bs 32 2147483647) (one_of HT_.out (by kernel_rfl)) fun K hK => ?_
        refine gz Try.func75 #[.slice Ao49 y1179.length co49] ?_
        with_reducible refine (L_first.calls k1 _ _ y1179 t1182 _ ?side1 ?side2 A41.out).mono ?_
        (case side1 => exact bc (Kd.R_reads' HO1181.out).2.2)
        (case side2 => exact (Kd.R_reads' HO1181.out).2.1)
        rintro e w' ⟨rfl, ⟨nd, rfl⟩⟩
        refine ⟨_, rfl, ?_⟩
        refine hK.out _ _ cz (fun hH => ?_)
        clear hK K
        refine norm_ (a' := ?_) ?_ ?_
        rotate_left
        ·show Act.put _ (some 53) _ = _
         exact pz
        refine pZ 31 (some 3) (bs 32 4294967295) HT_ ?_
        refine done_ (done_of HT_.out (by kernel_rfl)) ?_
        try go_wp2
        go_roundg k1
        case measure => have := HK1.out; omega
        case rel => exact ⟨(t1182), (wrap64 (x19_1 + 1)), (by first | rfl | (simp; done) | (simp [*]; done)), (by first | rfl | (simp; done) | (simp [*]; done)), H', ⟨by have := HK1.out; omega⟩, ⟨bz⟩⟩
       ·rw [if_neg c39] at H
        have c39b0 := decide_eq_false c39
        clear c39
        replace H := ob H
        obtain ⟨t1183, A50, H⟩ := H
        (try dsimp only at H)
        replace A50 := m0 A50
        obtain ⟨y1184, hy1184⟩ : ∃ y_ : List Int, y_ = (([x3_1, t1177, t1183] : List Int)) := ⟨_, rfl⟩
        replace H : ((L_first.f k1 y1184).bind fun t1187 => (L_pairsErr.l0 k1 t1187 l0 (l0.length : Int) (wrap64 (x19_1 + 1)))) = some r := by first | (rw [hy1184]; with_reducible exact H) | (have H2_ := (Option.bind_some _ _).symm.trans H; rw [hy1184]; with_reducible exact H2_) | (have H2_ := (Option.bind_some _ _).symm.trans H; with_reducible exact H2_) | with_reducible exact H | (rw [hy1184]; exact H) | exact H
        have Ny1184 := m0 hy1184
        clear hy1184
        replace H := ob H
        obtain ⟨t1187, A51, H⟩ := H
        (try dsimp only at H)
        replace A51 := m0 A51
        have H' := m0 H
        clear H
        have p1162 : 0 ≤ (x19_1 : Int) := od
        have q1162 : x19_1 < (l0.length : Int) := od
        obtain ⟨ad1162, e1162, hx1162_0, hx1162_1, hx1162_2, hx1162_3⟩ := at_T165 HR0.out x19_1 p1162 q1162
        cases e1162
        replace hx1162_0 := (HB.out.cell (World.block_lt_of_cell? w _ hx1162_0)).trans hx1162_0
        replace hx1162_1 := (HB.out.cell (World.block_lt_of_cell? w _ hx1162_1)).trans hx1162_1
        replace hx1162_2 := (HB.out.cell (World.block_lt_of_cell? w _ hx1162_2)).trans hx1162_2
        replace hx1162_3 := (HB.out.cell (World.block_lt_of_cell? w _ hx1162_3)).trans hx1162_3
        replace p1162 := eq_true p1162
        replace q1162 := eq_true q1162
        try go_wp2_with (first | ((with_reducible refine gate_dst (N := 6) rfl ?_); refine be 6 165 #[.int .i64 0, .int .i64 0, .int .i64 0, .int .i64 0] ?_; intro gb1163 hg w52 hbox hb; have BK1163 := m0 hbox; have GE1163 := gw w hg; replace HB := sb HB hb; clear hb hbox hg; obtain ⟨_, _, _, _, _, _, _, _⟩ := b4 BK1163))
        replace BK1163 : Aside0 (((((w52.setCell ⟨gb1163, 0, none⟩ (.int .i64 ((rd_T165 l0 x19_1).f0.f0))).setCell ⟨gb1163, 1, none⟩ (.int .i64 ((rd_T165 l0 x19_1).f0.f1))).setCell ⟨gb1163, 2, none⟩ (.int .i64 ((rd_T165 l0 x19_1).f1.f0))).setCell ⟨gb1163, 3, none⟩ (.int .i64 ((rd_T165 l0 x19_1).f1.f1))).heap[gb1163]? = some (.cells #[.int .i64 ((rd_T165 l0 x19_1).f0.f0), .int .i64 ((rd_T165 l0 x19_1).f0.f1), .int .i64 ((rd_T165 l0 x19_1).f1.f0), .int .i64 ((rd_T165 l0 x19_1).f1.f1)] 165 (0, 0))) := ⟨bq BK1163.out⟩
        replace HB : Aside0 (Below w.heap.size w ((((w52.setCell ⟨gb1163, 0, none⟩ (.int .i64 ((rd_T165 l0 x19_1).f0.f0))).setCell ⟨gb1163, 1, none⟩ (.int .i64 ((rd_T165 l0 x19_1).f0.f1))).setCell ⟨gb1163, 2, none⟩ (.int .i64 ((rd_T165 l0 x19_1).f1.f0))).setCell ⟨gb1163, 3, none⟩ (.int .i64 ((rd_T165 l0 x19_1).f1.f1)))) := ⟨bz⟩
        generalize ((((w52.setCell ⟨gb1163, 0, none⟩ (.int .i64 ((rd_T165 l0 x19_1).f0.f0))).setCell ⟨gb1163, 1, none⟩ (.int .i64 ((rd_T165 l0 x19_1).f0.f1))).setCell ⟨gb1163, 2, none⟩ (.int .i64 ((rd_T165 l0 x19_1).f1.f0))).setCell ⟨gb1163, 3, none⟩ (.int .i64 ((rd_T165 l0 x19_1).f1.f1))) = w54 at BK1163 HB ⊢
        replace BK1163 := bd BK1163; replace HB := sd HB
        refine start_ (n := 32) (S := fun w' => w'.cell? ⟨gb1163, 0, none⟩ = some (.int .i64 ((rd_T165 l0 x19_1).f0.f0)) ∧ w'.cell? ⟨gb1163, 1, none⟩ = some (.int .i64 ((rd_T165 l0 x19_1).f0.f1)) ∧ w'.cell? ⟨gb1163, 2, none⟩ = some (.int .i64 ((rd_T165 l0 x19_1).f1.f0)) ∧ w'.cell? ⟨gb1163, 3, none⟩ = some (.int .i64 ((rd_T165 l0 x19_1).f1.f1))) (ds := []) #[false, false, false, false, false, false, false, false, false, false, false, false, false, false, false, false, false, false, false, false, false, false, false, false, false, false, false, false, false, false, false, false] (by kernel_rfl) rfl rfl cz (fun hH => ?_); refine with_tabW L_pairsErr.tab6 L_pairsErr.bits6 (fun HT_ HW_ => ?_)
        generalize w54.drew = w55 at BK1163 HB hH ⊢
        refine pZ 0 (some 23) (bs 32 1) HT_ ?_
        refine pZ 1 (some 24) (bs 32 3) HT_ ?_
        refine pZ 2 (some 25) (bs 32 7) HT_ ?_
        refine pZ 12 (some 35) (bs 32 4103) HT_ ?_
        refine pZ 13 (some 36) (bs 32 12295) HT_ ?_
        refine pZ 15 (some 38) (bs 32 45063) HT_ ?_
        refine pZ 16 (some 39) (bs 32 110599) HT_ ?_
        refine takeZ 3 (some 26) (bs 32 110607) (take_ofW HT_.out HW_.out (by kernel_rfl)) hH ?_
        refine takeZ 14 (some 37) (bs 32 126991) (take_ofW HT_.out HW_.out (by kernel_rfl)) hH ?_
        refine takeZ 17 (some 40) (bs 32 258063) (take_ofW HT_.out HW_.out (by kernel_rfl)) hH ?_
        refine pZ 18 (some 41) (bs 32 520207) HT_ ?_
        refine oneZ 4 (some 27) (bs 32 520223) (one_of HT_.out (by kernel_rfl)) fun K hK => ?_
        refine goesV_ 24 Try.func140 (by kernel_rfl) rfl #[.agg #[.int .i64 ((rd_T165 l0 x19_1).f0.f0), .int .i64 ((rd_T165 l0 x19_1).f0.f1)]] (by rfl) rfl rfl (by rfl) mz ?_
        with_reducible refine (L_pairsErr_1.calls ((rd_T165 l0 x19_1).f0.f0) ((rd_T165 l0 x19_1).f0.f1) false _ A11.out).mono ?_
        rintro e w56 ⟨rfl, hb⟩
        refine ⟨_, rfl, ?_⟩
        replace BK1163 := bb BK1163 hb; replace HB := sb HB hb
        (try clear hb)
        refine hK.out _ _ cz (fun hH => ?_)
        clear hK K
        refine norm_ (a' := ?_) ?_ ?_
        rotate_left
        ·show Act.put _ (some 27) _ = _
         exact pz
        refine pZ 5 (some 28) (bs 32 520255) HT_ ?_
        refine pure_ (i := 6) (N := some 29) (v := undef) (a' := ?_) (bs 32 520319) rfl rfl (any_of HT_.out (by kernel_rfl)) (fun _ _ _ h => h) (Or.inr ⟨by rfl, rfl⟩) ?_ ?_
        rotate_left
        ·exact pz
        refine pure_ (i := 7) (N := some 30) (v := undef) (a' := ?_) (bs 32 520447) rfl rfl (any_of HT_.out (by kernel_rfl)) (fun _ _ _ h => h) (Or.inr ⟨by rfl, rfl⟩) ?_ ?_
        rotate_left
        ·exact pz
        refine pure_ (i := 8) (N := some 31) (v := undef) (a' := ?_) (bs 32 520703) rfl rfl (any_of HT_.out (by kernel_rfl)) (fun _ _ _ h => h) (Or.inr ⟨by rfl, rfl⟩) ?_ ?_
        rotate_left
        ·exact pz
        refine pure_ (i := 9) (N := some 32) (v := undef) (a' := ?_) (bs 32 521215) rfl rfl (any_of HT_.out (by kernel_rfl)) (fun _ _ _ h => h) (Or.inr ⟨by rfl, rfl⟩) ?_ ?_
        rotate_left
        ·exact pz
        refine pZ 10 (some 33) (bs 32 522239) HT_ ?_
        refine oneZ 11 (some 34) (bs 32 524287) (one_of HT_.out (by kernel_rfl)) fun K hK => ?_
        refine gz Try.func76 #[.bool false, .int .i64 2] ?_
        with_reducible refine (L_unless.calls false 2 t1177 _ A38.out).mono ?_
        rintro e w' ⟨rfl, ⟨nd, rfl⟩⟩
        refine ⟨_, rfl, ?_⟩
        refine hK.out _ _ cz (fun hH => ?_)
        clear hK K
        refine norm_ (a' := ?_) ?_ ?_
        rotate_left
        ·show Act.put _ (some 34) _ = _
         exact pz
        refine pZ 19 (some 42) (bs 32 1048575) HT_ ?_
        refine pure_ (i := 20) (N := some 43) (v := undef) (a' := ?_) (bs 32 2097151) rfl rfl (any_of HT_.out (by kernel_rfl)) (fun _ _ _ h => h) (Or.inr ⟨by rfl, rfl⟩) ?_ ?_
        rotate_left
        ·exact pz
        refine pure_ (i := 21) (N := some 44) (v := undef) (a' := ?_) (bs 32 4194303) rfl rfl (any_of HT_.out (by kernel_rfl)) (fun _ _ _ h => h) (Or.inr ⟨by rfl, rfl⟩) ?_ ?_
        rotate_left
        ·exact pz
        refine pure_ (i := 22) (N := some 45) (v := undef) (a' := ?_) (bs 32 8388607) rfl rfl (any_of HT_.out (by kernel_rfl)) (fun _ _ _ h => h) (Or.inr ⟨by rfl, rfl⟩) ?_ ?_
        rotate_left
        ·exact pz
        refine pure_ (i := 23) (N := some 46) (v := undef) (a' := ?_) (bs 32 16777215) rfl rfl (any_of HT_.out (by kernel_rfl)) (fun _ _ _ h => h) (Or.inr ⟨by rfl, rfl⟩) ?_ ?_
        rotate_left
        ·exact pz
        refine pure_ (i := 24) (N := some 47) (v := undef) (a' := ?_) (bs 32 33554431) rfl rfl (any_of HT_.out (by kernel_rfl)) (fun _ _ _ h => h) (Or.inr ⟨by rfl, rfl⟩) ?_ ?_
        rotate_left
        ·exact pz
        refine pure_ (i := 25) (N := some 48) (v := undef) (a' := ?_) (bs 32 67108863) rfl rfl (any_of HT_.out (by kernel_rfl)) (fun _ _ _ h => h) (Or.inr ⟨by rfl, rfl⟩) ?_ ?_
        rotate_left
        ·exact pz
        refine pure_ (i := 26) (N := some 49) (v := undef) (a' := ?_) (bs 32 134217727) rfl rfl (any_of HT_.out (by kernel_rfl)) (fun _ _ _ h => h) (Or.inr ⟨by rfl, rfl⟩) ?_ ?_
        rotate_left
        ·exact pz
        refine pZ 27 (some 50) (bs 32 268435455) HT_ ?_
        refine oneZ 28 (some 51) (bs 32 536870911) (one_of HT_.out (by kernel_rfl)) fun K hK => ?_
        refine gz Try.func76 #[.bool false, .int .i64 9] ?_
        with_reducible refine (L_unless.calls false 9 t1183 _ A50.out).mono ?_
        rintro e w' ⟨rfl, ⟨nd, rfl⟩⟩
        refine ⟨_, rfl, ?_⟩
        refine hK.out _ _ cz (fun hH => ?_)
        clear hK K
        refine norm_ (a' := ?_) ?_ ?_
        rotate_left
        ·show Act.put _ (some 51) _ = _
         exact pz
        refine oneZ 29 (some 52) (bs 32 1073741823) (one_of HT_.out (by kernel_rfl)) fun K hK => ?_
        refine Kd.R_lit_step (Kd.int .i64) _ 24 ?hg (N := 52) ?hd (xs := ([x3_1, t1177, t1183] : List Int)) (inner := [.int .i64 x3_1, .int .i64 t1177, .int .i64 t1183]) (ok := fun _ => True) (okp := fun _ => True) ?hr ?hp (fun _ hk => hk) trivial (Below.refl _ _) (Nat.le_refl _) (by simp) ?_; (case hd => rfl); (case hg => rfl); (case hr => first | (go_simp; done) | (go_simp; rfl)); (case hp => exact (Reps.one (show Kd.M (Kd.int .i64) _ _ _ x3_1 [.int .i64 x3_1] from rfl) (Reps.one (show Kd.M (Kd.int .i64) _ _ _ t1177 [.int .i64 t1177] from rfl) (Reps.one (show Kd.M (Kd.int .i64) _ _ _ t1183 [.int .i64 t1183] from rfl) (Reps.none _ _)))))
        intro v1185 w57 ho58 hb hg_ hnew_
        clear hg_ hnew_
        (first | rw [← Ny1184.out] at ho58 | (simp only [Int.reduceToNat] at ho58; rw [← Ny1184.out] at ho58))
        have HO1186 := m0 (Kd.R_lower ho58 (below_size bz)); replace BK1163 := bb BK1163 hb; replace HB := sb HB hb
        clear hb ho58
        obtain ⟨Ao59, co59, eo59⟩ := Kd.R_slice HO1186.out
        subst eo59
        refine hK.out _ _ cz (fun hH => ?_)
        clear hK K
        refine norm_ (a' := ?_) ?_ ?_
        rotate_left
        ·show Act.put _ (some 52) _ = _
         exact pz
        refine oneZ 30 (some 53) (bs 32 2147483647) (one_of HT_.out (by kernel_rfl)) fun K hK => ?_
        refine gz Try.func75 #[.slice Ao59 y1184.length co59] ?_
        with_reducible refine (L_first.calls k1 _ _ y1184 t1187 _ ?side1 ?side2 A51.out).mono ?_
        (case side1 => exact bc (Kd.R_reads' HO1186.out).2.2)
        (case side2 => exact (Kd.R_reads' HO1186.out).2.1)
        rintro e w' ⟨rfl, ⟨nd, rfl⟩⟩
        refine ⟨_, rfl, ?_⟩
        refine hK.out _ _ cz (fun hH => ?_)
        clear hK K
        refine norm_ (a' := ?_) ?_ ?_
        rotate_left
        ·show Act.put _ (some 53) _ = _
         exact pz
        refine pZ 31 (some 3) (bs 32 4294967295) HT_ ?_
        refine done_ (done_of HT_.out (by kernel_rfl)) ?_
        try go_wp2
        go_roundg k1
        case measure => have := HK1.out; omega
        case rel => exact ⟨(t1187), (wrap64 (x19_1 + 1)), (by first | rfl | (simp; done) | (simp [*]; done)), (by first | rfl | (simp; done) | (simp [*]; done)), H', ⟨by have := HK1.out; omega⟩, ⟨bz⟩⟩
     ·rw [if_neg c10] at H
      exact absurd H (by simp)
    ·rw [if_neg c9] at H
     exact absurd H (by simp)
   ·rw [if_neg c8] at H
    have c8b0 := decide_eq_false c8
    clear c8
    obtain rfl := Option.some.inj H
    go_wp2
    go_ret
    exact ez
end
section
def L_difference.f (a0_0 : Int) (a0_1 : Int) (a0_2 : Int) (a0_3 : Int) : Option (Int × Int) := some (wrap64 (a0_0 - a0_3), wrap64 (a0_1 - a0_2))
theorem L_difference.calls (a0_0 : Int) (a0_1 : Int) (a0_2 : Int) (a0_3 : Int) (r1 : Int) (r2 : Int) (w : World) (h : L_difference.f a0_0 a0_1 a0_2 a0_3 = some (r1, r2)) :
  Calls Try.prog 106 #[.agg #[.int .i64 a0_0, .int .i64 a0_1, .int .i64 a0_2, .int .i64 a0_3]] w fun e w' => e = .returned (.agg #[.int .i64 r1, .int .i64 r2]) ∧ Below w.heap.size w w' := by
 have hu165 := Try.underlying165
 have hu58 := Try.underlying58
 have HB := m0 (Below.refl w.heap.size w)
 have H : (some (wrap64 (a0_0 - a0_3), wrap64 (a0_1 - a0_2))) = some (r1, r2) := h
 clear h
 simp only [Option.some.injEq, Prod.mk.injEq] at H
 obtain ⟨rfl, rfl⟩ := H
 go_enter Try.func106, Try.ntmps106
 go_wp2_with (first | ((with_reducible refine gate_dst (N := 1) rfl ?_); refine be 1 165 #[.int .i64 a0_0, .int .i64 a0_1, .int .i64 a0_2, .int .i64 a0_3] ?_; intro gb1188 hg w2 hbox hb; have BK1188 := m0 hbox; have GE1188 := gw w hg; replace HB := sb HB hb; clear hb hbox hg) | ((with_reducible refine gate_dst (N := 2) rfl ?_); refine be 2 58 #[.int .i64 0, .int .i64 0] ?_; intro gb1189 hg w3 hbox hb; have BK1189 := m0 hbox; have GE1189 := gw w hg; replace HB := sb HB hb; have NB1188_1189 := nl BK1188 hg; have NB1189_1188 := ng (nl BK1188 hg); replace BK1188 := bb BK1188 hb; clear hb hbox hg; have hnb4 := NB1188_1189.out; have hnc4 := NB1189_1188.out; obtain ⟨_, _, _, _, _, _, _, _⟩ := b4 BK1188; obtain ⟨_, _, _, _⟩ := b2 BK1189))
 refine bodyPost_ret (results_cell_row rfl _ _ gb1189 58 #[.int .i64 (wrap64 (a0_0 - a0_3)), .int .i64 (wrap64 (a0_1 - a0_2))] (0, 0) _ rfl (bq BK1189.out) Try.underlying58 rfl (by kernel_rfl)) rfl ?_
 exact ez
end
section
mutual
def L_AgreementOf.l0 : Nat → Int → List (S165) → Int → Int → Int → Int → Int → Option (Int × Int × Int × Int)
  | 0, _, _, _, _, _, _, _ => none
  | k + 1, x1, x23, x24, x25, x1199000, x1199001, x1199002 => if x25 < x24 then (if 0 ≤ x25 then (if x25 < (x23.length : Int) then ((L_difference.f ((rd_T165 x23 x25).f0.f0) ((rd_T165 x23 x25).f0.f1) ((rd_T165 x23 x25).f1.f0) ((rd_T165 x23 x25).f1.f1)).bind fun bt1201 => ((L_isSized.f bt1201.1 x1).bind fun t1204 => (if t1204 = true then ((L_isSized.f bt1201.2 x1).bind fun t1205 => (L_AgreementOf.j1 k x1 x23 x24 x25 t1205 x1199000 x1199001 x1199002 bt1201.1 bt1201.2)) else (L_AgreementOf.j1 k x1 x23 x24 x25 false x1199000 x1199001 x1199002 bt1201.1 bt1201.2)))) else (none)) else (none)) else (some (x1199000, x1199001, x1199002, 0))
def L_AgreementOf.j1 : Nat → Int → List (S165) → Int → Int → Bool → Int → Int → Int → Int → Int → Option (Int × Int × Int × Int)
  | 0, _, _, _, _, _, _, _, _, _, _ => none
  | k + 1, x1, x23, x24, x25, x31, x1199000, x1199001, x1199002, x1204000, x1204001 => if x31 = true then (L_AgreementOf.l0 k x1 x23 x24 (wrap64 (x25 + 1)) x1199000 x1199001 (wrap64 (x1199002 + 1))) else (if x1204000 > x1 then (L_AgreementOf.l0 k x1 x23 x24 (wrap64 (x25 + 1)) (wrap64 (x1199000 + 1)) x1199001 x1199002) else (if x1204001 < (wrap64 (-x1)) then (L_AgreementOf.l0 k x1 x23 x24 (wrap64 (x25 + 1)) (wrap64 (x1199000 + 1)) x1199001 x1199002) else (L_AgreementOf.l0 k x1 x23 x24 (wrap64 (x25 + 1)) x1199000 (wrap64 (x1199001 + 1)) x1199002)))
end
def L_AgreementOf.f (k : Nat) (l0 : List (S165)) (a1 : Int) : Option (Int × Int × Int × Int) := (L_pairsErr.f k l0).bind fun t1191 => ((L_within.f a1 0 10000).bind fun t1192 => ((L_unless.f t1192 2).bind fun t1193 => ((L_first.f k (([t1191, t1193] : List Int))).bind fun t1197 => (if t1197 = 0 then (L_AgreementOf.l0 k a1 l0 (l0.length : Int) 0 0 0 0) else (some (0, 0, 0, t1197))))))
theorem L_AgreementOf.mono_l : ∀ k, (∀ y0 y1 y2 y3 y4 y5 y6, LeO (L_AgreementOf.l0 k y0 y1 y2 y3 y4 y5 y6) (L_AgreementOf.l0 (k + 1) y0 y1 y2 y3 y4 y5 y6)) ∧ (∀ y0 y1 y2 y3 y4 y5 y6 y7 y8 y9, LeO (L_AgreementOf.j1 k y0 y1 y2 y3 y4 y5 y6 y7 y8 y9) (L_AgreementOf.j1 (k + 1) y0 y1 y2 y3 y4 y5 y6 y7 y8 y9))
  | 0 => ⟨fun _ _ _ _ _ _ _ r h => by simp [L_AgreementOf.l0] at h, fun _ _ _ _ _ _ _ _ _ _ r h => by simp [L_AgreementOf.j1] at h⟩
  | k + 1 => by
    obtain ⟨ih0, ih1⟩ := L_AgreementOf.mono_l k
    refine ⟨?_, ?_⟩
    · intro y0 y1 y2 y3 y4 y5 y6
      unfold L_AgreementOf.l0
      repeat' with_reducible first
        | exact ih0 ..
        | exact ih1 ..
        | exact L_first.mono ..
        | exact L_pairsErr.mono ..
        | exact LeO.refl ..
        | exact LeO.none ..
        | refine LeO.ite ?_ ?_
        | refine LeO.bind ?_ (fun _ => ?_)
    · intro y0 y1 y2 y3 y4 y5 y6 y7 y8 y9
      unfold L_AgreementOf.j1
      repeat' with_reducible first
        | exact ih0 ..
        | exact ih1 ..
        | exact L_first.mono ..
        | exact L_pairsErr.mono ..
        | exact LeO.refl ..
        | exact LeO.none ..
        | refine LeO.ite ?_ ?_
        | refine LeO.bind ?_ (fun _ => ?_)
theorem L_AgreementOf.mono : ∀ a0 a1 k, LeO (L_AgreementOf.f k a0 a1) (L_AgreementOf.f (k + 1) a0 a1) := by
  intro a0 a1 k
  obtain ⟨ih0, ih1⟩ := L_AgreementOf.mono_l k
  unfold L_AgreementOf.f
  repeat' with_reducible first
    | exact ih0 ..
    | exact ih1 ..
    | exact L_first.mono ..
    | exact L_pairsErr.mono ..
    | exact LeO.refl ..
    | exact LeO.none ..
    | refine LeO.ite ?_ ?_
    | refine LeO.bind ?_ (fun _ => ?_)
theorem L_AgreementOf.calls (k : Nat) (A0 : Option Addr) (c0 : Nat) (l0 : List (S165)) (a1 : Int) (r1 : Int) (r2 : Int) (r3 : Int) (r4 : Int) (w : World) (hr0 : Kd.C k165 w A0 l0.length l0) (hc0 : l0.length ≤ c0) (h : L_AgreementOf.f k l0 a1 = some (r1, r2, r3, r4)) :
    Calls Try.prog 48 #[.slice A0 l0.length c0, .int .i64 a1] w fun e w' => e = .returned (.tuple #[.agg #[.int .i64 r1, .int .i64 r2, .int .i64 r3], .int .i64 r4]) ∧ Below w.heap.size w w' := by
  have hu44 := Try.underlying44
  have hu165 := Try.underlying165
  have hu58 := Try.underlying58
  have hix44_0 : ∀ (g_ : Nat) (W_ : World), (Instr.indexAt 44 (.pointer (some ⟨g_, 0, none⟩)) (.int .i64 0)).run Try.prog W_ = .ok (.pointer (some ⟨g_, 0, none⟩)) W_ := fun _ _ => by kernel_rfl
  have hix44_1 : ∀ (g_ : Nat) (W_ : World), (Instr.indexAt 44 (.pointer (some ⟨g_, 0, none⟩)) (.int .i64 1)).run Try.prog W_ = .ok (.pointer (some ⟨g_, 1, none⟩)) W_ := fun _ _ => by kernel_rfl
  have hix44_2 : ∀ (g_ : Nat) (W_ : World), (Instr.indexAt 44 (.pointer (some ⟨g_, 0, none⟩)) (.int .i64 2)).run Try.prog W_ = .ok (.pointer (some ⟨g_, 2, none⟩)) W_ := fun _ _ => by kernel_rfl
  have HR0 := m0 hr0
  have HC0 := m0 hc0
  clear hr0 hc0
  have HB := m0 (Below.refl w.heap.size w)
  have H : ((L_pairsErr.f k l0).bind fun t1191 => ((L_within.f a1 0 10000).bind fun t1192 => ((L_unless.f t1192 2).bind fun t1193 => ((L_first.f k (([t1191, t1193] : List Int))).bind fun t1197 => (if t1197 = 0 then (L_AgreementOf.l0 k a1 l0 (l0.length : Int) 0 0 0 0) else (some (0, 0, 0, t1197))))))) = some (r1, r2, r3, r4) := h
  clear h
  replace H := ob H
  obtain ⟨t1191, A3, H⟩ := H
  (try dsimp only at H)
  replace A3 := m0 A3
  replace H := ob H
  obtain ⟨t1192, A4, H⟩ := H
  (try dsimp only at H)
  replace A4 := m0 A4
  replace H := ob H
  obtain ⟨t1193, A5, H⟩ := H
  (try dsimp only at H)
  replace A5 := m0 A5
  obtain ⟨y1194, hy1194⟩ : ∃ y_ : List Int, y_ = (([t1191, t1193] : List Int)) := ⟨_, rfl⟩
  replace H : ((L_first.f k y1194).bind fun t1197 => (if t1197 = 0 then (L_AgreementOf.l0 k a1 l0 (l0.length : Int) 0 0 0 0) else (some (0, 0, 0, t1197)))) = some (r1, r2, r3, r4) := by first | (rw [hy1194]; with_reducible exact H) | (have H2_ := (Option.bind_some _ _).symm.trans H; rw [hy1194]; with_reducible exact H2_) | (have H2_ := (Option.bind_some _ _).symm.trans H; with_reducible exact H2_) | with_reducible exact H | (rw [hy1194]; exact H) | exact H
  have Ny1194 := m0 hy1194
  clear hy1194
  replace H := ob H
  obtain ⟨t1197, A6, H⟩ := H
  (try dsimp only at H)
  replace A6 := m0 A6
  by_cases c7 : t1197 = 0
  · rw [if_pos c7] at H
    have c7b0 := beq_iff_eq.mpr c7
    have c7b1 := bne_eq_false_iff_eq.mpr c7
    clear c7
    have H' := m0 H
    clear H
    go_enter Try.func48, Try.ntmps48
    go_wp2_with (first | ((with_reducible refine gate_dst (N := 4) rfl ?_); refine be 4 44 #[.int .i64 0, .int .i64 0, .int .i64 0] ?_; intro gb1190 hg w8 hbox hb; have BK1190 := m0 hbox; have GE1190 := gw w hg; replace HB := sb HB hb; clear hb hbox hg) | ((with_reducible refine gate_callee (f := 105) rfl ?_); refine gl (some 13) Try.func105 #[.slice A0 l0.length c0] ?_; (with_reducible refine (L_pairsErr.calls k _ _ l0 t1191 _ ?side1 ?side2 A3.out).mono ?_); (case side1 => exact cb HR0 HB); (case side2 => exact HC0.out); rintro e w9 ⟨rfl, hb⟩; refine ⟨_, rfl, ?_⟩; replace BK1190 := bb BK1190 hb; replace HB := sb HB hb; (try clear hb)) | ((with_reducible refine gate_callee (f := 78) rfl ?_); refine gl (some 15) Try.func78 #[.int .i64 a1, .int .i64 0, .int .i64 10000] ?_; (with_reducible refine (L_within.calls a1 0 10000 t1192 _ A4.out).mono ?_); rintro e w' ⟨rfl, ⟨nd, rfl⟩⟩; refine ⟨_, rfl, ?_⟩) | ((with_reducible refine gate_callee (f := 76) rfl ?_); refine gl (some 16) Try.func76 #[.bool t1192, .int .i64 2] ?_; (with_reducible refine (L_unless.calls t1192 2 t1193 _ A5.out).mono ?_); rintro e w' ⟨rfl, ⟨nd, rfl⟩⟩; refine ⟨_, rfl, ?_⟩) | ((with_reducible refine gate_dst (N := 17) rfl ?_); refine Kd.R_lit (Kd.int .i64) _ 24 ?hg (N := 17) ?hd (xs := ([t1191, t1193] : List Int)) (inner := [.int .i64 t1191, .int .i64 t1193]) (ok := fun _ => True) (okp := fun _ => True) ?hr ?hp (fun _ hk => hk) trivial (Below.refl _ _) (Nat.le_refl _) (by simp) ?_; (case hd => rfl); (case hg => rfl); (case hr => first | (go_simp; done) | (go_simp; rfl)); (case hp => exact (Reps.one (show Kd.M (Kd.int .i64) _ _ _ t1191 [.int .i64 t1191] from rfl) (Reps.one (show Kd.M (Kd.int .i64) _ _ _ t1193 [.int .i64 t1193] from rfl) (Reps.none _ _)))); intro v1195 w10 ho11 hb hg_ hnew_; clear hg_ hnew_; (first | rw [← Ny1194.out] at ho11 | (simp only [Int.reduceToNat] at ho11; rw [← Ny1194.out] at ho11)); have HO1196 := m0 (Kd.R_lower ho11 (below_size bz)); replace BK1190 := bb BK1190 hb; replace HB := sb HB hb; clear hb ho11; obtain ⟨Ao12, co12, eo12⟩ := Kd.R_slice HO1196.out; subst eo12) | ((with_reducible refine gate_callee (f := 75) rfl ?_); refine gl (some 18) Try.func75 #[.slice Ao12 y1194.length co12] ?_; (with_reducible refine (L_first.calls k _ _ y1194 t1197 _ ?side1 ?side2 A6.out).mono ?_); (case side1 => exact bc (Kd.R_reads' HO1196.out).2.2); (case side2 => exact (Kd.R_reads' HO1196.out).2.1); rintro e w' ⟨rfl, ⟨nd, rfl⟩⟩; refine ⟨_, rfl, ?_⟩) | ((with_reducible refine gate_dst (N := 7) rfl ?_); refine be 7 44 #[.int .i64 0, .int .i64 0, .int .i64 0] ?_; intro gb1198 hg w13 hbox hb; replace HO1196 := rb HO1196 hb; have BK1198 := m0 hbox; have GE1198 := gw w hg; replace HB := sb HB hb; have NB1190_1198 := nl BK1190 hg; have NB1198_1190 := ng (nl BK1190 hg); replace BK1190 := bb BK1190 hb; clear hb hbox hg))
    go_loopg [25] k (fun kq v25 w' => ∃ (x25_1 : Int) (x1199000_1 : Int) (x1199001_1 : Int) (x1199002_1 : Int), v25 = .int .i64 x25_1 ∧ Aside0 (L_AgreementOf.l0 kq a1 l0 (l0.length : Int) x25_1 x1199000_1 x1199001_1 x1199002_1 = some (r1, r2, r3, r4)) ∧ Aside0 (kq ≤ k) ∧ Aside0 (w'.heap[gb1190]? = some (.cells #[.int .i64 0, .int .i64 0, .int .i64 0] 44 (0, 0))) ∧ Aside0 (w'.heap[gb1198]? = some (.cells #[.int .i64 x1199000_1, .int .i64 x1199001_1, .int .i64 x1199002_1] 44 (0, 0))) ∧ Aside0 (Below w.heap.size w w'))
    case atStart => exact ⟨(0), (0), (0), (0), (by first | rfl | (simp; done) | (simp [*]; done)), H', ⟨Nat.le_refl _⟩, ⟨bk BK1190.out⟩, ⟨bk BK1198.out⟩, ⟨bz⟩⟩
    case round =>
      clear H'
      obtain ⟨x25_1, x1199000_1, x1199001_1, x1199002_1, rfl, HA, HK1, BK1190, BK1198, HB⟩ := hrel
      cases gk with
      | zero => exact absurd HA.out (by simp [L_AgreementOf.l0])
      | succ k1 =>
        have H := HA.out
        clear HA
        simp only [L_AgreementOf.l0] at H
        by_cases c14 : x25_1 < (l0.length : Int)
        · rw [if_pos c14] at H
          have c14b0 := decide_eq_true c14
          clear c14
          by_cases c15 : 0 ≤ x25_1
          · rw [if_pos c15] at H
            have c15b0 := decide_eq_true c15
            clear c15
            by_cases c16 : x25_1 < (l0.length : Int)
            · rw [if_pos c16] at H
              have c16b0 := decide_eq_true c16
              clear c16
              replace H := ob H
              obtain ⟨⟨t1201, t1202⟩, A17, H⟩ := H
              (try dsimp only at H)
              replace A17 := m0 A17
              have HC18 := m0 H
              clear H
              have p1199 : 0 ≤ (x25_1 : Int) := od
              have q1199 : x25_1 < (l0.length : Int) := od
              obtain ⟨ad1199, e1199, hx1199_0, hx1199_1, hx1199_2, hx1199_3⟩ := at_T165 HR0.out x25_1 p1199 q1199
              cases e1199
              replace hx1199_0 := (HB.out.cell (World.block_lt_of_cell? w _ hx1199_0)).trans hx1199_0
              replace hx1199_1 := (HB.out.cell (World.block_lt_of_cell? w _ hx1199_1)).trans hx1199_1
              replace hx1199_2 := (HB.out.cell (World.block_lt_of_cell? w _ hx1199_2)).trans hx1199_2
              replace hx1199_3 := (HB.out.cell (World.block_lt_of_cell? w _ hx1199_3)).trans hx1199_3
              replace p1199 := eq_true p1199
              replace q1199 := eq_true q1199
              go_upto_region 10 with (first | ((with_reducible refine gate_dst (N := 9) rfl ?_); refine be 9 165 #[.int .i64 0, .int .i64 0, .int .i64 0, .int .i64 0] ?_; intro gb1200 hg w19 hbox hb; have BK1200 := m0 hbox; have GE1200 := gw w hg; replace HB := sb HB hb; have NB1190_1200 := nl BK1190 hg; have NB1200_1190 := ng (nl BK1190 hg); replace BK1190 := bb BK1190 hb; have NB1198_1200 := nl BK1198 hg; have NB1200_1198 := ng (nl BK1198 hg); replace BK1198 := bb BK1198 hb; clear hb hbox hg; have hnb20 := NB1200_1190.out; have hnc20 := NB1190_1200.out; have hnb21 := NB1200_1198.out; have hnc21 := NB1198_1200.out; obtain ⟨hcz22_0, hcz22_1, hcz22_2, hcz22_3, hfz22_0, hfz22_1, hfz22_2, hfz22_3⟩ := b4 BK1200) | ((with_reducible refine gate_callee (f := 106) rfl ?_); refine gl (some 30) Try.func106 #[.agg #[.int .i64 ((rd_T165 l0 x25_1).f0.f0), .int .i64 ((rd_T165 l0 x25_1).f0.f1), .int .i64 ((rd_T165 l0 x25_1).f1.f0), .int .i64 ((rd_T165 l0 x25_1).f1.f1)]] ?_; (with_reducible refine (L_difference.calls ((rd_T165 l0 x25_1).f0.f0) ((rd_T165 l0 x25_1).f0.f1) ((rd_T165 l0 x25_1).f1.f0) ((rd_T165 l0 x25_1).f1.f1) t1201 t1202 _ A17.out).mono ?_); rintro e w23 ⟨rfl, hb⟩; refine ⟨_, rfl, ?_⟩; replace BK1190 := m0 (blk_below (g := gb1190) (o := .cells #[.int .i64 0, .int .i64 0, .int .i64 0] 44 (0, 0)) (bq BK1190.out) hb); replace BK1198 := m0 (blk_below (g := gb1198) (o := .cells #[.int .i64 x1199000_1, .int .i64 x1199001_1, .int .i64 x1199002_1] 44 (0, 0)) (bq BK1198.out) hb); replace BK1200 := m0 (blk_below (g := gb1200) (o := .cells #[.int .i64 ((rd_T165 l0 x25_1).f0.f0), .int .i64 ((rd_T165 l0 x25_1).f0.f1), .int .i64 ((rd_T165 l0 x25_1).f1.f0), .int .i64 ((rd_T165 l0 x25_1).f1.f1)] 165 (0, 0)) (bq BK1200.out) hb); replace HB := sb HB hb; (try clear hb)) | ((with_reducible refine gate_dst (N := 11) rfl ?_); refine be 11 58 #[.int .i64 0, .int .i64 0] ?_; intro gb1203 hg w24 hbox hb; have BK1203 := m0 hbox; have GE1203 := gw w hg; replace HB := sb HB hb; have NB1190_1203 := nl BK1190 hg; have NB1203_1190 := ng (nl BK1190 hg); replace BK1190 := bb BK1190 hb; have NB1198_1203 := nl BK1198 hg; have NB1203_1198 := ng (nl BK1198 hg); replace BK1198 := bb BK1198 hb; have NB1200_1203 := nl BK1200 hg; have NB1203_1200 := ng (nl BK1200 hg); replace BK1200 := bb BK1200 hb; clear hb hbox hg; have hnb25 := NB1203_1190.out; have hnc25 := NB1190_1203.out; have hnb26 := NB1203_1198.out; have hnc26 := NB1198_1203.out; have hnb27 := NB1203_1200.out; have hnc27 := NB1200_1203.out; obtain ⟨hcz28_0, hcz28_1, hfz28_0, hfz28_1⟩ := b2 BK1203))
              (try simp only [Act.put, List.setIfInBounds_toArray, List.set_cons_zero, List.set_cons_succ])
              go_cut [31] (fun v31 wc => ∃ (kq : Nat) (x31_17 : Bool), v31 = .bool x31_17 ∧ Aside0 (L_AgreementOf.j1 kq a1 l0 (l0.length : Int) x25_1 x31_17 x1199000_1 x1199001_1 x1199002_1 t1201 t1202 = some (r1, r2, r3, r4)) ∧ Aside0 (kq ≤ k1) ∧ Aside0 (wc.heap[gb1190]? = some (.cells #[.int .i64 0, .int .i64 0, .int .i64 0] 44 (0, 0))) ∧ Aside0 (wc.heap[gb1198]? = some (.cells #[.int .i64 x1199000_1, .int .i64 x1199001_1, .int .i64 x1199002_1] 44 (0, 0))) ∧ Aside0 (wc.heap[gb1200]? = some (.cells #[.int .i64 ((rd_T165 l0 x25_1).f0.f0), .int .i64 ((rd_T165 l0 x25_1).f0.f1), .int .i64 ((rd_T165 l0 x25_1).f1.f0), .int .i64 ((rd_T165 l0 x25_1).f1.f1)] 165 (0, 0))) ∧ Aside0 (wc.heap[gb1203]? = some (.cells #[.int .i64 t1201, .int .i64 t1202] 58 (0, 0))) ∧ Aside0 (Below w.heap.size w wc))
              case first =>
                have H := HC18.out
                clear HC18
                replace H := ob H
                obtain ⟨t1204, A29, H⟩ := H
                (try dsimp only at H)
                replace A29 := m0 A29
                by_cases c30 : t1204 = true
                · subst c30
                  rw [if_pos rfl] at H
                  replace H := ob H
                  obtain ⟨t1205, A31, H⟩ := H
                  (try dsimp only at H)
                  replace A31 := m0 A31
                  have H' := m0 H
                  clear H
                  have hnb32 := NB1203_1190.out
                  have hnc32 := NB1190_1203.out
                  have hnb33 := NB1203_1198.out
                  have hnc33 := NB1198_1203.out
                  have hnb34 := NB1203_1200.out
                  have hnc34 := NB1200_1203.out
                  obtain ⟨hcz35_0, hcz35_1, hfz35_0, hfz35_1⟩ := b2 BK1203
                  go_wp2_with (first | ((with_reducible refine gate_callee (f := 107) rfl ?_); refine gl (some 35) Try.func107 #[.int .i64 t1201, .int .i64 a1] ?_; (with_reducible refine (L_isSized.calls t1201 a1 true _ A29.out).mono ?_); rintro e w' ⟨rfl, ⟨nd, rfl⟩⟩; refine ⟨_, rfl, ?_⟩) | (go_at_call 107; (with_reducible refine (L_isSized.calls t1202 a1 t1205 _ A31.out).mono ?_); rintro e w' ⟨rfl, ⟨nd, rfl⟩⟩))
                  go_meet
                  case rel => exact ⟨_, (t1205), (by first | rfl | (simp; done) | (simp [*]; done)), H', ⟨by have := HK1.out; first | omega | exact Nat.le_refl _⟩, ⟨bq BK1190.out⟩, ⟨bq BK1198.out⟩, ⟨bq BK1200.out⟩, ⟨bq BK1203.out⟩, ⟨bz⟩⟩
                · replace c30 := Bool.eq_false_iff.mpr c30
                  subst c30
                  rw [if_neg (show ¬ (false = true) by decide)] at H
                  have H' := m0 H
                  clear H
                  have hnb36 := NB1203_1190.out
                  have hnc36 := NB1190_1203.out
                  have hnb37 := NB1203_1198.out
                  have hnc37 := NB1198_1203.out
                  have hnb38 := NB1203_1200.out
                  have hnc38 := NB1200_1203.out
                  obtain ⟨hcz39_0, hcz39_1, hfz39_0, hfz39_1⟩ := b2 BK1203
                  go_wp2_with (first | ((with_reducible refine gate_callee (f := 107) rfl ?_); refine gl (some 35) Try.func107 #[.int .i64 t1201, .int .i64 a1] ?_; (with_reducible refine (L_isSized.calls t1201 a1 false _ A29.out).mono ?_); rintro e w' ⟨rfl, ⟨nd, rfl⟩⟩; refine ⟨_, rfl, ?_⟩))
                  go_meet
                  case rel => exact ⟨_, (false), (by first | rfl | (simp; done) | (simp [*]; done)), H', ⟨by have := HK1.out; first | omega | exact Nat.le_refl _⟩, ⟨bq BK1190.out⟩, ⟨bq BK1198.out⟩, ⟨bq BK1200.out⟩, ⟨bq BK1203.out⟩, ⟨bz⟩⟩
              case rest =>
                clear HC18
                try clear hx1
                try clear hx11
                try clear hcz22_0
                try clear hcz22_1
                try clear hcz22_2
                try clear hcz22_3
                try clear hcz28_0
                try clear hcz28_1
                try clear hcz35_0
                try clear hcz35_1
                try clear hcz39_0
                try clear hcz39_1
                try clear hfz22_0
                try clear hfz22_1
                try clear hfz22_2
                try clear hfz22_3
                try clear hfz28_0
                try clear hfz28_1
                try clear hfz35_0
                try clear hfz35_1
                try clear hfz39_0
                try clear hfz39_1
                try clear hx1199_0
                try clear hx1199_1
                try clear hx1199_2
                try clear hx1199_3
                obtain ⟨kq, x31_17, rfl, HA, HJ17, BK1190, BK1198, BK1200, BK1203, HB⟩ := hcut
                cases kq with
                | zero => exact absurd HA.out (by simp [L_AgreementOf.j1])
                | succ kj17 =>
                  have H := HA.out
                  clear HA
                  simp only [L_AgreementOf.j1] at H
                  by_cases c40 : x31_17 = true
                  · subst c40
                    rw [if_pos rfl] at H
                    have H' := m0 H
                    clear H
                    have hnb41 := NB1198_1190.out
                    have hnc41 := NB1190_1198.out
                    have hnb42 := NB1198_1200.out
                    have hnc42 := NB1200_1198.out
                    have hnb43 := NB1198_1203.out
                    have hnc43 := NB1203_1198.out
                    obtain ⟨_, _, _, _, _, _⟩ := b3 BK1198
                    go_wp2
                    go_roundg kj17
                    case measure => have := HK1.out; have := HJ17.out; omega
                    case rel => exact ⟨(wrap64 (x25_1 + 1)), (x1199000_1), (x1199001_1), (wrap64 (x1199002_1 + 1)), (by first | rfl | (simp; done) | (simp [*]; done)), H', ⟨by have := HK1.out; have := HJ17.out; omega⟩, ⟨bq BK1190.out⟩, ⟨bq BK1198.out⟩, ⟨bz⟩⟩
                  · replace c40 := Bool.eq_false_iff.mpr c40
                    subst c40
                    rw [if_neg (show ¬ (false = true) by decide)] at H
                    by_cases c45 : t1201 > a1
                    · rw [if_pos c45] at H
                      have c45b0 := decide_eq_true c45
                      clear c45
                      have H' := m0 H
                      clear H
                      have hnb46 := NB1203_1190.out
                      have hnc46 := NB1190_1203.out
                      have hnb47 := NB1203_1198.out
                      have hnc47 := NB1198_1203.out
                      have hnb48 := NB1203_1200.out
                      have hnc48 := NB1200_1203.out
                      obtain ⟨_, _, _, _⟩ := b2 BK1203
                      have hnb50 := NB1198_1190.out
                      have hnc50 := NB1190_1198.out
                      have hnb51 := NB1198_1200.out
                      have hnc51 := NB1200_1198.out
                      obtain ⟨_, _, _, _, _, _⟩ := b3 BK1198
                      go_wp2
                      go_roundg kj17
                      case measure => have := HK1.out; have := HJ17.out; omega
                      case rel => exact ⟨(wrap64 (x25_1 + 1)), (wrap64 (x1199000_1 + 1)), (x1199001_1), (x1199002_1), (by first | rfl | (simp; done) | (simp [*]; done)), H', ⟨by have := HK1.out; have := HJ17.out; omega⟩, ⟨bq BK1190.out⟩, ⟨bq BK1198.out⟩, ⟨bz⟩⟩
                    · rw [if_neg c45] at H
                      have c45b0 := decide_eq_false c45
                      clear c45
                      by_cases c53 : t1202 < (wrap64 (-a1))
                      · rw [if_pos c53] at H
                        have c53b0 := decide_eq_true c53
                        clear c53
                        have H' := m0 H
                        clear H
                        have hnb54 := NB1203_1190.out
                        have hnc54 := NB1190_1203.out
                        have hnb55 := NB1203_1198.out
                        have hnc55 := NB1198_1203.out
                        have hnb56 := NB1203_1200.out
                        have hnc56 := NB1200_1203.out
                        obtain ⟨_, _, _, _⟩ := b2 BK1203
                        have hnb58 := NB1198_1190.out
                        have hnc58 := NB1190_1198.out
                        have hnb59 := NB1198_1200.out
                        have hnc59 := NB1200_1198.out
                        obtain ⟨_, _, _, _, _, _⟩ := b3 BK1198
                        go_wp2
                        go_roundg kj17
                        case measure => have := HK1.out; have := HJ17.out; omega
                        case rel => exact ⟨(wrap64 (x25_1 + 1)), (wrap64 (x1199000_1 + 1)), (x1199001_1), (x1199002_1), (by first | rfl | (simp; done) | (simp [*]; done)), H', ⟨by have := HK1.out; have := HJ17.out; omega⟩, ⟨bq BK1190.out⟩, ⟨bq BK1198.out⟩, ⟨bz⟩⟩
                      · rw [if_neg c53] at H
                        have c53b0 := decide_eq_false c53
                        clear c53
                        have H' := m0 H
                        clear H
                        have hnb61 := NB1203_1190.out
                        have hnc61 := NB1190_1203.out
                        have hnb62 := NB1203_1198.out
                        have hnc62 := NB1198_1203.out
                        have hnb63 := NB1203_1200.out
                        have hnc63 := NB1200_1203.out
                        obtain ⟨_, _, _, _⟩ := b2 BK1203
                        have hnb65 := NB1198_1190.out
                        have hnc65 := NB1190_1198.out
                        have hnb66 := NB1198_1200.out
                        have hnc66 := NB1200_1198.out
                        obtain ⟨_, _, _, _, _, _⟩ := b3 BK1198
                        go_wp2
                        go_roundg kj17
                        case measure => have := HK1.out; have := HJ17.out; omega
                        case rel => exact ⟨(wrap64 (x25_1 + 1)), (x1199000_1), (wrap64 (x1199001_1 + 1)), (x1199002_1), (by first | rfl | (simp; done) | (simp [*]; done)), H', ⟨by have := HK1.out; have := HJ17.out; omega⟩, ⟨bq BK1190.out⟩, ⟨bq BK1198.out⟩, ⟨bz⟩⟩
            · rw [if_neg c16] at H
              exact absurd H (by simp)
          · rw [if_neg c15] at H
            exact absurd H (by simp)
        · rw [if_neg c14] at H
          have c14b0 := decide_eq_false c14
          clear c14
          simp only [Option.some.injEq, Prod.mk.injEq] at H
          obtain ⟨rfl, rfl, rfl, rfl⟩ := H
          have hnb68 := NB1198_1190.out
          have hnc68 := NB1190_1198.out
          obtain ⟨_, _, _, _, _, _⟩ := b3 BK1198
          obtain ⟨_, _, _, _, _, _⟩ := b3 BK1190
          go_wp2
          refine bodyPost_ret (results_ct rfl _ _ gb1190 44 #[.int .i64 x1199000_1, .int .i64 x1199001_1, .int .i64 x1199002_1] (0, 0) _ rfl (bq BK1190.out) Try.underlying44 rfl (by kernel_rfl)) rfl ?_
          exact ez
  · rw [if_neg c7] at H
    have c7b0 := beq_eq_false_iff_ne.mpr c7
    have c7b1 := bne_iff_ne.mpr c7
    simp only [Option.some.injEq, Prod.mk.injEq] at H
    obtain ⟨rfl, rfl, rfl, rfl⟩ := H
    go_enter Try.func48, Try.ntmps48
    go_wp2_with (first | ((with_reducible refine gate_dst (N := 4) rfl ?_); refine be 4 44 #[.int .i64 0, .int .i64 0, .int .i64 0] ?_; intro gb1190 hg w71 hbox hb; have BK1190 := m0 hbox; have GE1190 := gw w hg; replace HB := sb HB hb; clear hb hbox hg) | ((with_reducible refine gate_callee (f := 105) rfl ?_); refine gl (some 13) Try.func105 #[.slice A0 l0.length c0] ?_; (with_reducible refine (L_pairsErr.calls k _ _ l0 t1191 _ ?side1 ?side2 A3.out).mono ?_); (case side1 => exact cb HR0 HB); (case side2 => exact HC0.out); rintro e w72 ⟨rfl, hb⟩; refine ⟨_, rfl, ?_⟩; replace BK1190 := bb BK1190 hb; replace HB := sb HB hb; (try clear hb)) | ((with_reducible refine gate_callee (f := 78) rfl ?_); refine gl (some 15) Try.func78 #[.int .i64 a1, .int .i64 0, .int .i64 10000] ?_; (with_reducible refine (L_within.calls a1 0 10000 t1192 _ A4.out).mono ?_); rintro e w' ⟨rfl, ⟨nd, rfl⟩⟩; refine ⟨_, rfl, ?_⟩; (try (rw [drewN_self w72]; generalize hq_ : World.drewN w72 _ = w72; replace BK1190 := gd BK1190 hq_; replace HB := gs HB hq_; clear hq_))) | ((with_reducible refine gate_callee (f := 76) rfl ?_); refine gl (some 16) Try.func76 #[.bool t1192, .int .i64 2] ?_; (with_reducible refine (L_unless.calls t1192 2 t1193 _ A5.out).mono ?_); rintro e w' ⟨rfl, ⟨nd, rfl⟩⟩; refine ⟨_, rfl, ?_⟩; (try (rw [drewN_self w72]; generalize hq_ : World.drewN w72 _ = w72; replace BK1190 := gd BK1190 hq_; replace HB := gs HB hq_; clear hq_))) | ((with_reducible refine gate_dst (N := 17) rfl ?_); refine Kd.R_lit (Kd.int .i64) _ 24 ?hg (N := 17) ?hd (xs := ([t1191, t1193] : List Int)) (inner := [.int .i64 t1191, .int .i64 t1193]) (ok := fun _ => True) (okp := fun _ => True) ?hr ?hp (fun _ hk => hk) trivial (Below.refl _ _) (Nat.le_refl _) (by simp) ?_; (case hd => rfl); (case hg => rfl); (case hr => first | (go_simp; done) | (go_simp; rfl)); (case hp => exact (Reps.one (show Kd.M (Kd.int .i64) _ _ _ t1191 [.int .i64 t1191] from rfl) (Reps.one (show Kd.M (Kd.int .i64) _ _ _ t1193 [.int .i64 t1193] from rfl) (Reps.none _ _)))); intro v1195 w73 ho74 hb hg_ hnew_; clear hg_ hnew_; (first | rw [← Ny1194.out] at ho74 | (simp only [Int.reduceToNat] at ho74; rw [← Ny1194.out] at ho74)); have HO1196 := m0 (Kd.R_lower ho74 (below_size bz)); replace BK1190 := bb BK1190 hb; replace HB := sb HB hb; clear hb ho74; obtain ⟨Ao75, co75, eo75⟩ := Kd.R_slice HO1196.out; subst eo75) | ((with_reducible refine gate_callee (f := 75) rfl ?_); refine gl (some 18) Try.func75 #[.slice Ao75 y1194.length co75] ?_; (with_reducible refine (L_first.calls k _ _ y1194 t1197 _ ?side1 ?side2 A6.out).mono ?_); (case side1 => exact bc (Kd.R_reads' HO1196.out).2.2); (case side2 => exact (Kd.R_reads' HO1196.out).2.1); rintro e w' ⟨rfl, ⟨nd, rfl⟩⟩; refine ⟨_, rfl, ?_⟩; (try (rw [drewN_self w73]; generalize hq_ : World.drewN w73 _ = w73; replace HO1196 := gr HO1196 hq_; replace BK1190 := gd BK1190 hq_; replace HB := gs HB hq_; clear hq_)); obtain ⟨_, _, _, _, _, _⟩ := b3 BK1190))
    refine bodyPost_ret (results_ct rfl _ _ gb1190 44 #[.int .i64 0, .int .i64 0, .int .i64 0] (0, 0) _ rfl (bq BK1190.out) Try.underlying44 rfl (by kernel_rfl)) rfl ?_
    exact ez
end
section
def Rf_CopyPairs.f (l0 : List (S165)) : Option ((List (S165))) := (some (([] : List (S165)) : List (S165))).bind fun y1206 => (if y1206.length + l0.length < 4398046511104 then (some (y1206 ++ l0)) else (none))
theorem Rf_CopyPairs.calls (A0 : Option Addr) (c0 : Nat) (l0 : List (S165)) (r : List (S165)) (w : World) (hr0 : Kd.C k165 w A0 l0.length l0) (hc0 : l0.length ≤ c0) (h : Rf_CopyPairs.f l0 = some r) :
  Calls Try.prog 49 #[.slice A0 l0.length c0] w fun e w' => ∃ v0_ : Value, e = .returned (v0_) ∧ Kd.R k165 165 w' w.heap.size (fun _ => True) v0_ r ∧ Below w.heap.size w w' := by
 have HR0 := m0 hr0
 have HC0 := m0 hc0
 clear hr0 hc0
 have HB := m0 (Below.refl w.heap.size w)
 have H : ((some (([] : List (S165)) : List (S165))).bind fun y1206 => (if y1206.length + l0.length < 4398046511104 then (some (y1206 ++ l0)) else (none))) = some r := h
 clear h
 obtain ⟨y1206, hy1206⟩ : ∃ y_ : List (S165), y_ = (([] : List (S165))) := ⟨_, rfl⟩
 replace H : (if y1206.length + l0.length < 4398046511104 then (some (y1206 ++ l0)) else (none)) = some r := by first | (rw [hy1206]; with_reducible exact H) | (have H2_ := (Option.bind_some _ _).symm.trans H; rw [hy1206]; with_reducible exact H2_) | (have H2_ := (Option.bind_some _ _).symm.trans H; with_reducible exact H2_) | with_reducible exact H | (rw [hy1206]; exact H) | exact H
 have Ny1206 := m0 hy1206
 clear hy1206
 by_cases c2 : y1206.length + l0.length < 4398046511104
 ·rw [if_pos c2] at H
  have LMc2 := m0 c2
  clear c2
  obtain ⟨y1209, hy1209⟩ : ∃ y_ : List (S165), y_ = (y1206 ++ l0) := ⟨_, rfl⟩
  replace H : (some y1209) = some r := by first | (rw [hy1209]; with_reducible exact H) | (have H2_ := (Option.bind_some _ _).symm.trans H; rw [hy1209]; with_reducible exact H2_) | (have H2_ := (Option.bind_some _ _).symm.trans H; with_reducible exact H2_) | with_reducible exact H | (rw [hy1209]; exact H) | exact H
  have Ny1209 := m0 hy1209
  clear hy1209
  obtain rfl := Option.some.inj H
  go_enter Try.func49, Try.ntmps49
  go_wp2_with (first | ((with_reducible refine gate_dst (N := 3) rfl ?_); refine Kd.R_lit k165 _ 165 ?hg (N := 3) ?hd (xs := ([] : List (S165))) (inner := []) (ok := fun _ => True) (okp := fun _ => True) ?hr ?hp (fun _ hk => hk) trivial (Below.refl _ _) (Nat.le_refl _) (by simp) ?_; (case hd => rfl); (case hg => rfl); (case hr => first | (go_simp; done) | (go_simp; rfl)); (case hp => exact (Reps.none _ _)); intro v1207 w3 ho4 hb hg_ hnew_; clear hg_ hnew_; (first | rw [← Ny1206.out] at ho4 | (simp only [Int.reduceToNat] at ho4; rw [← Ny1206.out] at ho4)); have HO1208 := m0 (Kd.R_lower ho4 (below_size bz)); replace HB := sb HB hb; clear hb ho4) | ((with_reducible refine gate_builtin (b := .append) (xs := #[.tmp 3, .tmp 4]) rfl ?_); at_builtin; refine Kd.R_append_rows k165 (w0 := w) w.heap.size rfl (.tmp 3) (.tmp 4) 89 165 (.agg #[(.int .i64 0), (.int .i64 0), (.int .i64 0), (.int .i64 0)]) 32 rfl Try.underlying89 info165 rfl (by decide) (by omega) v1207 y1206 l0 _ _ _ (fun _ => True) (fun _ => False) rfl rfl ?aO ?aR (fun _ _ h => h) (fun _ h => h.elim) ?aF ?aB ?aS ?aL ?_; (case aR => exact cb HR0 HB); (case aB => exact bz); (case aF => exact (fun _ _ => trivial)); (case aO => exact (br HO1208.out)); (case aS => exact (below_size bz)); (case aL => have := LMc2.out; omega); intro v1210 w5 ho hb hg hat; rw [← Ny1209.out] at ho; have n0_ := m0 (hb); have n1_ := m0 (ho); clear HB; clear HO1208; have HB := n0_; have HO1211 := n1_; clear n0_ n1_; clear ho hb hg hat))
  go_ret
  exact ⟨_, by first | rfl | (simp [errW_none, errW_some] <;> rfl) | (simp [*, errW_none, errW_some] <;> rfl), by (with_reducible repeat (first | apply Kd.R_alloc | apply Kd.R_drewN | apply Kd.R_drew)); exact HO1211.out, by repeat (first | (with_reducible first | exact HB.out | apply below_alloc | apply pw_below_drewN | apply below_drew1) | exact HB.out)⟩
 ·rw [if_neg c2] at H
  exact absurd H (by simp)
end
section
def L_fraction.f (k : Nat) (a0 : Int) (a1 : Int) : Option (Int × Int) := (L_divisor.f k (([a0, a1] : List Int))).bind fun t621 => (if t621 = 0 then (none) else (some (wrap64 (Int.tdiv a0 t621), wrap64 (Int.tdiv a1 t621))))
theorem L_fraction.mono : ∀ a0 a1 k, LeO (L_fraction.f k a0 a1) (L_fraction.f (k + 1) a0 a1) := by
 intro a0 a1 k
 unfold L_fraction.f
 repeat' with_reducible first
  | exact L_divisor.mono ..
  | exact LeO.refl ..
  | exact LeO.none ..
  | refine LeO.ite ?_ ?_
  | refine LeO.bind ?_ (fun _ => ?_)
def L_fraction.T2 : Bool × List (List Nat × List Nat) := (true, [([], []), ([], []), ([0, 1], [0, 1]), ([], []), ([], []), ([3, 4], [3, 4]), ([2, 5], [2, 5]), ([6, 0, 1, 2, 3, 4, 5, 6], [6])])
def L_fraction.B2 : List Nat := [0, 0, 3, 0, 0, 24, 63, 127]
theorem L_fraction.tab2 : rtab .any (opsOf Try.f98 2) = L_fraction.T2 := by kernel_rfl
theorem L_fraction.bits2 : waitsOk L_fraction.T2.2 L_fraction.B2 = true := by kernel_rfl
theorem L_fraction.calls (k : Nat) (a0 : Int) (a1 : Int) (r1 : Int) (r2 : Int) (w : World) (h : L_fraction.f k a0 a1 = some (r1, r2)) :
  Calls Try.prog 98 #[.int .i64 a0, .int .i64 a1] w fun e w' => e = .returned (.agg #[.int .i64 r1, .int .i64 r2]) ∧ Below w.heap.size w w' := by
 have hu73 := Try.underlying73
 have HB := m0 (Below.refl w.heap.size w)
 have H : ((L_divisor.f k (([a0, a1] : List Int))).bind fun t621 => (if t621 = 0 then (none) else (some (wrap64 (Int.tdiv a0 t621), wrap64 (Int.tdiv a1 t621))))) = some (r1, r2) := h
 clear h
 obtain ⟨y618, hy618⟩ : ∃ y_ : List Int, y_ = (([a0, a1] : List Int)) := ⟨_, rfl⟩
 replace H : ((L_divisor.f k y618).bind fun t621 => (if t621 = 0 then (none) else (some (wrap64 (Int.tdiv a0 t621), wrap64 (Int.tdiv a1 t621))))) = some (r1, r2) := by first | (rw [hy618]; with_reducible exact H) | (have H2_ := (Option.bind_some _ _).symm.trans H; rw [hy618]; with_reducible exact H2_) | (have H2_ := (Option.bind_some _ _).symm.trans H; with_reducible exact H2_) | with_reducible exact H | (rw [hy618]; exact H) | exact H
 have Ny618 := m0 hy618
 clear hy618
 replace H := ob H
 obtain ⟨t621, A3, H⟩ := H
 (try dsimp only at H)
 replace A3 := m0 A3
 by_cases c4 : t621 = 0
 ·rw [if_pos c4] at H
  exact absurd H (by simp)
 ·rw [if_neg c4] at H
  have c4b0 := beq_eq_false_iff_ne.mpr c4
  have c4b1 := bne_iff_ne.mpr c4
  simp only [Option.some.injEq, Prod.mk.injEq] at H
  obtain ⟨rfl, rfl⟩ := H
  go_enter Try.func98, Try.ntmps98
  try go_wp2_with (first | ((with_reducible refine gate_dst (N := 4) rfl ?_); refine be 4 73 #[.int .i64 0, .int .i64 0] ?_; intro gb617 hg w5 hbox hb; have BK617 := m0 hbox; have GE617 := gw w hg; replace HB := sb HB hb; clear hb hbox hg) | ((with_reducible refine gate_dst (N := 8) rfl ?_); refine Kd.R_lit (Kd.int .i64) _ 3 ?hg (N := 8) ?hd (xs := ([a0, a1] : List Int)) (inner := [.int .i64 a0, .int .i64 a1]) (ok := fun _ => True) (okp := fun _ => True) ?hr ?hp (fun _ hk => hk) trivial (Below.refl _ _) (Nat.le_refl _) (by simp) ?_; (case hd => rfl); (case hg => rfl); (case hr => first | (go_simp; done) | (go_simp; rfl)); (case hp => exact (Reps.one (show Kd.M (Kd.int .i64) _ _ _ a0 [.int .i64 a0] from rfl) (Reps.one (show Kd.M (Kd.int .i64) _ _ _ a1 [.int .i64 a1] from rfl) (Reps.none _ _)))); intro v619 w6 ho7 hb hg_ hnew_; clear hg_ hnew_; (first | rw [← Ny618.out] at ho7 | (simp only [Int.reduceToNat] at ho7; rw [← Ny618.out] at ho7)); have HO620 := m0 (Kd.R_lower ho7 (below_size bz)); replace BK617 := bb BK617 hb; replace HB := sb HB hb; clear hb ho7; obtain ⟨Ao8, co8, eo8⟩ := Kd.R_slice HO620.out; subst eo8) | ((with_reducible refine gate_callee (f := 97) rfl ?_); refine gl (some 9) Try.func97 #[.slice Ao8 y618.length co8] ?_; (with_reducible refine (L_divisor.calls k _ _ y618 t621 _ ?side1 ?side2 A3.out).mono ?_); (case side1 => exact bc (Kd.R_reads' HO620.out).2.2); (case side2 => exact (Kd.R_reads' HO620.out).2.1); rintro e w9 ⟨rfl, hb⟩; refine ⟨_, rfl, ?_⟩; replace HO620 := rb HO620 hb; replace BK617 := bb BK617 hb; replace HB := sb HB hb; (try clear hb)))
  replace HO620 := m0 (Kd.R_drew HO620.out); replace BK617 := bd BK617; replace HB := sd HB
  refine start_ (n := 8) (S := fun w' => True) (ds := []) #[false, false, false, false, false, false, false, false] (by kernel_rfl) rfl rfl trivial (fun hH => ?_); refine with_tabW L_fraction.tab2 L_fraction.bits2 (fun HT_ HW_ => ?_)
  generalize w9.drew = w10 at HO620 BK617 HB hH ⊢
  refine pZ 0 (some 10) #[true, false, false, false, false, false, false, false] HT_ ?_
  refine pZ 1 (some 11) #[true, true, false, false, false, false, false, false] HT_ ?_
  refine pZ 2 (some 12) #[true, true, true, false, false, false, false, false] HT_ ?_
  refine pZ 3 (some 13) #[true, true, true, true, false, false, false, false] HT_ ?_
  refine pZ 4 (some 14) #[true, true, true, true, true, false, false, false] HT_ ?_
  refine pZ 5 (some 15) #[true, true, true, true, true, true, false, false] HT_ ?_
  refine pZ 6 (some 16) #[true, true, true, true, true, true, true, false] HT_ ?_
  refine oneZ 7 (none) #[true, true, true, true, true, true, true, true] (one_of HT_.out (by kernel_rfl)) fun K hK => ?_
  have hs11 : w10.cell? ⟨gb617, 0, none⟩ = some (.int .i64 0) := (blk_cell BK617.out 0).trans rfl
  have hfs11 := blk_frozen BK617.out 0
  have hs12 : w10.cell? ⟨gb617, 1, none⟩ = some (.int .i64 0) := (blk_cell BK617.out 1).trans rfl
  have hfs12 := blk_frozen BK617.out 1
  refine skip_ (w1 := ?_) (by rfl) rfl ?_ ?_
  rotate_left
  ·go_simp
   rfl
  refine hK.out _ _ trivial (fun hH => ?_)
  clear hK K
  refine done_ (done_of HT_.out (by kernel_rfl)) ?_
  try go_wp2
  refine bodyPost_ret (results_cell_row rfl _ _ gb617 73 #[.int .i64 (wrap64 (Int.tdiv a0 t621)), .int .i64 (wrap64 (Int.tdiv a1 t621))] (0, 0) _ rfl (bq BK617.out) Try.underlying73 rfl (by kernel_rfl)) rfl ?_
  exact ez
end
end Go.Proofs.Ytibhfahbabgbaaa.A
