/- Walks of the program's functions (printed, made shorter), each with what it computes. -/
import Derived.Test.YtibhfahbabgbaaaB05
import Derived.Test.YtibhfahbabgbaaaB12
import Derived.Test.YtibhfahbabgbaaaB04
namespace Go.Proofs.Ytibhfahbabgbaaa.A
set_option maxHeartbeats 8000000
set_option maxRecDepth 100000
open Go.RowKit Go.Proofs.YtibhfahbabgbaaaW.PrintWords Go.Proofs.YtibhfahbabgbaaaW.PrintLast Go.Proofs.YtibhfahbabgbaaaW.PrintMore
attribute [local go_sem] max2_int min2_int max_two min_two max_three min_three max_four min_four
set_option linter.unusedVariables false
set_option linter.unusedSimpArgs false
section
attribute [local go_sem high] eqA44
def L_sightsErr.l0 : Nat → Int → List (S126) → Int → Int → Option (Int)
 | 0, _, _, _, _ => none
 | k + 1, x3, x16, x17, x18 => if x18 < x17 then (if 0 ≤ x18 then (if x18 < (x16.length : Int) then ((L_isDirection.f ((rd_T126 x16 x18).f0.f0) ((rd_T126 x16 x18).f0.f1) ((rd_T126 x16 x18).f0.f2)).bind fun t212 => (if t212 = true then ((L_isDirection.f ((rd_T126 x16 x18).f1.f0) ((rd_T126 x16 x18).f1.f1) ((rd_T126 x16 x18).f1.f2)).bind fun t213 => ((L_unless.f t213 2).bind fun t214 => (if (!(((rd_T126 x16 x18).f0.f0) == 0) || (!(((rd_T126 x16 x18).f0.f1) == 0) || (!(((rd_T126 x16 x18).f0.f2) == 0)))) = true then ((L_unless.f (!(((rd_T126 x16 x18).f1.f0) == 0) || (!(((rd_T126 x16 x18).f1.f1) == 0) || (!(((rd_T126 x16 x18).f1.f2) == 0)))) 11).bind fun t215 => ((L_first.f k (([x3, t214, t215] : List Int))).bind fun t219 => (L_sightsErr.l0 k t219 x16 x17 (wrap64 (x18 + 1))))) else ((L_unless.f false 11).bind fun t220 => ((L_first.f k (([x3, t214, t220] : List Int))).bind fun t224 => (L_sightsErr.l0 k t224 x16 x17 (wrap64 (x18 + 1)))))))) else ((L_unless.f false 2).bind fun t225 => (if (!(((rd_T126 x16 x18).f0.f0) == 0) || (!(((rd_T126 x16 x18).f0.f1) == 0) || (!(((rd_T126 x16 x18).f0.f2) == 0)))) = true then ((L_unless.f (!(((rd_T126 x16 x18).f1.f0) == 0) || (!(((rd_T126 x16 x18).f1.f1) == 0) || (!(((rd_T126 x16 x18).f1.f2) == 0)))) 11).bind fun t226 => ((L_first.f k (([x3, t225, t226] : List Int))).bind fun t230 => (L_sightsErr.l0 k t230 x16 x17 (wrap64 (x18 + 1))))) else ((L_unless.f false 11).bind fun t231 => ((L_first.f k (([x3, t225, t231] : List Int))).bind fun t235 => (L_sightsErr.l0 k t235 x16 x17 (wrap64 (x18 + 1))))))))) else (none)) else (none)) else (some x3)
def L_sightsErr.f (k : Nat) (l0 : List (S126)) : Option (Int) := (L_unless.f (decide ((l0.length : Int) > 0)) 10).bind fun t204 => ((L_unless.f (decide ((l0.length : Int) ≤ 8)) 8).bind fun t205 => ((L_first.f k (([t204, t205] : List Int))).bind fun t209 => (L_sightsErr.l0 k t209 l0 (l0.length : Int) 0)))
theorem L_sightsErr.mono_l : ∀ k, (∀ y0 y1 y2 y3, LeO (L_sightsErr.l0 k y0 y1 y2 y3) (L_sightsErr.l0 (k + 1) y0 y1 y2 y3))
 | 0 => fun _ _ _ _ r h => by simp [L_sightsErr.l0] at h
 | k + 1 => by
  have ih0 := L_sightsErr.mono_l k
  ·intro y0 y1 y2 y3
   unfold L_sightsErr.l0
   repeat' with_reducible first
    | exact ih0 ..
    | exact L_first.mono ..
    | exact LeO.refl ..
    | exact LeO.none ..
    | refine LeO.ite ?_ ?_
    | refine LeO.bind ?_ (fun _ => ?_)
theorem L_sightsErr.mono : ∀ a0 k, LeO (L_sightsErr.f k a0) (L_sightsErr.f (k + 1) a0) := by
 intro a0 k
 have ih0 := L_sightsErr.mono_l k
 unfold L_sightsErr.f
 repeat' with_reducible first
  | exact ih0 ..
  | exact L_first.mono ..
  | exact LeO.refl ..
  | exact LeO.none ..
  | refine LeO.ite ?_ ?_
  | refine LeO.bind ?_ (fun _ => ?_)
def L_sightsErr.T5 : Bool × List (List Nat × List Nat) := (true, [([], []), ([], []), ([1], [1]), ([2], [2]), ([3, 3], [3]), ([4], [4]), ([5, 4], [4, 5]), ([6, 4, 4], [4, 6]), ([4, 7], [4, 7]), ([8, 7], [8]), ([], []), ([10], [10]), ([], []), ([11, 12], [11, 12]), ([13, 9], [13]), ([14], [14]), ([15, 14], [14, 15]), ([14], [14]), ([16, 17, 14], [14, 16, 17]), ([14, 18], [14, 18]), ([19, 14], [19]), ([0, 9, 20], [0, 9, 20]), ([21, 20], [21]), ([22, 22, 0, 1, 2, 3, 4, 5, 6, 7, 8, 9, 10, 11, 12, 13, 14, 15, 16, 17, 18, 19, 20, 21, 22], [0, 22])])
def L_sightsErr.B5 : List Nat := [0, 0, 2, 6, 14, 30, 62, 126, 254, 510, 0, 1024, 0, 7168, 16382, 32766, 65534, 32766, 262142, 524286, 1048574, 2097151, 4194303, 8388607]
theorem L_sightsErr.tab5 : rtab .any (opsOf Try.f123 5) = L_sightsErr.T5 := by kernel_rfl
theorem L_sightsErr.bits5 : waitsOk L_sightsErr.T5.2 L_sightsErr.B5 = true := by kernel_rfl
theorem L_sightsErr.calls (k : Nat) (A0 : Option Addr) (c0 : Nat) (l0 : List (S126)) (r : Int) (w : World) (hr0 : Kd.C k126 w A0 l0.length l0) (hc0 : l0.length ≤ c0) (h : L_sightsErr.f k l0 = some r) :
  Calls Try.prog 123 #[.slice A0 l0.length c0] w fun e w' => e = .returned (.int .i64 r) ∧ Below w.heap.size w w' := by
 have hu126 := Try.underlying126
 have hu44 := Try.underlying44
 have HR0 := m0 hr0
 have HC0 := m0 hc0
 clear hr0 hc0
 have HB := m0 (Below.refl w.heap.size w)
 have H : ((L_unless.f (decide ((l0.length : Int) > 0)) 10).bind fun t204 => ((L_unless.f (decide ((l0.length : Int) ≤ 8)) 8).bind fun t205 => ((L_first.f k (([t204, t205] : List Int))).bind fun t209 => (L_sightsErr.l0 k t209 l0 (l0.length : Int) 0)))) = some r := h
 clear h
 replace H := ob H
 obtain ⟨t204, A2, H⟩ := H
 (try dsimp only at H)
 replace A2 := m0 A2
 replace H := ob H
 obtain ⟨t205, A3, H⟩ := H
 (try dsimp only at H)
 replace A3 := m0 A3
 obtain ⟨y206, hy206⟩ : ∃ y_ : List Int, y_ = (([t204, t205] : List Int)) := ⟨_, rfl⟩
 replace H : ((L_first.f k y206).bind fun t209 => (L_sightsErr.l0 k t209 l0 (l0.length : Int) 0)) = some r := by first | (rw [hy206]; with_reducible exact H) | (have H2_ := (Option.bind_some _ _).symm.trans H; rw [hy206]; with_reducible exact H2_) | (have H2_ := (Option.bind_some _ _).symm.trans H; with_reducible exact H2_) | with_reducible exact H | (rw [hy206]; exact H) | exact H
 have Ny206 := m0 hy206
 clear hy206
 replace H := ob H
 obtain ⟨t209, A4, H⟩ := H
 (try dsimp only at H)
 replace A4 := m0 A4
 have H' := m0 H
 clear H
 go_enter Try.func123, Try.ntmps123
 go_wp2_with (first | ((with_reducible refine gate_callee (f := 76) rfl ?_); refine goesL_ (some 9) rfl rfl Try.func76 (by kernel_rfl) rfl #[.bool (decide ((l0.length : Int) > 0)), .int .i64 10] rfl (by (try simp only [List.map_toArray, List.map_cons, List.map_nil]); first | done | rfl | (simp only [List.length_drop, List.length_take]; rfl) | (simp; first | done | exact ⟨rfl, rfl⟩)) ?_; (with_reducible refine (L_unless.calls (decide ((l0.length : Int) > 0)) 10 t204 _ A2.out).mono ?_); rintro e w' ⟨rfl, ⟨nd, rfl⟩⟩; refine ⟨_, rfl, ?_⟩) | ((with_reducible refine gate_callee (f := 76) rfl ?_); refine gl (some 13) Try.func76 #[.bool (decide ((l0.length : Int) ≤ 8)), .int .i64 8] ?_; (with_reducible refine (L_unless.calls (decide ((l0.length : Int) ≤ 8)) 8 t205 _ A3.out).mono ?_); rintro e w' ⟨rfl, ⟨nd, rfl⟩⟩; refine ⟨_, rfl, ?_⟩) | ((with_reducible refine gate_dst (N := 14) rfl ?_); refine Kd.R_lit (Kd.int .i64) _ 24 ?hg (N := 14) ?hd (xs := ([t204, t205] : List Int)) (inner := [.int .i64 t204, .int .i64 t205]) (ok := fun _ => True) (okp := fun _ => True) ?hr ?hp (fun _ hk => hk) trivial (Below.refl _ _) (Nat.le_refl _) (by simp) ?_; (case hd => rfl); (case hg => rfl); (case hr => first | (go_simp; done) | (go_simp; rfl)); (case hp => exact (Reps.one (show Kd.M (Kd.int .i64) _ _ _ t204 [.int .i64 t204] from rfl) (Reps.one (show Kd.M (Kd.int .i64) _ _ _ t205 [.int .i64 t205] from rfl) (Reps.none _ _)))); intro v207 w5 ho6 hb hg_ hnew_; clear hg_ hnew_; (first | rw [← Ny206.out] at ho6 | (simp only [Int.reduceToNat] at ho6; rw [← Ny206.out] at ho6)); have HO208 := m0 (Kd.R_lower ho6 (below_size bz)); replace HB := sb HB hb; clear hb ho6; obtain ⟨Ao7, co7, eo7⟩ := Kd.R_slice HO208.out; subst eo7) | ((with_reducible refine gate_callee (f := 75) rfl ?_); refine gl (some 15) Try.func75 #[.slice Ao7 y206.length co7] ?_; (with_reducible refine (L_first.calls k _ _ y206 t209 _ ?side1 ?side2 A4.out).mono ?_); (case side1 => exact bc (Kd.R_reads' HO208.out).2.2); (case side2 => exact (Kd.R_reads' HO208.out).2.1); rintro e w' ⟨rfl, ⟨nd, rfl⟩⟩; refine ⟨_, rfl, ?_⟩))
 go_loopg [3, 18] k (fun kq v3 v18 w' => ∃ (x3_1 : Int) (x18_1 : Int), v3 = .int .i64 x3_1 ∧ v18 = .int .i64 x18_1 ∧ Aside0 (L_sightsErr.l0 kq x3_1 l0 (l0.length : Int) x18_1 = some r) ∧ Aside0 (kq ≤ k) ∧ Aside0 (Below w.heap.size w w'))
 case atStart => exact ⟨(t209), (0), (by first | rfl | (simp; done) | (simp [*]; done)), (by first | rfl | (simp; done) | (simp [*]; done)), H', ⟨Nat.le_refl _⟩, ⟨bz⟩⟩
 case round =>
  clear H'
  obtain ⟨x3_1, x18_1, rfl, rfl, HA, HK1, HB⟩ := hrel
  cases gk with
  | zero => exact absurd HA.out (by simp [L_sightsErr.l0])
  | succ k1 =>
   have H := HA.out
   clear HA
   simp only [L_sightsErr.l0] at H
   by_cases c8 : x18_1 < (l0.length : Int)
   ·rw [if_pos c8] at H
    have c8b0 := decide_eq_true c8
    clear c8
    by_cases c9 : 0 ≤ x18_1
    ·rw [if_pos c9] at H
     have c9b0 := decide_eq_true c9
     clear c9
     by_cases c10 : x18_1 < (l0.length : Int)
     ·rw [if_pos c10] at H
      have c10b0 := decide_eq_true c10
      clear c10
      replace H := ob H
      obtain ⟨t212, A11, H⟩ := H
      (try dsimp only at H)
      replace A11 := m0 A11
      by_cases c12 : t212 = true
      ·subst c12
       rw [if_pos rfl] at H
       replace H := ob H
       obtain ⟨t213, A13, H⟩ := H
       (try dsimp only at H)
       replace A13 := m0 A13
       replace H := ob H
       obtain ⟨t214, A14, H⟩ := H
       (try dsimp only at H)
       replace A14 := m0 A14
       by_cases c15 : (!(((rd_T126 l0 x18_1).f0.f0) == 0) || (!(((rd_T126 l0 x18_1).f0.f1) == 0) || (!(((rd_T126 l0 x18_1).f0.f2) == 0)))) = true
       ·rw [if_pos c15] at H
        have c15b0 : (!(((rd_T126 l0 x18_1).f0.f0) == 0) || (!(((rd_T126 l0 x18_1).f0.f1) == 0) || (!(((rd_T126 l0 x18_1).f0.f2) == 0)))) = true := c15
        clear c15
        replace H := ob H
        obtain ⟨t215, A16, H⟩ := H
        (try dsimp only at H)
        replace A16 := m0 A16
        obtain ⟨y216, hy216⟩ : ∃ y_ : List Int, y_ = (([x3_1, t214, t215] : List Int)) := ⟨_, rfl⟩
        replace H : ((L_first.f k1 y216).bind fun t219 => (L_sightsErr.l0 k1 t219 l0 (l0.length : Int) (wrap64 (x18_1 + 1)))) = some r := by first | (rw [hy216]; with_reducible exact H) | (have H2_ := (Option.bind_some _ _).symm.trans H; rw [hy216]; with_reducible exact H2_) | (have H2_ := (Option.bind_some _ _).symm.trans H; with_reducible exact H2_) | with_reducible exact H | (rw [hy216]; exact H) | exact H
        have Ny216 := m0 hy216
        clear hy216
        replace H := ob H
        obtain ⟨t219, A17, H⟩ := H
        (try dsimp only at H)
        replace A17 := m0 A17
        have H' := m0 H
        clear H
        have p210 : 0 ≤ (x18_1 : Int) := od
        have q210 : x18_1 < (l0.length : Int) := od
        obtain ⟨ad210, e210, hx210_0, hx210_1, hx210_2, hx210_3, hx210_4, hx210_5⟩ := at_T126 HR0.out x18_1 p210 q210
        cases e210
        replace hx210_0 := (HB.out.cell (World.block_lt_of_cell? w _ hx210_0)).trans hx210_0
        replace hx210_1 := (HB.out.cell (World.block_lt_of_cell? w _ hx210_1)).trans hx210_1
        replace hx210_2 := (HB.out.cell (World.block_lt_of_cell? w _ hx210_2)).trans hx210_2
        replace hx210_3 := (HB.out.cell (World.block_lt_of_cell? w _ hx210_3)).trans hx210_3
        replace hx210_4 := (HB.out.cell (World.block_lt_of_cell? w _ hx210_4)).trans hx210_4
        replace hx210_5 := (HB.out.cell (World.block_lt_of_cell? w _ hx210_5)).trans hx210_5
        replace p210 := eq_true p210
        replace q210 := eq_true q210
        try go_wp2_with (first | ((with_reducible refine gate_dst (N := 5) rfl ?_); refine be 5 126 #[.int .i64 0, .int .i64 0, .int .i64 0, .int .i64 0, .int .i64 0, .int .i64 0] ?_; intro gb211 hg w18 hbox hb; have BK211 := m0 hbox; have GE211 := gw w hg; replace HB := sb HB hb; clear hb hbox hg; have hcz19_0 : w18.cell? ⟨gb211, 0, none⟩ = some (.int .i64 0) := (blk_cell BK211.out 0).trans rfl; have hcz19_1 : w18.cell? ⟨gb211, 1, none⟩ = some (.int .i64 0) := (blk_cell BK211.out 1).trans rfl; have hcz19_2 : w18.cell? ⟨gb211, 2, none⟩ = some (.int .i64 0) := (blk_cell BK211.out 2).trans rfl; have hcz19_3 : w18.cell? ⟨gb211, 3, none⟩ = some (.int .i64 0) := (blk_cell BK211.out 3).trans rfl; have hcz19_4 : w18.cell? ⟨gb211, 4, none⟩ = some (.int .i64 0) := (blk_cell BK211.out 4).trans rfl; have hcz19_5 : w18.cell? ⟨gb211, 5, none⟩ = some (.int .i64 0) := (blk_cell BK211.out 5).trans rfl; have hfz19_0 := blk_frozen BK211.out 0; have hfz19_1 := blk_frozen BK211.out 1; have hfz19_2 := blk_frozen BK211.out 2; have hfz19_3 := blk_frozen BK211.out 3; have hfz19_4 := blk_frozen BK211.out 4; have hfz19_5 := blk_frozen BK211.out 5))
        replace BK211 : Aside0 (((((((w18.setCell ⟨gb211, 0, none⟩ (.int .i64 ((rd_T126 l0 x18_1).f0.f0))).setCell ⟨gb211, 1, none⟩ (.int .i64 ((rd_T126 l0 x18_1).f0.f1))).setCell ⟨gb211, 2, none⟩ (.int .i64 ((rd_T126 l0 x18_1).f0.f2))).setCell ⟨gb211, 3, none⟩ (.int .i64 ((rd_T126 l0 x18_1).f1.f0))).setCell ⟨gb211, 4, none⟩ (.int .i64 ((rd_T126 l0 x18_1).f1.f1))).setCell ⟨gb211, 5, none⟩ (.int .i64 ((rd_T126 l0 x18_1).f1.f2))).heap[gb211]? = some (.cells #[.int .i64 ((rd_T126 l0 x18_1).f0.f0), .int .i64 ((rd_T126 l0 x18_1).f0.f1), .int .i64 ((rd_T126 l0 x18_1).f0.f2), .int .i64 ((rd_T126 l0 x18_1).f1.f0), .int .i64 ((rd_T126 l0 x18_1).f1.f1), .int .i64 ((rd_T126 l0 x18_1).f1.f2)] 126 (0, 0))) := ⟨bq BK211.out⟩
        replace HB : Aside0 (Below w.heap.size w ((((((w18.setCell ⟨gb211, 0, none⟩ (.int .i64 ((rd_T126 l0 x18_1).f0.f0))).setCell ⟨gb211, 1, none⟩ (.int .i64 ((rd_T126 l0 x18_1).f0.f1))).setCell ⟨gb211, 2, none⟩ (.int .i64 ((rd_T126 l0 x18_1).f0.f2))).setCell ⟨gb211, 3, none⟩ (.int .i64 ((rd_T126 l0 x18_1).f1.f0))).setCell ⟨gb211, 4, none⟩ (.int .i64 ((rd_T126 l0 x18_1).f1.f1))).setCell ⟨gb211, 5, none⟩ (.int .i64 ((rd_T126 l0 x18_1).f1.f2)))) := ⟨bz⟩
        generalize ((((((w18.setCell ⟨gb211, 0, none⟩ (.int .i64 ((rd_T126 l0 x18_1).f0.f0))).setCell ⟨gb211, 1, none⟩ (.int .i64 ((rd_T126 l0 x18_1).f0.f1))).setCell ⟨gb211, 2, none⟩ (.int .i64 ((rd_T126 l0 x18_1).f0.f2))).setCell ⟨gb211, 3, none⟩ (.int .i64 ((rd_T126 l0 x18_1).f1.f0))).setCell ⟨gb211, 4, none⟩ (.int .i64 ((rd_T126 l0 x18_1).f1.f1))).setCell ⟨gb211, 5, none⟩ (.int .i64 ((rd_T126 l0 x18_1).f1.f2))) = w20 at BK211 HB ⊢
        replace BK211 := bd BK211; replace HB := sd HB
        refine start_ (n := 24) (S := fun w' => w'.cell? ⟨gb211, 0, none⟩ = some (.int .i64 ((rd_T126 l0 x18_1).f0.f0)) ∧ w'.cell? ⟨gb211, 1, none⟩ = some (.int .i64 ((rd_T126 l0 x18_1).f0.f1)) ∧ w'.cell? ⟨gb211, 2, none⟩ = some (.int .i64 ((rd_T126 l0 x18_1).f0.f2)) ∧ w'.cell? ⟨gb211, 3, none⟩ = some (.int .i64 ((rd_T126 l0 x18_1).f1.f0)) ∧ w'.cell? ⟨gb211, 4, none⟩ = some (.int .i64 ((rd_T126 l0 x18_1).f1.f1)) ∧ w'.cell? ⟨gb211, 5, none⟩ = some (.int .i64 ((rd_T126 l0 x18_1).f1.f2))) (ds := []) #[false, false, false, false, false, false, false, false, false, false, false, false, false, false, false, false, false, false, false, false, false, false, false, false] (by kernel_rfl) rfl rfl cz (fun hH => ?_); refine with_tabW L_sightsErr.tab5 L_sightsErr.bits5 (fun HT_ HW_ => ?_)
        generalize w20.drew = w21 at BK211 HB hH ⊢
        refine pZ 0 (some 22) (bs 24 1) HT_ ?_
        refine pZ 1 (some 23) (bs 24 3) HT_ ?_
        refine pZ 10 (some 32) (bs 24 1027) HT_ ?_
        refine pZ 12 (some 34) (bs 24 5123) HT_ ?_
        refine takeZ 2 (some 24) (bs 24 5127) (take_ofW HT_.out HW_.out (by kernel_rfl)) hH ?_
        refine takeZ 11 (some 33) (bs 24 7175) (take_ofW HT_.out HW_.out (by kernel_rfl)) hH ?_
        refine pZ 13 (some 35) (bs 24 15367) HT_ ?_
        refine oneZ 3 (some 25) (bs 24 15375) (one_of HT_.out (by kernel_rfl)) fun K hK => ?_
        refine gz Try.func85 #[.agg #[.int .i64 ((rd_T126 l0 x18_1).f0.f0), .int .i64 ((rd_T126 l0 x18_1).f0.f1), .int .i64 ((rd_T126 l0 x18_1).f0.f2)]] ?_
        with_reducible refine (L_isDirection.calls ((rd_T126 l0 x18_1).f0.f0) ((rd_T126 l0 x18_1).f0.f1) ((rd_T126 l0 x18_1).f0.f2) true _ A11.out).mono ?_
        rintro e w22 ⟨rfl, hb⟩
        refine ⟨_, rfl, ?_⟩
        replace BK211 := bb BK211 hb; replace HB := sb HB hb
        (try clear hb)
        refine hK.out _ _ cz (fun hH => ?_)
        clear hK K
        refine norm_ (a' := ?_) ?_ ?_
        rotate_left
        ·show Act.put _ (some 25) _ = _
         exact pz
        refine pZ 4 (some 26) (bs 24 15391) HT_ ?_
        refine pZ 5 (some 27) (bs 24 15423) HT_ ?_
        refine takeZ 6 (some 28) (bs 24 15487) (take_ofW HT_.out HW_.out (by kernel_rfl)) hH ?_
        refine oneZ 7 (some 29) (bs 24 15615) (one_of HT_.out (by kernel_rfl)) fun K hK => ?_
        refine gz Try.func85 #[.agg #[.int .i64 ((rd_T126 l0 x18_1).f1.f0), .int .i64 ((rd_T126 l0 x18_1).f1.f1), .int .i64 ((rd_T126 l0 x18_1).f1.f2)]] ?_
        with_reducible refine (L_isDirection.calls ((rd_T126 l0 x18_1).f1.f0) ((rd_T126 l0 x18_1).f1.f1) ((rd_T126 l0 x18_1).f1.f2) t213 _ A13.out).mono ?_
        rintro e w23 ⟨rfl, hb⟩
        refine ⟨_, rfl, ?_⟩
        replace BK211 := bb BK211 hb; replace HB := sb HB hb
        (try clear hb)
        refine hK.out _ _ cz (fun hH => ?_)
        clear hK K
        refine norm_ (a' := ?_) ?_ ?_
        rotate_left
        ·show Act.put _ (some 29) _ = _
         exact pz
        refine pZ 8 (some 30) (bs 24 15871) HT_ ?_
        refine oneZ 9 (some 31) (bs 24 16383) (one_of HT_.out (by kernel_rfl)) fun K hK => ?_
        refine gz Try.func76 #[.bool t213, .int .i64 2] ?_
        with_reducible refine (L_unless.calls t213 2 t214 _ A14.out).mono ?_
        rintro e w' ⟨rfl, ⟨nd, rfl⟩⟩
        refine ⟨_, rfl, ?_⟩
        refine hK.out _ _ cz (fun hH => ?_)
        clear hK K
        refine norm_ (a' := ?_) ?_ ?_
        rotate_left
        ·show Act.put _ (some 31) _ = _
         exact pz
        refine pZ 14 (some 36) (bs 24 32767) HT_ ?_
        refine pZ 15 (some 37) (bs 24 65535) HT_ ?_
        refine pZ 17 (some 39) (bs 24 196607) HT_ ?_
        refine takeZ 16 (some 38) (bs 24 262143) (take_ofW HT_.out HW_.out (by kernel_rfl)) hH ?_
        refine pZ 18 (some 40) (bs 24 524287) HT_ ?_
        refine pZ 19 (some 41) (bs 24 1048575) HT_ ?_
        refine oneZ 20 (some 42) (bs 24 2097151) (one_of HT_.out (by kernel_rfl)) fun K hK => ?_
        refine gz Try.func76 #[.bool (!(((rd_T126 l0 x18_1).f1.f0) == 0) || (!(((rd_T126 l0 x18_1).f1.f1) == 0) || (!(((rd_T126 l0 x18_1).f1.f2) == 0)))), .int .i64 11] ?_
        with_reducible refine (L_unless.calls (!(((rd_T126 l0 x18_1).f1.f0) == 0) || (!(((rd_T126 l0 x18_1).f1.f1) == 0) || (!(((rd_T126 l0 x18_1).f1.f2) == 0)))) 11 t215 _ A16.out).mono ?_
        rintro e w' ⟨rfl, ⟨nd, rfl⟩⟩
        refine ⟨_, rfl, ?_⟩
        refine hK.out _ _ cz (fun hH => ?_)
        clear hK K
        refine norm_ (a' := ?_) ?_ ?_
        rotate_left
        ·show Act.put _ (some 42) _ = _
         exact pz
        refine oneZ 21 (some 43) (bs 24 4194303) (one_of HT_.out (by kernel_rfl)) fun K hK => ?_
        refine Kd.R_lit_step (Kd.int .i64) _ 24 ?hg (N := 43) ?hd (xs := ([x3_1, t214, t215] : List Int)) (inner := [.int .i64 x3_1, .int .i64 t214, .int .i64 t215]) (ok := fun _ => True) (okp := fun _ => True) ?hr ?hp (fun _ hk => hk) trivial (Below.refl _ _) (Nat.le_refl _) (by simp) ?_; (case hd => rfl); (case hg => rfl); (case hr => first | (go_simp; done) | (go_simp; rfl)); (case hp => exact (Reps.one (show Kd.M (Kd.int .i64) _ _ _ x3_1 [.int .i64 x3_1] from rfl) (Reps.one (show Kd.M (Kd.int .i64) _ _ _ t214 [.int .i64 t214] from rfl) (Reps.one (show Kd.M (Kd.int .i64) _ _ _ t215 [.int .i64 t215] from rfl) (Reps.none _ _)))))
        intro v217 w24 ho25 hb hg_ hnew_
        clear hg_ hnew_
        (first | rw [← Ny216.out] at ho25 | (simp only [Int.reduceToNat] at ho25; rw [← Ny216.out] at ho25))
        have HO218 := m0 (Kd.R_lower ho25 (below_size bz)); replace BK211 := bb BK211 hb; replace HB := sb HB hb
        clear hb ho25
        obtain ⟨Ao26, co26, eo26⟩ := Kd.R_slice HO218.out
        subst eo26
        refine hK.out _ _ cz (fun hH => ?_)
        clear hK K
        refine norm_ (a' := ?_) ?_ ?_
        rotate_left
        ·show Act.put _ (some 43) _ = _
         exact pz
        refine oneZ 22 (some 44) (bs 24 8388607) (one_of HT_.out (by kernel_rfl)) fun K hK => ?_
        refine gz Try.func75 #[.slice Ao26 y216.length co26] ?_
        with_reducible refine (L_first.calls k1 _ _ y216 t219 _ ?side1 ?side2 A17.out).mono ?_
        (case side1 => exact bc (Kd.R_reads' HO218.out).2.2)
        (case side2 => exact (Kd.R_reads' HO218.out).2.1)
        rintro e w' ⟨rfl, ⟨nd, rfl⟩⟩
        refine ⟨_, rfl, ?_⟩
        refine hK.out _ _ cz (fun hH => ?_)
        clear hK K
        refine norm_ (a' := ?_) ?_ ?_
        rotate_left
        ·show Act.put _ (some 44) _ = _
         exact pz
        refine pZ 23 (some 3) (bs 24 16777215) HT_ ?_
        refine done_ (done_of HT_.out (by kernel_rfl)) ?_
        try go_wp2
        go_roundg k1
        case measure => have := HK1.out; omega
        case rel => exact ⟨(t219), (wrap64 (x18_1 + 1)), (by first | rfl | (simp; done) | (simp [*]; done)), (by first | rfl | (simp; done) | (simp [*]; done)), H', ⟨by have := HK1.out; omega⟩, ⟨bz⟩⟩
       ·rw [if_neg c15] at H
        have c15b0 : (!(((rd_T126 l0 x18_1).f0.f0) == 0) || (!(((rd_T126 l0 x18_1).f0.f1) == 0) || (!(((rd_T126 l0 x18_1).f0.f2) == 0)))) = false := by simpa using c15
        clear c15
        replace H := ob H
        obtain ⟨t220, A27, H⟩ := H
        (try dsimp only at H)
        replace A27 := m0 A27
        obtain ⟨y221, hy221⟩ : ∃ y_ : List Int, y_ = (([x3_1, t214, t220] : List Int)) := ⟨_, rfl⟩
        replace H : ((L_first.f k1 y221).bind fun t224 => (L_sightsErr.l0 k1 t224 l0 (l0.length : Int) (wrap64 (x18_1 + 1)))) = some r := by first | (rw [hy221]; with_reducible exact H) | (have H2_ := (Option.bind_some _ _).symm.trans H; rw [hy221]; with_reducible exact H2_) | (have H2_ := (Option.bind_some _ _).symm.trans H; with_reducible exact H2_) | with_reducible exact H | (rw [hy221]; exact H) | exact H
        have Ny221 := m0 hy221
        clear hy221
        replace H := ob H
        obtain ⟨t224, A28, H⟩ := H
        (try dsimp only at H)
        replace A28 := m0 A28
        have H' := m0 H
        clear H
        have p210 : 0 ≤ (x18_1 : Int) := od
        have q210 : x18_1 < (l0.length : Int) := od
        obtain ⟨ad210, e210, hx210_0, hx210_1, hx210_2, hx210_3, hx210_4, hx210_5⟩ := at_T126 HR0.out x18_1 p210 q210
        cases e210
        replace hx210_0 := (HB.out.cell (World.block_lt_of_cell? w _ hx210_0)).trans hx210_0
        replace hx210_1 := (HB.out.cell (World.block_lt_of_cell? w _ hx210_1)).trans hx210_1
        replace hx210_2 := (HB.out.cell (World.block_lt_of_cell? w _ hx210_2)).trans hx210_2
        replace hx210_3 := (HB.out.cell (World.block_lt_of_cell? w _ hx210_3)).trans hx210_3
        replace hx210_4 := (HB.out.cell (World.block_lt_of_cell? w _ hx210_4)).trans hx210_4
        replace hx210_5 := (HB.out.cell (World.block_lt_of_cell? w _ hx210_5)).trans hx210_5
        replace p210 := eq_true p210
        replace q210 := eq_true q210
        try go_wp2_with (first | ((with_reducible refine gate_dst (N := 5) rfl ?_); refine be 5 126 #[.int .i64 0, .int .i64 0, .int .i64 0, .int .i64 0, .int .i64 0, .int .i64 0] ?_; intro gb211 hg w29 hbox hb; have BK211 := m0 hbox; have GE211 := gw w hg; replace HB := sb HB hb; clear hb hbox hg; have hcz30_0 : w29.cell? ⟨gb211, 0, none⟩ = some (.int .i64 0) := (blk_cell BK211.out 0).trans rfl; have hcz30_1 : w29.cell? ⟨gb211, 1, none⟩ = some (.int .i64 0) := (blk_cell BK211.out 1).trans rfl; have hcz30_2 : w29.cell? ⟨gb211, 2, none⟩ = some (.int .i64 0) := (blk_cell BK211.out 2).trans rfl; have hcz30_3 : w29.cell? ⟨gb211, 3, none⟩ = some (.int .i64 0) := (blk_cell BK211.out 3).trans rfl; have hcz30_4 : w29.cell? ⟨gb211, 4, none⟩ = some (.int .i64 0) := (blk_cell BK211.out 4).trans rfl; have hcz30_5 : w29.cell? ⟨gb211, 5, none⟩ = some (.int .i64 0) := (blk_cell BK211.out 5).trans rfl; have hfz30_0 := blk_frozen BK211.out 0; have hfz30_1 := blk_frozen BK211.out 1; have hfz30_2 := blk_frozen BK211.out 2; have hfz30_3 := blk_frozen BK211.out 3; have hfz30_4 := blk_frozen BK211.out 4; have hfz30_5 := blk_frozen BK211.out 5))
        replace BK211 : Aside0 (((((((w29.setCell ⟨gb211, 0, none⟩ (.int .i64 ((rd_T126 l0 x18_1).f0.f0))).setCell ⟨gb211, 1, none⟩ (.int .i64 ((rd_T126 l0 x18_1).f0.f1))).setCell ⟨gb211, 2, none⟩ (.int .i64 ((rd_T126 l0 x18_1).f0.f2))).setCell ⟨gb211, 3, none⟩ (.int .i64 ((rd_T126 l0 x18_1).f1.f0))).setCell ⟨gb211, 4, none⟩ (.int .i64 ((rd_T126 l0 x18_1).f1.f1))).setCell ⟨gb211, 5, none⟩ (.int .i64 ((rd_T126 l0 x18_1).f1.f2))).heap[gb211]? = some (.cells #[.int .i64 ((rd_T126 l0 x18_1).f0.f0), .int .i64 ((rd_T126 l0 x18_1).f0.f1), .int .i64 ((rd_T126 l0 x18_1).f0.f2), .int .i64 ((rd_T126 l0 x18_1).f1.f0), .int .i64 ((rd_T126 l0 x18_1).f1.f1), .int .i64 ((rd_T126 l0 x18_1).f1.f2)] 126 (0, 0))) := ⟨bq BK211.out⟩
        replace HB : Aside0 (Below w.heap.size w ((((((w29.setCell ⟨gb211, 0, none⟩ (.int .i64 ((rd_T126 l0 x18_1).f0.f0))).setCell ⟨gb211, 1, none⟩ (.int .i64 ((rd_T126 l0 x18_1).f0.f1))).setCell ⟨gb211, 2, none⟩ (.int .i64 ((rd_T126 l0 x18_1).f0.f2))).setCell ⟨gb211, 3, none⟩ (.int .i64 ((rd_T126 l0 x18_1).f1.f0))).setCell ⟨gb211, 4, none⟩ (.int .i64 ((rd_T126 l0 x18_1).f1.f1))).setCell ⟨gb211, 5, none⟩ (.int .i64 ((rd_T126 l0 x18_1).f1.f2)))) := ⟨bz⟩
        generalize ((((((w29.setCell ⟨gb211, 0, none⟩ (.int .i64 ((rd_T126 l0 x18_1).f0.f0))).setCell ⟨gb211, 1, none⟩ (.int .i64 ((rd_T126 l0 x18_1).f0.f1))).setCell ⟨gb211, 2, none⟩ (.int .i64 ((rd_T126 l0 x18_1).f0.f2))).setCell ⟨gb211, 3, none⟩ (.int .i64 ((rd_T126 l0 x18_1).f1.f0))).setCell ⟨gb211, 4, none⟩ (.int .i64 ((rd_T126 l0 x18_1).f1.f1))).setCell ⟨gb211, 5, none⟩ (.int .i64 ((rd_T126 l0 x18_1).f1.f2))) = w31 at BK211 HB ⊢
        replace BK211 := bd BK211; replace HB := sd HB
        refine start_ (n := 24) (S := fun w' => w'.cell? ⟨gb211, 0, none⟩ = some (.int .i64 ((rd_T126 l0 x18_1).f0.f0)) ∧ w'.cell? ⟨gb211, 1, none⟩ = some (.int .i64 ((rd_T126 l0 x18_1).f0.f1)) ∧ w'.cell? ⟨gb211, 2, none⟩ = some (.int .i64 ((rd_T126 l0 x18_1).f0.f2)) ∧ w'.cell? ⟨gb211, 3, none⟩ = some (.int .i64 ((rd_T126 l0 x18_1).f1.f0)) ∧ w'.cell? ⟨gb211, 4, none⟩ = some (.int .i64 ((rd_T126 l0 x18_1).f1.f1)) ∧ w'.cell? ⟨gb211, 5, none⟩ = some (.int .i64 ((rd_T126 l0 x18_1).f1.f2))) (ds := []) #[false, false, false, false, false, false, false, false, false, false, false, false, false, false, false, false, false, false, false, false, false, false, false, false] (by kernel_rfl) rfl rfl cz (fun hH => ?_); refine with_tabW L_sightsErr.tab5 L_sightsErr.bits5 (fun HT_ HW_ => ?_)
        generalize w31.drew = w32 at BK211 HB hH ⊢
        refine pZ 0 (some 22) (bs 24 1) HT_ ?_
        refine pZ 1 (some 23) (bs 24 3) HT_ ?_
        refine pZ 10 (some 32) (bs 24 1027) HT_ ?_
        refine pZ 12 (some 34) (bs 24 5123) HT_ ?_
        refine takeZ 2 (some 24) (bs 24 5127) (take_ofW HT_.out HW_.out (by kernel_rfl)) hH ?_
        refine takeZ 11 (some 33) (bs 24 7175) (take_ofW HT_.out HW_.out (by kernel_rfl)) hH ?_
        refine pZ 13 (some 35) (bs 24 15367) HT_ ?_
        refine oneZ 3 (some 25) (bs 24 15375) (one_of HT_.out (by kernel_rfl)) fun K hK => ?_
        refine gz Try.func85 #[.agg #[.int .i64 ((rd_T126 l0 x18_1).f0.f0), .int .i64 ((rd_T126 l0 x18_1).f0.f1), .int .i64 ((rd_T126 l0 x18_1).f0.f2)]] ?_
        with_reducible refine (L_isDirection.calls ((rd_T126 l0 x18_1).f0.f0) ((rd_T126 l0 x18_1).f0.f1) ((rd_T126 l0 x18_1).f0.f2) true _ A11.out).mono ?_
        rintro e w33 ⟨rfl, hb⟩
        refine ⟨_, rfl, ?_⟩
        replace BK211 := bb BK211 hb; replace HB := sb HB hb
        (try clear hb)
        refine hK.out _ _ cz (fun hH => ?_)
        clear hK K
        refine norm_ (a' := ?_) ?_ ?_
        rotate_left
        ·show Act.put _ (some 25) _ = _
         exact pz
        refine pZ 4 (some 26) (bs 24 15391) HT_ ?_
        refine pZ 5 (some 27) (bs 24 15423) HT_ ?_
        refine takeZ 6 (some 28) (bs 24 15487) (take_ofW HT_.out HW_.out (by kernel_rfl)) hH ?_
        refine oneZ 7 (some 29) (bs 24 15615) (one_of HT_.out (by kernel_rfl)) fun K hK => ?_
        refine gz Try.func85 #[.agg #[.int .i64 ((rd_T126 l0 x18_1).f1.f0), .int .i64 ((rd_T126 l0 x18_1).f1.f1), .int .i64 ((rd_T126 l0 x18_1).f1.f2)]] ?_
        with_reducible refine (L_isDirection.calls ((rd_T126 l0 x18_1).f1.f0) ((rd_T126 l0 x18_1).f1.f1) ((rd_T126 l0 x18_1).f1.f2) t213 _ A13.out).mono ?_
        rintro e w34 ⟨rfl, hb⟩
        refine ⟨_, rfl, ?_⟩
        replace BK211 := bb BK211 hb; replace HB := sb HB hb
        (try clear hb)
        refine hK.out _ _ cz (fun hH => ?_)
        clear hK K
        refine norm_ (a' := ?_) ?_ ?_
        rotate_left
        ·show Act.put _ (some 29) _ = _
         exact pz
        refine pZ 8 (some 30) (bs 24 15871) HT_ ?_
        refine oneZ 9 (some 31) (bs 24 16383) (one_of HT_.out (by kernel_rfl)) fun K hK => ?_
        refine gz Try.func76 #[.bool t213, .int .i64 2] ?_
        with_reducible refine (L_unless.calls t213 2 t214 _ A14.out).mono ?_
        rintro e w' ⟨rfl, ⟨nd, rfl⟩⟩
        refine ⟨_, rfl, ?_⟩
        refine hK.out _ _ cz (fun hH => ?_)
        clear hK K
        refine norm_ (a' := ?_) ?_ ?_
        rotate_left
        ·show Act.put _ (some 31) _ = _
         exact pz
        refine pZ 14 (some 36) (bs 24 32767) HT_ ?_
        refine pure_ (i := 15) (N := some 37) (v := undef) (a' := ?_) (bs 24 65535) rfl rfl (any_of HT_.out (by kernel_rfl)) (fun _ _ _ h => h) (Or.inr ⟨by rfl, rfl⟩) ?_ ?_
        rotate_left
        ·exact pz
        refine pure_ (i := 16) (N := some 38) (v := undef) (a' := ?_) (bs 24 131071) rfl rfl (any_of HT_.out (by kernel_rfl)) (fun _ _ _ h => h) (Or.inr ⟨by rfl, rfl⟩) ?_ ?_
        rotate_left
        ·exact pz
        refine pure_ (i := 17) (N := some 39) (v := undef) (a' := ?_) (bs 24 262143) rfl rfl (any_of HT_.out (by kernel_rfl)) (fun _ _ _ h => h) (Or.inr ⟨by rfl, rfl⟩) ?_ ?_
        rotate_left
        ·exact pz
        refine pure_ (i := 18) (N := some 40) (v := undef) (a' := ?_) (bs 24 524287) rfl rfl (any_of HT_.out (by kernel_rfl)) (fun _ _ _ h => h) (Or.inr ⟨by rfl, rfl⟩) ?_ ?_
        rotate_left
        ·exact pz
        refine pZ 19 (some 41) (bs 24 1048575) HT_ ?_
        refine oneZ 20 (some 42) (bs 24 2097151) (one_of HT_.out (by kernel_rfl)) fun K hK => ?_
        refine gz Try.func76 #[.bool false, .int .i64 11] ?_
        with_reducible refine (L_unless.calls false 11 t220 _ A27.out).mono ?_
        rintro e w' ⟨rfl, ⟨nd, rfl⟩⟩
        refine ⟨_, rfl, ?_⟩
        refine hK.out _ _ cz (fun hH => ?_)
        clear hK K
        refine norm_ (a' := ?_) ?_ ?_
        rotate_left
        ·show Act.put _ (some 42) _ = _
         exact pz
        refine oneZ 21 (some 43) (bs 24 4194303) (one_of HT_.out (by kernel_rfl)) fun K hK => ?_
        refine Kd.R_lit_step (Kd.int .i64) _ 24 ?hg (N := 43) ?hd (xs := ([x3_1, t214, t220] : List Int)) (inner := [.int .i64 x3_1, .int .i64 t214, .int .i64 t220]) (ok := fun _ => True) (okp := fun _ => True) ?hr ?hp (fun _ hk => hk) trivial (Below.refl _ _) (Nat.le_refl _) (by simp) ?_; (case hd => rfl); (case hg => rfl); (case hr => first | (go_simp; done) | (go_simp; rfl)); (case hp => exact (Reps.one (show Kd.M (Kd.int .i64) _ _ _ x3_1 [.int .i64 x3_1] from rfl) (Reps.one (show Kd.M (Kd.int .i64) _ _ _ t214 [.int .i64 t214] from rfl) (Reps.one (show Kd.M (Kd.int .i64) _ _ _ t220 [.int .i64 t220] from rfl) (Reps.none _ _)))))
        intro v222 w35 ho36 hb hg_ hnew_
        clear hg_ hnew_
        (first | rw [← Ny221.out] at ho36 | (simp only [Int.reduceToNat] at ho36; rw [← Ny221.out] at ho36))
        have HO223 := m0 (Kd.R_lower ho36 (below_size bz)); replace BK211 := bb BK211 hb; replace HB := sb HB hb
        clear hb ho36
        obtain ⟨Ao37, co37, eo37⟩ := Kd.R_slice HO223.out
        subst eo37
        refine hK.out _ _ cz (fun hH => ?_)
        clear hK K
        refine norm_ (a' := ?_) ?_ ?_
        rotate_left
        ·show Act.put _ (some 43) _ = _
         exact pz
        refine oneZ 22 (some 44) (bs 24 8388607) (one_of HT_.out (by kernel_rfl)) fun K hK => ?_
        refine gz Try.func75 #[.slice Ao37 y221.length co37] ?_
        with_reducible refine (L_first.calls k1 _ _ y221 t224 _ ?side1 ?side2 A28.out).mono ?_
        (case side1 => exact bc (Kd.R_reads' HO223.out).2.2)
        (case side2 => exact (Kd.R_reads' HO223.out).2.1)
        rintro e w' ⟨rfl, ⟨nd, rfl⟩⟩
        refine ⟨_, rfl, ?_⟩
        refine hK.out _ _ cz (fun hH => ?_)
        clear hK K
        refine norm_ (a' := ?_) ?_ ?_
        rotate_left
        ·show Act.put _ (some 44) _ = _
         exact pz
        refine pZ 23 (some 3) (bs 24 16777215) HT_ ?_
        refine done_ (done_of HT_.out (by kernel_rfl)) ?_
        try go_wp2
        go_roundg k1
        case measure => have := HK1.out; omega
        case rel => exact ⟨(t224), (wrap64 (x18_1 + 1)), (by first | rfl | (simp; done) | (simp [*]; done)), (by first | rfl | (simp; done) | (simp [*]; done)), H', ⟨by have := HK1.out; omega⟩, ⟨bz⟩⟩
      ·replace c12 := Bool.eq_false_iff.mpr c12
       subst c12
       rw [if_neg (show ¬ (false = true) by decide)] at H
       replace H := ob H
       obtain ⟨t225, A38, H⟩ := H
       (try dsimp only at H)
       replace A38 := m0 A38
       by_cases c39 : (!(((rd_T126 l0 x18_1).f0.f0) == 0) || (!(((rd_T126 l0 x18_1).f0.f1) == 0) || (!(((rd_T126 l0 x18_1).f0.f2) == 0)))) = true
       ·rw [if_pos c39] at H
        have c39b0 : (!(((rd_T126 l0 x18_1).f0.f0) == 0) || (!(((rd_T126 l0 x18_1).f0.f1) == 0) || (!(((rd_T126 l0 x18_1).f0.f2) == 0)))) = true := c39
        clear c39
        replace H := ob H
        obtain ⟨t226, A40, H⟩ := H
        (try dsimp only at H)
        replace A40 := m0 A40
        obtain ⟨y227, hy227⟩ : ∃ y_ : List Int, y_ = (([x3_1, t225, t226] : List Int)) := ⟨_, rfl⟩
        replace H : ((L_first.f k1 y227).bind fun t230 => (L_sightsErr.l0 k1 t230 l0 (l0.length : Int) (wrap64 (x18_1 + 1)))) = some r := by first | (rw [hy227]; with_reducible exact H) | (have H2_ := (Option.bind_some _ _).symm.trans H; rw [hy227]; with_reducible exact H2_) | (have H2_ := (Option.bind_some _ _).symm.trans H; with_reducible exact H2_) | with_reducible exact H | (rw [hy227]; exact H) | exact H
        have Ny227 := m0 hy227
        clear hy227
        replace H := ob H
        obtain ⟨t230, A41, H⟩ := H
        (try dsimp only at H)
        replace A41 := m0 A41
        have H' := m0 H
        clear H
        have p210 : 0 ≤ (x18_1 : Int) := od
        have q210 : x18_1 < (l0.length : Int) := od
        obtain ⟨ad210, e210, hx210_0, hx210_1, hx210_2, hx210_3, hx210_4, hx210_5⟩ := at_T126 HR0.out x18_1 p210 q210
        cases e210
        replace hx210_0 := (HB.out.cell (World.block_lt_of_cell? w _ hx210_0)).trans hx210_0
        replace hx210_1 := (HB.out.cell (World.block_lt_of_cell? w _ hx210_1)).trans hx210_1
        replace hx210_2 := (HB.out.cell (World.block_lt_of_cell? w _ hx210_2)).trans hx210_2
        replace hx210_3 := (HB.out.cell (World.block_lt_of_cell? w _ hx210_3)).trans hx210_3
        replace hx210_4 := (HB.out.cell (World.block_lt_of_cell? w _ hx210_4)).trans hx210_4
        replace hx210_5 := (HB.out.cell (World.block_lt_of_cell? w _ hx210_5)).trans hx210_5
        replace p210 := eq_true p210
        replace q210 := eq_true q210
        try go_wp2_with (first | ((with_reducible refine gate_dst (N := 5) rfl ?_); refine be 5 126 #[.int .i64 0, .int .i64 0, .int .i64 0, .int .i64 0, .int .i64 0, .int .i64 0] ?_; intro gb211 hg w42 hbox hb; have BK211 := m0 hbox; have GE211 := gw w hg; replace HB := sb HB hb; clear hb hbox hg; have hcz43_0 : w42.cell? ⟨gb211, 0, none⟩ = some (.int .i64 0) := (blk_cell BK211.out 0).trans rfl; have hcz43_1 : w42.cell? ⟨gb211, 1, none⟩ = some (.int .i64 0) := (blk_cell BK211.out 1).trans rfl; have hcz43_2 : w42.cell? ⟨gb211, 2, none⟩ = some (.int .i64 0) := (blk_cell BK211.out 2).trans rfl; have hcz43_3 : w42.cell? ⟨gb211, 3, none⟩ = some (.int .i64 0) := (blk_cell BK211.out 3).trans rfl; have hcz43_4 : w42.cell? ⟨gb211, 4, none⟩ = some (.int .i64 0) := (blk_cell BK211.out 4).trans rfl; have hcz43_5 : w42.cell? ⟨gb211, 5, none⟩ = some (.int .i64 0) := (blk_cell BK211.out 5).trans rfl; have hfz43_0 := blk_frozen BK211.out 0; have hfz43_1 := blk_frozen BK211.out 1; have hfz43_2 := blk_frozen BK211.out 2; have hfz43_3 := blk_frozen BK211.out 3; have hfz43_4 := blk_frozen BK211.out 4; have hfz43_5 := blk_frozen BK211.out 5))
        replace BK211 : Aside0 (((((((w42.setCell ⟨gb211, 0, none⟩ (.int .i64 ((rd_T126 l0 x18_1).f0.f0))).setCell ⟨gb211, 1, none⟩ (.int .i64 ((rd_T126 l0 x18_1).f0.f1))).setCell ⟨gb211, 2, none⟩ (.int .i64 ((rd_T126 l0 x18_1).f0.f2))).setCell ⟨gb211, 3, none⟩ (.int .i64 ((rd_T126 l0 x18_1).f1.f0))).setCell ⟨gb211, 4, none⟩ (.int .i64 ((rd_T126 l0 x18_1).f1.f1))).setCell ⟨gb211, 5, none⟩ (.int .i64 ((rd_T126 l0 x18_1).f1.f2))).heap[gb211]? = some (.cells #[.int .i64 ((rd_T126 l0 x18_1).f0.f0), .int .i64 ((rd_T126 l0 x18_1).f0.f1), .int .i64 ((rd_T126 l0 x18_1).f0.f2), .int .i64 ((rd_T126 l0 x18_1).f1.f0), .int .i64 ((rd_T126 l0 x18_1).f1.f1), .int .i64 ((rd_T126 l0 x18_1).f1.f2)] 126 (0, 0))) := ⟨bq BK211.out⟩
        replace HB : Aside0 (Below w.heap.size w ((((((w42.setCell ⟨gb211, 0, none⟩ (.int .i64 ((rd_T126 l0 x18_1).f0.f0))).setCell ⟨gb211, 1, none⟩ (.int .i64 ((rd_T126 l0 x18_1).f0.f1))).setCell ⟨gb211, 2, none⟩ (.int .i64 ((rd_T126 l0 x18_1).f0.f2))).setCell ⟨gb211, 3, none⟩ (.int .i64 ((rd_T126 l0 x18_1).f1.f0))).setCell ⟨gb211, 4, none⟩ (.int .i64 ((rd_T126 l0 x18_1).f1.f1))).setCell ⟨gb211, 5, none⟩ (.int .i64 ((rd_T126 l0 x18_1).f1.f2)))) := ⟨bz⟩
        generalize ((((((w42.setCell ⟨gb211, 0, none⟩ (.int .i64 ((rd_T126 l0 x18_1).f0.f0))).setCell ⟨gb211, 1, none⟩ (.int .i64 ((rd_T126 l0 x18_1).f0.f1))).setCell ⟨gb211, 2, none⟩ (.int .i64 ((rd_T126 l0 x18_1).f0.f2))).setCell ⟨gb211, 3, none⟩ (.int .i64 ((rd_T126 l0 x18_1).f1.f0))).setCell ⟨gb211, 4, none⟩ (.int .i64 ((rd_T126 l0 x18_1).f1.f1))).setCell ⟨gb211, 5, none⟩ (.int .i64 ((rd_T126 l0 x18_1).f1.f2))) = w44 at BK211 HB ⊢
        replace BK211 := bd BK211; replace HB := sd HB
        refine start_ (n := 24) (S := fun w' => w'.cell? ⟨gb211, 0, none⟩ = some (.int .i64 ((rd_T126 l0 x18_1).f0.f0)) ∧ w'.cell? ⟨gb211, 1, none⟩ = some (.int .i64 ((rd_T126 l0 x18_1).f0.f1)) ∧ w'.cell? ⟨gb211, 2, none⟩ = some (.int .i64 ((rd_T126 l0 x18_1).f0.f2)) ∧ w'.cell? ⟨gb211, 3, none⟩ = some (.int .i64 ((rd_T126 l0 x18_1).f1.f0)) ∧ w'.cell? ⟨gb211, 4, none⟩ = some (.int .i64 ((rd_T126 l0 x18_1).f1.f1)) ∧ w'.cell? ⟨gb211, 5, none⟩ = some (.int .i64 ((rd_T126 l0 x18_1).f1.f2))) (ds := []) #[false, false, false, false, false, false, false, false, false, false, false, false, false, false, false, false, false, false, false, false, false, false, false, false] (by kernel_rfl) rfl rfl cz (fun hH => ?_); refine with_tabW L_sightsErr.tab5 L_sightsErr.bits5 (fun HT_ HW_ => ?_)
        generalize w44.drew = w45 at BK211 HB hH ⊢
        refine pZ 0 (some 22) (bs 24 1) HT_ ?_
        refine pZ 1 (some 23) (bs 24 3) HT_ ?_
        refine pZ 10 (some 32) (bs 24 1027) HT_ ?_
        refine pZ 12 (some 34) (bs 24 5123) HT_ ?_
        refine takeZ 2 (some 24) (bs 24 5127) (take_ofW HT_.out HW_.out (by kernel_rfl)) hH ?_
        refine takeZ 11 (some 33) (bs 24 7175) (take_ofW HT_.out HW_.out (by kernel_rfl)) hH ?_
        refine pZ 13 (some 35) (bs 24 15367) HT_ ?_
        refine oneZ 3 (some 25) (bs 24 15375) (one_of HT_.out (by kernel_rfl)) fun K hK => ?_
        refine gz Try.func85 #[.agg #[.int .i64 ((rd_T126 l0 x18_1).f0.f0), .int .i64 ((rd_T126 l0 x18_1).f0.f1), .int .i64 ((rd_T126 l0 x18_1).f0.f2)]] ?_
        with_reducible refine (L_isDirection.calls ((rd_T126 l0 x18_1).f0.f0) ((rd_T126 l0 x18_1).f0.f1) ((rd_T126 l0 x18_1).f0.f2) false _ A11.out).mono ?_
        rintro e w46 ⟨rfl, hb⟩
        refine ⟨_, rfl, ?_⟩
        replace BK211 := bb BK211 hb; replace HB := sb HB hb
        (try clear hb)
        refine hK.out _ _ cz (fun hH => ?_)
        clear hK K
        refine norm_ (a' := ?_) ?_ ?_
        rotate_left
        ·show Act.put _ (some 25) _ = _
         exact pz
        refine pZ 4 (some 26) (bs 24 15391) HT_ ?_
        refine pure_ (i := 5) (N := some 27) (v := undef) (a' := ?_) (bs 24 15423) rfl rfl (any_of HT_.out (by kernel_rfl)) (fun _ _ _ h => h) (Or.inr ⟨by rfl, rfl⟩) ?_ ?_
        rotate_left
        ·exact pz
        refine pure_ (i := 6) (N := some 28) (v := undef) (a' := ?_) (bs 24 15487) rfl rfl (any_of HT_.out (by kernel_rfl)) (fun _ _ _ h => h) (Or.inr ⟨by rfl, rfl⟩) ?_ ?_
        rotate_left
        ·exact pz
        refine pure_ (i := 7) (N := some 29) (v := undef) (a' := ?_) (bs 24 15615) rfl rfl (any_of HT_.out (by kernel_rfl)) (fun _ _ _ h => h) (Or.inr ⟨by rfl, rfl⟩) ?_ ?_
        rotate_left
        ·exact pz
        refine pZ 8 (some 30) (bs 24 15871) HT_ ?_
        refine oneZ 9 (some 31) (bs 24 16383) (one_of HT_.out (by kernel_rfl)) fun K hK => ?_
        refine gz Try.func76 #[.bool false, .int .i64 2] ?_
        with_reducible refine (L_unless.calls false 2 t225 _ A38.out).mono ?_
        rintro e w' ⟨rfl, ⟨nd, rfl⟩⟩
        refine ⟨_, rfl, ?_⟩
        refine hK.out _ _ cz (fun hH => ?_)
        clear hK K
        refine norm_ (a' := ?_) ?_ ?_
        rotate_left
        ·show Act.put _ (some 31) _ = _
         exact pz
        refine pZ 14 (some 36) (bs 24 32767) HT_ ?_
        refine pZ 15 (some 37) (bs 24 65535) HT_ ?_
        refine pZ 17 (some 39) (bs 24 196607) HT_ ?_
        refine takeZ 16 (some 38) (bs 24 262143) (take_ofW HT_.out HW_.out (by kernel_rfl)) hH ?_
        refine pZ 18 (some 40) (bs 24 524287) HT_ ?_
        refine pZ 19 (some 41) (bs 24 1048575) HT_ ?_
        refine oneZ 20 (some 42) (bs 24 2097151) (one_of HT_.out (by kernel_rfl)) fun K hK => ?_
        refine gz Try.func76 #[.bool (!(((rd_T126 l0 x18_1).f1.f0) == 0) || (!(((rd_T126 l0 x18_1).f1.f1) == 0) || (!(((rd_T126 l0 x18_1).f1.f2) == 0)))), .int .i64 11] ?_
        with_reducible refine (L_unless.calls (!(((rd_T126 l0 x18_1).f1.f0) == 0) || (!(((rd_T126 l0 x18_1).f1.f1) == 0) || (!(((rd_T126 l0 x18_1).f1.f2) == 0)))) 11 t226 _ A40.out).mono ?_
        rintro e w' ⟨rfl, ⟨nd, rfl⟩⟩
        refine ⟨_, rfl, ?_⟩
        refine hK.out _ _ cz (fun hH => ?_)
        clear hK K
        refine norm_ (a' := ?_) ?_ ?_
        rotate_left
        ·show Act.put _ (some 42) _ = _
         exact pz
        refine oneZ 21 (some 43) (bs 24 4194303) (one_of HT_.out (by kernel_rfl)) fun K hK => ?_
        refine Kd.R_lit_step (Kd.int .i64) _ 24 ?hg (N := 43) ?hd (xs := ([x3_1, t225, t226] : List Int)) (inner := [.int .i64 x3_1, .int .i64 t225, .int .i64 t226]) (ok := fun _ => True) (okp := fun _ => True) ?hr ?hp (fun _ hk => hk) trivial (Below.refl _ _) (Nat.le_refl _) (by simp) ?_; (case hd => rfl); (case hg => rfl); (case hr => first | (go_simp; done) | (go_simp; rfl)); (case hp => exact (Reps.one (show Kd.M (Kd.int .i64) _ _ _ x3_1 [.int .i64 x3_1] from rfl) (Reps.one (show Kd.M (Kd.int .i64) _ _ _ t225 [.int .i64 t225] from rfl) (Reps.one (show Kd.M (Kd.int .i64) _ _ _ t226 [.int .i64 t226] from rfl) (Reps.none _ _)))))
        intro v228 w47 ho48 hb hg_ hnew_
        clear hg_ hnew_
        (first | rw [← Ny227.out] at ho48 | (simp only [Int.reduceToNat] at ho48; rw [← Ny227.out] at ho48))
        have HO229 := m0 (Kd.R_lower ho48 (below_size bz)); replace BK211 := bb BK211 hb; replace HB := sb HB hb
        clear hb ho48
        obtain ⟨Ao49, co49, eo49⟩ := Kd.R_slice HO229.out
        subst eo49
        refine hK.out _ _ cz (fun hH => ?_)
        clear hK K
        refine norm_ (a' := ?_) ?_ ?_
        rotate_left
        ·show Act.put _ (some 43) _ = _
         exact pz
        refine oneZ 22 (some 44) (bs 24 8388607) (one_of HT_.out (by kernel_rfl)) fun K hK => ?_
        refine gz Try.func75 #[.slice Ao49 y227.length co49] ?_
        with_reducible refine (L_first.calls k1 _ _ y227 t230 _ ?side1 ?side2 A41.out).mono ?_
        (case side1 => exact bc (Kd.R_reads' HO229.out).2.2)
        (case side2 => exact (Kd.R_reads' HO229.out).2.1)
        rintro e w' ⟨rfl, ⟨nd, rfl⟩⟩
        refine ⟨_, rfl, ?_⟩
        refine hK.out _ _ cz (fun hH => ?_)
        clear hK K
        refine norm_ (a' := ?_) ?_ ?_
        rotate_left
        ·show Act.put _ (some 44) _ = _
         exact pz
        refine pZ 23 (some 3) (bs 24 16777215) HT_ ?_
        refine done_ (done_of HT_.out (by kernel_rfl)) ?_
        try go_wp2
        go_roundg k1
        case measure => have := HK1.out; omega
        case rel => exact ⟨(t230), (wrap64 (x18_1 + 1)), (by first | rfl | (simp; done) | (simp [*]; done)), (by first | rfl | (simp; done) | (simp [*]; done)), H', ⟨by have := HK1.out; omega⟩, ⟨bz⟩⟩
       ·rw [if_neg c39] at H
        have c39b0 : (!(((rd_T126 l0 x18_1).f0.f0) == 0) || (!(((rd_T126 l0 x18_1).f0.f1) == 0) || (!(((rd_T126 l0 x18_1).f0.f2) == 0)))) = false := by simpa using c39
        clear c39
        replace H := ob H
        obtain ⟨t231, A50, H⟩ := H
        (try dsimp only at H)
        replace A50 := m0 A50
        obtain ⟨y232, hy232⟩ : ∃ y_ : List Int, y_ = (([x3_1, t225, t231] : List Int)) := ⟨_, rfl⟩
        replace H : ((L_first.f k1 y232).bind fun t235 => (L_sightsErr.l0 k1 t235 l0 (l0.length : Int) (wrap64 (x18_1 + 1)))) = some r := by first | (rw [hy232]; with_reducible exact H) | (have H2_ := (Option.bind_some _ _).symm.trans H; rw [hy232]; with_reducible exact H2_) | (have H2_ := (Option.bind_some _ _).symm.trans H; with_reducible exact H2_) | with_reducible exact H | (rw [hy232]; exact H) | exact H
        have Ny232 := m0 hy232
        clear hy232
        replace H := ob H
        obtain ⟨t235, A51, H⟩ := H
        (try dsimp only at H)
        replace A51 := m0 A51
        have H' := m0 H
        clear H
        have p210 : 0 ≤ (x18_1 : Int) := od
        have q210 : x18_1 < (l0.length : Int) := od
        obtain ⟨ad210, e210, hx210_0, hx210_1, hx210_2, hx210_3, hx210_4, hx210_5⟩ := at_T126 HR0.out x18_1 p210 q210
        cases e210
        replace hx210_0 := (HB.out.cell (World.block_lt_of_cell? w _ hx210_0)).trans hx210_0
        replace hx210_1 := (HB.out.cell (World.block_lt_of_cell? w _ hx210_1)).trans hx210_1
        replace hx210_2 := (HB.out.cell (World.block_lt_of_cell? w _ hx210_2)).trans hx210_2
        replace hx210_3 := (HB.out.cell (World.block_lt_of_cell? w _ hx210_3)).trans hx210_3
        replace hx210_4 := (HB.out.cell (World.block_lt_of_cell? w _ hx210_4)).trans hx210_4
        replace hx210_5 := (HB.out.cell (World.block_lt_of_cell? w _ hx210_5)).trans hx210_5
        replace p210 := eq_true p210
        replace q210 := eq_true q210
        try go_wp2_with (first | ((with_reducible refine gate_dst (N := 5) rfl ?_); refine be 5 126 #[.int .i64 0, .int .i64 0, .int .i64 0, .int .i64 0, .int .i64 0, .int .i64 0] ?_; intro gb211 hg w52 hbox hb; have BK211 := m0 hbox; have GE211 := gw w hg; replace HB := sb HB hb; clear hb hbox hg; have hcz53_0 : w52.cell? ⟨gb211, 0, none⟩ = some (.int .i64 0) := (blk_cell BK211.out 0).trans rfl; have hcz53_1 : w52.cell? ⟨gb211, 1, none⟩ = some (.int .i64 0) := (blk_cell BK211.out 1).trans rfl; have hcz53_2 : w52.cell? ⟨gb211, 2, none⟩ = some (.int .i64 0) := (blk_cell BK211.out 2).trans rfl; have hcz53_3 : w52.cell? ⟨gb211, 3, none⟩ = some (.int .i64 0) := (blk_cell BK211.out 3).trans rfl; have hcz53_4 : w52.cell? ⟨gb211, 4, none⟩ = some (.int .i64 0) := (blk_cell BK211.out 4).trans rfl; have hcz53_5 : w52.cell? ⟨gb211, 5, none⟩ = some (.int .i64 0) := (blk_cell BK211.out 5).trans rfl; have hfz53_0 := blk_frozen BK211.out 0; have hfz53_1 := blk_frozen BK211.out 1; have hfz53_2 := blk_frozen BK211.out 2; have hfz53_3 := blk_frozen BK211.out 3; have hfz53_4 := blk_frozen BK211.out 4; have hfz53_5 := blk_frozen BK211.out 5))
        replace BK211 : Aside0 (((((((w52.setCell ⟨gb211, 0, none⟩ (.int .i64 ((rd_T126 l0 x18_1).f0.f0))).setCell ⟨gb211, 1, none⟩ (.int .i64 ((rd_T126 l0 x18_1).f0.f1))).setCell ⟨gb211, 2, none⟩ (.int .i64 ((rd_T126 l0 x18_1).f0.f2))).setCell ⟨gb211, 3, none⟩ (.int .i64 ((rd_T126 l0 x18_1).f1.f0))).setCell ⟨gb211, 4, none⟩ (.int .i64 ((rd_T126 l0 x18_1).f1.f1))).setCell ⟨gb211, 5, none⟩ (.int .i64 ((rd_T126 l0 x18_1).f1.f2))).heap[gb211]? = some (.cells #[.int .i64 ((rd_T126 l0 x18_1).f0.f0), .int .i64 ((rd_T126 l0 x18_1).f0.f1), .int .i64 ((rd_T126 l0 x18_1).f0.f2), .int .i64 ((rd_T126 l0 x18_1).f1.f0), .int .i64 ((rd_T126 l0 x18_1).f1.f1), .int .i64 ((rd_T126 l0 x18_1).f1.f2)] 126 (0, 0))) := ⟨bq BK211.out⟩
        replace HB : Aside0 (Below w.heap.size w ((((((w52.setCell ⟨gb211, 0, none⟩ (.int .i64 ((rd_T126 l0 x18_1).f0.f0))).setCell ⟨gb211, 1, none⟩ (.int .i64 ((rd_T126 l0 x18_1).f0.f1))).setCell ⟨gb211, 2, none⟩ (.int .i64 ((rd_T126 l0 x18_1).f0.f2))).setCell ⟨gb211, 3, none⟩ (.int .i64 ((rd_T126 l0 x18_1).f1.f0))).setCell ⟨gb211, 4, none⟩ (.int .i64 ((rd_T126 l0 x18_1).f1.f1))).setCell ⟨gb211, 5, none⟩ (.int .i64 ((rd_T126 l0 x18_1).f1.f2)))) := ⟨bz⟩
        generalize ((((((w52.setCell ⟨gb211, 0, none⟩ (.int .i64 ((rd_T126 l0 x18_1).f0.f0))).setCell ⟨gb211, 1, none⟩ (.int .i64 ((rd_T126 l0 x18_1).f0.f1))).setCell ⟨gb211, 2, none⟩ (.int .i64 ((rd_T126 l0 x18_1).f0.f2))).setCell ⟨gb211, 3, none⟩ (.int .i64 ((rd_T126 l0 x18_1).f1.f0))).setCell ⟨gb211, 4, none⟩ (.int .i64 ((rd_T126 l0 x18_1).f1.f1))).setCell ⟨gb211, 5, none⟩ (.int .i64 ((rd_T126 l0 x18_1).f1.f2))) = w54 at BK211 HB ⊢
        replace BK211 := bd BK211; replace HB := sd HB
        refine start_ (n := 24) (S := fun w' => w'.cell? ⟨gb211, 0, none⟩ = some (.int .i64 ((rd_T126 l0 x18_1).f0.f0)) ∧ w'.cell? ⟨gb211, 1, none⟩ = some (.int .i64 ((rd_T126 l0 x18_1).f0.f1)) ∧ w'.cell? ⟨gb211, 2, none⟩ = some (.int .i64 ((rd_T126 l0 x18_1).f0.f2)) ∧ w'.cell? ⟨gb211, 3, none⟩ = some (.int .i64 ((rd_T126 l0 x18_1).f1.f0)) ∧ w'.cell? ⟨gb211, 4, none⟩ = some (.int .i64 ((rd_T126 l0 x18_1).f1.f1)) ∧ w'.cell? ⟨gb211, 5, none⟩ = some (.int .i64 ((rd_T126 l0 x18_1).f1.f2))) (ds := []) #[false, false, false, false, false, false, false, false, false, false, false, false, false, false, false, false, false, false, false, false, false, false, false, false] (by kernel_rfl) rfl rfl cz (fun hH => ?_); refine with_tabW L_sightsErr.tab5 L_sightsErr.bits5 (fun HT_ HW_ => ?_)
        generalize w54.drew = w55 at BK211 HB hH ⊢
        refine pZ 0 (some 22) (bs 24 1) HT_ ?_
        refine pZ 1 (some 23) (bs 24 3) HT_ ?_
        refine pZ 10 (some 32) (bs 24 1027) HT_ ?_
        refine pZ 12 (some 34) (bs 24 5123) HT_ ?_
        refine takeZ 2 (some 24) (bs 24 5127) (take_ofW HT_.out HW_.out (by kernel_rfl)) hH ?_
        refine takeZ 11 (some 33) (bs 24 7175) (take_ofW HT_.out HW_.out (by kernel_rfl)) hH ?_
        refine pZ 13 (some 35) (bs 24 15367) HT_ ?_
        refine oneZ 3 (some 25) (bs 24 15375) (one_of HT_.out (by kernel_rfl)) fun K hK => ?_
        refine gz Try.func85 #[.agg #[.int .i64 ((rd_T126 l0 x18_1).f0.f0), .int .i64 ((rd_T126 l0 x18_1).f0.f1), .int .i64 ((rd_T126 l0 x18_1).f0.f2)]] ?_
        with_reducible refine (L_isDirection.calls ((rd_T126 l0 x18_1).f0.f0) ((rd_T126 l0 x18_1).f0.f1) ((rd_T126 l0 x18_1).f0.f2) false _ A11.out).mono ?_
        rintro e w56 ⟨rfl, hb⟩
        refine ⟨_, rfl, ?_⟩
        replace BK211 := bb BK211 hb; replace HB := sb HB hb
        (try clear hb)
        refine hK.out _ _ cz (fun hH => ?_)
        clear hK K
        refine norm_ (a' := ?_) ?_ ?_
        rotate_left
        ·show Act.put _ (some 25) _ = _
         exact pz
        refine pZ 4 (some 26) (bs 24 15391) HT_ ?_
        refine pure_ (i := 5) (N := some 27) (v := undef) (a' := ?_) (bs 24 15423) rfl rfl (any_of HT_.out (by kernel_rfl)) (fun _ _ _ h => h) (Or.inr ⟨by rfl, rfl⟩) ?_ ?_
        rotate_left
        ·exact pz
        refine pure_ (i := 6) (N := some 28) (v := undef) (a' := ?_) (bs 24 15487) rfl rfl (any_of HT_.out (by kernel_rfl)) (fun _ _ _ h => h) (Or.inr ⟨by rfl, rfl⟩) ?_ ?_
        rotate_left
        ·exact pz
        refine pure_ (i := 7) (N := some 29) (v := undef) (a' := ?_) (bs 24 15615) rfl rfl (any_of HT_.out (by kernel_rfl)) (fun _ _ _ h => h) (Or.inr ⟨by rfl, rfl⟩) ?_ ?_
        rotate_left
        ·exact pz
        refine pZ 8 (some 30) (bs 24 15871) HT_ ?_
        refine oneZ 9 (some 31) (bs 24 16383) (one_of HT_.out (by kernel_rfl)) fun K hK => ?_
        refine gz Try.func76 #[.bool false, .int .i64 2] ?_
        with_reducible refine (L_unless.calls false 2 t225 _ A38.out).mono ?_
        rintro e w' ⟨rfl, ⟨nd, rfl⟩⟩
        refine ⟨_, rfl, ?_⟩
        refine hK.out _ _ cz (fun hH => ?_)
        clear hK K
        refine norm_ (a' := ?_) ?_ ?_
        rotate_left
        ·show Act.put _ (some 31) _ = _
         exact pz
        refine pZ 14 (some 36) (bs 24 32767) HT_ ?_
        refine pure_ (i := 15) (N := some 37) (v := undef) (a' := ?_) (bs 24 65535) rfl rfl (any_of HT_.out (by kernel_rfl)) (fun _ _ _ h => h) (Or.inr ⟨by rfl, rfl⟩) ?_ ?_
        rotate_left
        ·exact pz
        refine pure_ (i := 16) (N := some 38) (v := undef) (a' := ?_) (bs 24 131071) rfl rfl (any_of HT_.out (by kernel_rfl)) (fun _ _ _ h => h) (Or.inr ⟨by rfl, rfl⟩) ?_ ?_
        rotate_left
        ·exact pz
        refine pure_ (i := 17) (N := some 39) (v := undef) (a' := ?_) (bs 24 262143) rfl rfl (any_of HT_.out (by kernel_rfl)) (fun _ _ _ h => h) (Or.inr ⟨by rfl, rfl⟩) ?_ ?_
        rotate_left
        ·exact pz
        refine pure_ (i := 18) (N := some 40) (v := undef) (a' := ?_) (bs 24 524287) rfl rfl (any_of HT_.out (by kernel_rfl)) (fun _ _ _ h => h) (Or.inr ⟨by rfl, rfl⟩) ?_ ?_
        rotate_left
        ·exact pz
        refine pZ 19 (some 41) (bs 24 1048575) HT_ ?_
        refine oneZ 20 (some 42) (bs 24 2097151) (one_of HT_.out (by kernel_rfl)) fun K hK => ?_
        refine gz Try.func76 #[.bool false, .int .i64 11] ?_
        with_reducible refine (L_unless.calls false 11 t231 _ A50.out).mono ?_
        rintro e w' ⟨rfl, ⟨nd, rfl⟩⟩
        refine ⟨_, rfl, ?_⟩
        refine hK.out _ _ cz (fun hH => ?_)
        clear hK K
        refine norm_ (a' := ?_) ?_ ?_
        rotate_left
        ·show Act.put _ (some 42) _ = _
         exact pz
        refine oneZ 21 (some 43) (bs 24 4194303) (one_of HT_.out (by kernel_rfl)) fun K hK => ?_
        refine Kd.R_lit_step (Kd.int .i64) _ 24 ?hg (N := 43) ?hd (xs := ([x3_1, t225, t231] : List Int)) (inner := [.int .i64 x3_1, .int .i64 t225, .int .i64 t231]) (ok := fun _ => True) (okp := fun _ => True) ?hr ?hp (fun _ hk => hk) trivial (Below.refl _ _) (Nat.le_refl _) (by simp) ?_; (case hd => rfl); (case hg => rfl); (case hr => first | (go_simp; done) | (go_simp; rfl)); (case hp => exact (Reps.one (show Kd.M (Kd.int .i64) _ _ _ x3_1 [.int .i64 x3_1] from rfl) (Reps.one (show Kd.M (Kd.int .i64) _ _ _ t225 [.int .i64 t225] from rfl) (Reps.one (show Kd.M (Kd.int .i64) _ _ _ t231 [.int .i64 t231] from rfl) (Reps.none _ _)))))
        intro v233 w57 ho58 hb hg_ hnew_
        clear hg_ hnew_
        (first | rw [← Ny232.out] at ho58 | (simp only [Int.reduceToNat] at ho58; rw [← Ny232.out] at ho58))
        have HO234 := m0 (Kd.R_lower ho58 (below_size bz)); replace BK211 := bb BK211 hb; replace HB := sb HB hb
        clear hb ho58
        obtain ⟨Ao59, co59, eo59⟩ := Kd.R_slice HO234.out
        subst eo59
        refine hK.out _ _ cz (fun hH => ?_)
        clear hK K
        refine norm_ (a' := ?_) ?_ ?_
        rotate_left
        ·show Act.put _ (some 43) _ = _
         exact pz
        refine oneZ 22 (some 44) (bs 24 8388607) (one_of HT_.out (by kernel_rfl)) fun K hK => ?_
        refine gz Try.func75 #[.slice Ao59 y232.length co59] ?_
        with_reducible refine (L_first.calls k1 _ _ y232 t235 _ ?side1 ?side2 A51.out).mono ?_
        (case side1 => exact bc (Kd.R_reads' HO234.out).2.2)
        (case side2 => exact (Kd.R_reads' HO234.out).2.1)
        rintro e w' ⟨rfl, ⟨nd, rfl⟩⟩
        refine ⟨_, rfl, ?_⟩
        refine hK.out _ _ cz (fun hH => ?_)
        clear hK K
        refine norm_ (a' := ?_) ?_ ?_
        rotate_left
        ·show Act.put _ (some 44) _ = _
         exact pz
        refine pZ 23 (some 3) (bs 24 16777215) HT_ ?_
        refine done_ (done_of HT_.out (by kernel_rfl)) ?_
        try go_wp2
        go_roundg k1
        case measure => have := HK1.out; omega
        case rel => exact ⟨(t235), (wrap64 (x18_1 + 1)), (by first | rfl | (simp; done) | (simp [*]; done)), (by first | rfl | (simp; done) | (simp [*]; done)), H', ⟨by have := HK1.out; omega⟩, ⟨bz⟩⟩
     ·rw [if_neg c10] at H
      exact absurd H (by simp)
    ·rw [if_neg c9] at H
     exact absurd H (by simp)
   ·rw [if_neg c8] at H
    have c8b0 := decide_eq_false c8
    clear c8
    obtain rfl := Option.some.inj H
    go_wp2
    go_ret
    exact ez
end
section
def L_vector_dot.f (a0_0 : Int) (a0_1 : Int) (a0_2 : Int) (a1_0 : Int) (a1_1 : Int) (a1_2 : Int) : Option (Int) := some (wrap64 ((wrap64 ((wrap64 (a0_0 * a1_0)) + (wrap64 (a0_1 * a1_1)))) + (wrap64 (a0_2 * a1_2))))
theorem L_vector_dot.calls (a0_0 : Int) (a0_1 : Int) (a0_2 : Int) (a1_0 : Int) (a1_1 : Int) (a1_2 : Int) (r : Int) (w : World) (h : L_vector_dot.f a0_0 a0_1 a0_2 a1_0 a1_1 a1_2 = some r) :
  Calls Try.prog 130 #[.agg #[.int .i64 a0_0, .int .i64 a0_1, .int .i64 a0_2], .agg #[.int .i64 a1_0, .int .i64 a1_1, .int .i64 a1_2]] w fun e w' => e = .returned (.int .i64 r) ∧ Below w.heap.size w w' := by
 have hu137 := Try.underlying137
 have hix137_0 : ∀ (g_ : Nat) (W_ : World), (Instr.indexAt 137 (.pointer (some ⟨g_, 0, none⟩)) (.int .i64 0)).run Try.prog W_ = .ok (.pointer (some ⟨g_, 0, none⟩)) W_ := fun _ _ => by kernel_rfl
 have hix137_1 : ∀ (g_ : Nat) (W_ : World), (Instr.indexAt 137 (.pointer (some ⟨g_, 0, none⟩)) (.int .i64 1)).run Try.prog W_ = .ok (.pointer (some ⟨g_, 1, none⟩)) W_ := fun _ _ => by kernel_rfl
 have hix137_2 : ∀ (g_ : Nat) (W_ : World), (Instr.indexAt 137 (.pointer (some ⟨g_, 0, none⟩)) (.int .i64 2)).run Try.prog W_ = .ok (.pointer (some ⟨g_, 2, none⟩)) W_ := fun _ _ => by kernel_rfl
 have HB := m0 (Below.refl w.heap.size w)
 have H : (some (wrap64 ((wrap64 ((wrap64 (a0_0 * a1_0)) + (wrap64 (a0_1 * a1_1)))) + (wrap64 (a0_2 * a1_2))))) = some r := h
 clear h
 obtain rfl := Option.some.inj H
 go_enter Try.func130, Try.ntmps130
 go_wp2_with (first | ((with_reducible refine gate_dst (N := 2) rfl ?_); refine be 2 137 #[.int .i64 a0_0, .int .i64 a0_1, .int .i64 a0_2] ?_; intro gb236 hg w3 hbox hb; have BK236 := m0 hbox; have GE236 := gw w hg; replace HB := sb HB hb; clear hb hbox hg) | ((with_reducible refine gate_dst (N := 3) rfl ?_); refine be 3 137 #[.int .i64 a1_0, .int .i64 a1_1, .int .i64 a1_2] ?_; intro gb237 hg w4 hbox hb; have BK237 := m0 hbox; have GE237 := gw w hg; replace HB := sb HB hb; have NB236_237 := nl BK236 hg; have NB237_236 := ng (nl BK236 hg); replace BK236 := bb BK236 hb; clear hb hbox hg; have hnb5 := NB236_237.out; have hnc5 := NB237_236.out; obtain ⟨_, _, _, _, _, _⟩ := b3 BK236; obtain ⟨_, _, _, _, _, _⟩ := b3 BK237))
 go_ret
 exact ez
end
section
def L_vector_cross.f (a0_0 : Int) (a0_1 : Int) (a0_2 : Int) (a1_0 : Int) (a1_1 : Int) (a1_2 : Int) : Option (Int × Int × Int) := some (wrap64 ((wrap64 (a0_1 * a1_2)) - (wrap64 (a0_2 * a1_1))), wrap64 ((wrap64 (a0_2 * a1_0)) - (wrap64 (a0_0 * a1_2))), wrap64 ((wrap64 (a0_0 * a1_1)) - (wrap64 (a0_1 * a1_0))))
theorem L_vector_cross.calls (a0_0 : Int) (a0_1 : Int) (a0_2 : Int) (a1_0 : Int) (a1_1 : Int) (a1_2 : Int) (r1 : Int) (r2 : Int) (r3 : Int) (w : World) (h : L_vector_cross.f a0_0 a0_1 a0_2 a1_0 a1_1 a1_2 = some (r1, r2, r3)) :
  Calls Try.prog 131 #[.agg #[.int .i64 a0_0, .int .i64 a0_1, .int .i64 a0_2], .agg #[.int .i64 a1_0, .int .i64 a1_1, .int .i64 a1_2]] w fun e w' => e = .returned (.agg #[.int .i64 r1, .int .i64 r2, .int .i64 r3]) ∧ Below w.heap.size w w' := by
 have hu137 := Try.underlying137
 have hix137_0 : ∀ (g_ : Nat) (W_ : World), (Instr.indexAt 137 (.pointer (some ⟨g_, 0, none⟩)) (.int .i64 0)).run Try.prog W_ = .ok (.pointer (some ⟨g_, 0, none⟩)) W_ := fun _ _ => by kernel_rfl
 have hix137_1 : ∀ (g_ : Nat) (W_ : World), (Instr.indexAt 137 (.pointer (some ⟨g_, 0, none⟩)) (.int .i64 1)).run Try.prog W_ = .ok (.pointer (some ⟨g_, 1, none⟩)) W_ := fun _ _ => by kernel_rfl
 have hix137_2 : ∀ (g_ : Nat) (W_ : World), (Instr.indexAt 137 (.pointer (some ⟨g_, 0, none⟩)) (.int .i64 2)).run Try.prog W_ = .ok (.pointer (some ⟨g_, 2, none⟩)) W_ := fun _ _ => by kernel_rfl
 have HB := m0 (Below.refl w.heap.size w)
 have H : (some (wrap64 ((wrap64 (a0_1 * a1_2)) - (wrap64 (a0_2 * a1_1))), wrap64 ((wrap64 (a0_2 * a1_0)) - (wrap64 (a0_0 * a1_2))), wrap64 ((wrap64 (a0_0 * a1_1)) - (wrap64 (a0_1 * a1_0))))) = some (r1, r2, r3) := h
 clear h
 simp only [Option.some.injEq, Prod.mk.injEq] at H
 obtain ⟨rfl, rfl, rfl⟩ := H
 go_enter Try.func131, Try.ntmps131
 go_wp2_with (first | ((with_reducible refine gate_dst (N := 2) rfl ?_); refine be 2 137 #[.int .i64 a0_0, .int .i64 a0_1, .int .i64 a0_2] ?_; intro gb238 hg w3 hbox hb; have BK238 := m0 hbox; have GE238 := gw w hg; replace HB := sb HB hb; clear hb hbox hg) | ((with_reducible refine gate_dst (N := 3) rfl ?_); refine be 3 137 #[.int .i64 a1_0, .int .i64 a1_1, .int .i64 a1_2] ?_; intro gb239 hg w4 hbox hb; have BK239 := m0 hbox; have GE239 := gw w hg; replace HB := sb HB hb; have NB238_239 := nl BK238 hg; have NB239_238 := ng (nl BK238 hg); replace BK238 := bb BK238 hb; clear hb hbox hg) | ((with_reducible refine gate_dst (N := 4) rfl ?_); refine be 4 137 #[.int .i64 0, .int .i64 0, .int .i64 0] ?_; intro gb240 hg w5 hbox hb; have BK240 := m0 hbox; have GE240 := gw w hg; replace HB := sb HB hb; have NB238_240 := nl BK238 hg; have NB240_238 := ng (nl BK238 hg); replace BK238 := bb BK238 hb; have NB239_240 := nl BK239 hg; have NB240_239 := ng (nl BK239 hg); replace BK239 := bb BK239 hb; clear hb hbox hg; have hnb6 := NB238_239.out; have hnc6 := NB239_238.out; have hnb7 := NB238_240.out; have hnc7 := NB240_238.out; obtain ⟨_, _, _, _, _, _⟩ := b3 BK238; have hnb9 := NB239_240.out; have hnc9 := NB240_239.out; obtain ⟨_, _, _, _, _, _⟩ := b3 BK239; obtain ⟨_, _, _, _, _, _⟩ := b3 BK240))
 refine bodyPost_ret (results_cell_row rfl _ _ gb240 137 #[.int .i64 (wrap64 ((wrap64 (a0_1 * a1_2)) - (wrap64 (a0_2 * a1_1)))), .int .i64 (wrap64 ((wrap64 (a0_2 * a1_0)) - (wrap64 (a0_0 * a1_2)))), .int .i64 (wrap64 ((wrap64 (a0_0 * a1_1)) - (wrap64 (a0_1 * a1_0))))] (0, 0) _ rfl (bq BK240.out) Try.underlying137 rfl (by kernel_rfl)) rfl ?_
 exact ez
end
end Go.Proofs.Ytibhfahbabgbaaa.A
