/- Walks of the program's functions (printed, made shorter), each with what it computes. -/
import Derived.Test.YtibhfahbabgbaaaB05
import Derived.Test.YtibhfahbabgbaaaTA01
import Derived.Test.YtibhfahbabgbaaaB04
namespace Go.Proofs.Ytibhfahbabgbaaa.A
set_option maxHeartbeats 8000000
set_option maxRecDepth 100000
open Go.RowKit Go.Proofs.YtibhfahbabgbaaaW.PrintWords Go.Proofs.YtibhfahbabgbaaaW.PrintLast Go.Proofs.YtibhfahbabgbaaaW.PrintMore
attribute [local go_sem] max2_int min2_int max_two min_two max_three min_three max_four min_four
set_option linter.unusedVariables false
set_option linter.unusedSimpArgs false
section
def L_BiasOf.l0 : Nat → List (S165) → List (S165) → Int → Int → Int → Int → Option (Int × Int × Int × Int × Int)
 | 0, _, _, _, _, _, _ => none
 | k + 1, x0, x15, x16, x17, x1215000, x1215001 => if x17 < x16 then (if 0 ≤ x17 then (if x17 < (x15.length : Int) then ((L_difference.f ((rd_T165 x15 x17).f0.f0) ((rd_T165 x15 x17).f0.f1) ((rd_T165 x15 x17).f1.f0) ((rd_T165 x15 x17).f1.f1)).bind fun bt1217 => (L_BiasOf.l0 k x0 x15 x16 (wrap64 (x17 + 1)) (wrap64 (x1215000 + bt1217.1)) (wrap64 (x1215001 + bt1217.2)))) else (none)) else (none)) else ((L_fraction.f k x1215000 (x0.length : Int)).bind fun bt1220 => ((L_fraction.f k x1215001 (x0.length : Int)).bind fun bt1222 => (some (bt1220.1, bt1220.2, bt1222.1, bt1222.2, 0))))
def L_BiasOf.f (k : Nat) (l0 : List (S165)) : Option (Int × Int × Int × Int × Int) := (L_pairsErr.f k l0).bind fun t1213 => (if t1213 = 0 then (L_BiasOf.l0 k l0 l0 (l0.length : Int) 0 0 0) else (some (0, 0, 0, 0, t1213)))
theorem L_BiasOf.mono_l : ∀ k, (∀ y0 y1 y2 y3 y4 y5, LeO (L_BiasOf.l0 k y0 y1 y2 y3 y4 y5) (L_BiasOf.l0 (k + 1) y0 y1 y2 y3 y4 y5))
 | 0 => fun _ _ _ _ _ _ r h => by simp [L_BiasOf.l0] at h
 | k + 1 => by
  have ih0 := L_BiasOf.mono_l k
  ·intro y0 y1 y2 y3 y4 y5
   unfold L_BiasOf.l0
   repeat' with_reducible first
    | exact ih0 ..
    | exact L_fraction.mono ..
    | exact L_pairsErr.mono ..
    | exact LeO.refl ..
    | exact LeO.none ..
    | refine LeO.ite ?_ ?_
    | refine LeO.bind ?_ (fun _ => ?_)
theorem L_BiasOf.mono : ∀ a0 k, LeO (L_BiasOf.f k a0) (L_BiasOf.f (k + 1) a0) := by
 intro a0 k
 have ih0 := L_BiasOf.mono_l k
 unfold L_BiasOf.f
 repeat' with_reducible first
  | exact ih0 ..
  | exact L_fraction.mono ..
  | exact L_pairsErr.mono ..
  | exact LeO.refl ..
  | exact LeO.none ..
  | refine LeO.ite ?_ ?_
  | refine LeO.bind ?_ (fun _ => ?_)
def L_BiasOf.T11 : Bool × List (List Nat × List Nat) := (true, [([], []), ([0], [0]), ([], []), ([2], [2]), ([1, 3], [1, 3]), ([], []), ([5], [5]), ([], []), ([7], [7]), ([6, 8, 4], [6, 8]), ([4, 9], [4, 9]), ([10, 9, 0, 1, 2, 3, 4, 5, 6, 7, 8, 9, 10], [10]), ([11, 0, 1, 2, 3, 4, 5, 6, 7, 8, 9, 10, 11], [])])
def L_BiasOf.B11 : List Nat := [0, 1, 0, 4, 15, 0, 32, 0, 128, 511, 1023, 2047, 4095]
theorem L_BiasOf.tab11 : rtab .any (opsOf Try.f50 11) = L_BiasOf.T11 := by kernel_rfl
theorem L_BiasOf.bits11 : waitsOk L_BiasOf.T11.2 L_BiasOf.B11 = true := by kernel_rfl
theorem L_BiasOf.calls (k : Nat) (A0 : Option Addr) (c0 : Nat) (l0 : List (S165)) (r1 : Int) (r2 : Int) (r3 : Int) (r4 : Int) (r5 : Int) (w : World) (hr0 : Kd.C k165 w A0 l0.length l0) (hc0 : l0.length ≤ c0) (h : L_BiasOf.f k l0 = some (r1, r2, r3, r4, r5)) :
  Calls Try.prog 50 #[.slice A0 l0.length c0] w fun e w' => e = .returned (.tuple #[.agg #[.int .i64 r1, .int .i64 r2, .int .i64 r3, .int .i64 r4], .int .i64 r5]) ∧ Below w.heap.size w w' := by
 have hu93 := Try.underlying93
 have hu58 := Try.underlying58
 have hu165 := Try.underlying165
 have HR0 := m0 hr0
 have HC0 := m0 hc0
 clear hr0 hc0
 have HB := m0 (Below.refl w.heap.size w)
 have H : ((L_pairsErr.f k l0).bind fun t1213 => (if t1213 = 0 then (L_BiasOf.l0 k l0 l0 (l0.length : Int) 0 0 0) else (some (0, 0, 0, 0, t1213)))) = some (r1, r2, r3, r4, r5) := h
 clear h
 replace H := ob H
 obtain ⟨t1213, A2, H⟩ := H
 (try dsimp only at H)
 replace A2 := m0 A2
 by_cases c3 : t1213 = 0
 ·rw [if_pos c3] at H
  have c3b0 := beq_iff_eq.mpr c3
  have c3b1 := bne_eq_false_iff_eq.mpr c3
  clear c3
  have H' := m0 H
  clear H
  go_enter Try.func50, Try.ntmps50
  go_wp2_with (first | ((with_reducible refine gate_dst (N := 2) rfl ?_); refine be 2 93 #[.int .i64 0, .int .i64 0, .int .i64 0, .int .i64 0] ?_; intro gb1212 hg w4 hbox hb; have BK1212 := m0 hbox; have GE1212 := gw w hg; replace HB := sb HB hb; clear hb hbox hg) | ((with_reducible refine gate_callee (f := 105) rfl ?_); refine gl (some 10) Try.func105 #[.slice A0 l0.length c0] ?_; (with_reducible refine (L_pairsErr.calls k _ _ l0 t1213 _ ?side1 ?side2 A2.out).mono ?_); (case side1 => exact cb HR0 HB); (case side2 => exact HC0.out); rintro e w5 ⟨rfl, hb⟩; refine ⟨_, rfl, ?_⟩; replace BK1212 := bb BK1212 hb; replace HB := sb HB hb; (try clear hb)) | ((with_reducible refine gate_dst (N := 5) rfl ?_); refine be 5 58 #[.int .i64 0, .int .i64 0] ?_; intro gb1214 hg w6 hbox hb; have BK1214 := m0 hbox; have GE1214 := gw w hg; replace HB := sb HB hb; have NB1212_1214 := nl BK1212 hg; have NB1214_1212 := ng (nl BK1212 hg); replace BK1212 := bb BK1212 hb; clear hb hbox hg))
  go_loopg [17] k (fun kq v17 w' => ∃ (x17_1 : Int) (x1215000_1 : Int) (x1215001_1 : Int), v17 = .int .i64 x17_1 ∧ Aside0 (L_BiasOf.l0 kq l0 l0 (l0.length : Int) x17_1 x1215000_1 x1215001_1 = some (r1, r2, r3, r4, r5)) ∧ Aside0 (kq ≤ k) ∧ Aside0 (w'.heap[gb1212]? = some (.cells #[.int .i64 0, .int .i64 0, .int .i64 0, .int .i64 0] 93 (0, 0))) ∧ Aside0 (w'.heap[gb1214]? = some (.cells #[.int .i64 x1215000_1, .int .i64 x1215001_1] 58 (0, 0))) ∧ Aside0 (Below w.heap.size w w'))
  case atStart => exact ⟨(0), (0), (0), (by first | rfl | (simp; done) | (simp [*]; done)), H', ⟨Nat.le_refl _⟩, ⟨bk BK1212.out⟩, ⟨bk BK1214.out⟩, ⟨bz⟩⟩
  case round =>
   clear H'
   obtain ⟨x17_1, x1215000_1, x1215001_1, rfl, HA, HK1, BK1212, BK1214, HB⟩ := hrel
   cases gk with
   | zero => exact absurd HA.out (by simp [L_BiasOf.l0])
   | succ k1 =>
    have H := HA.out
    clear HA
    simp only [L_BiasOf.l0] at H
    by_cases c7 : x17_1 < (l0.length : Int)
    ·rw [if_pos c7] at H
     have c7b0 := decide_eq_true c7
     clear c7
     by_cases c8 : 0 ≤ x17_1
     ·rw [if_pos c8] at H
      have c8b0 := decide_eq_true c8
      clear c8
      by_cases c9 : x17_1 < (l0.length : Int)
      ·rw [if_pos c9] at H
       have c9b0 := decide_eq_true c9
       clear c9
       replace H := ob H
       obtain ⟨⟨t1217, t1218⟩, A10, H⟩ := H
       (try dsimp only at H)
       replace A10 := m0 A10
       have H' := m0 H
       clear H
       have p1215 : 0 ≤ (x17_1 : Int) := od
       have q1215 : x17_1 < (l0.length : Int) := od
       obtain ⟨ad1215, e1215, hx1215_0, hx1215_1, hx1215_2, hx1215_3⟩ := at_T165 HR0.out x17_1 p1215 q1215
       cases e1215
       replace hx1215_0 := (HB.out.cell (World.block_lt_of_cell? w _ hx1215_0)).trans hx1215_0
       replace hx1215_1 := (HB.out.cell (World.block_lt_of_cell? w _ hx1215_1)).trans hx1215_1
       replace hx1215_2 := (HB.out.cell (World.block_lt_of_cell? w _ hx1215_2)).trans hx1215_2
       replace hx1215_3 := (HB.out.cell (World.block_lt_of_cell? w _ hx1215_3)).trans hx1215_3
       replace p1215 := eq_true p1215
       replace q1215 := eq_true q1215
       go_wp2_with (first | ((with_reducible refine gate_dst (N := 7) rfl ?_); refine be 7 165 #[.int .i64 0, .int .i64 0, .int .i64 0, .int .i64 0] ?_; intro gb1216 hg w11 hbox hb; have BK1216 := m0 hbox; have GE1216 := gw w hg; replace HB := sb HB hb; have NB1212_1216 := nl BK1212 hg; have NB1216_1212 := ng (nl BK1212 hg); replace BK1212 := bb BK1212 hb; have NB1214_1216 := nl BK1214 hg; have NB1216_1214 := ng (nl BK1214 hg); replace BK1214 := bb BK1214 hb; clear hb hbox hg; have hnb12 := NB1216_1212.out; have hnc12 := NB1212_1216.out; have hnb13 := NB1216_1214.out; have hnc13 := NB1214_1216.out; obtain ⟨_, _, _, _, _, _, _, _⟩ := b4 BK1216) | ((with_reducible refine gate_callee (f := 106) rfl ?_); refine gl (some 22) Try.func106 #[.agg #[.int .i64 ((rd_T165 l0 x17_1).f0.f0), .int .i64 ((rd_T165 l0 x17_1).f0.f1), .int .i64 ((rd_T165 l0 x17_1).f1.f0), .int .i64 ((rd_T165 l0 x17_1).f1.f1)]] ?_; (with_reducible refine (L_difference.calls ((rd_T165 l0 x17_1).f0.f0) ((rd_T165 l0 x17_1).f0.f1) ((rd_T165 l0 x17_1).f1.f0) ((rd_T165 l0 x17_1).f1.f1) t1217 t1218 _ A10.out).mono ?_); rintro e w15 ⟨rfl, hb⟩; refine ⟨_, rfl, ?_⟩; replace BK1212 := m0 (blk_below (g := gb1212) (o := .cells #[.int .i64 0, .int .i64 0, .int .i64 0, .int .i64 0] 93 (0, 0)) (bq BK1212.out) hb); replace BK1214 := m0 (blk_below (g := gb1214) (o := .cells #[.int .i64 x1215000_1, .int .i64 x1215001_1] 58 (0, 0)) (bq BK1214.out) hb); replace BK1216 := m0 (blk_below (g := gb1216) (o := .cells #[.int .i64 ((rd_T165 l0 x17_1).f0.f0), .int .i64 ((rd_T165 l0 x17_1).f0.f1), .int .i64 ((rd_T165 l0 x17_1).f1.f0), .int .i64 ((rd_T165 l0 x17_1).f1.f1)] 165 (0, 0)) (bq BK1216.out) hb); replace HB := sb HB hb; (try clear hb)) | ((with_reducible refine gate_dst (N := 8) rfl ?_); refine be 8 58 #[.int .i64 0, .int .i64 0] ?_; intro gb1219 hg w16 hbox hb; have BK1219 := m0 hbox; have GE1219 := gw w hg; replace HB := sb HB hb; have NB1212_1219 := nl BK1212 hg; have NB1219_1212 := ng (nl BK1212 hg); replace BK1212 := bb BK1212 hb; have NB1214_1219 := nl BK1214 hg; have NB1219_1214 := ng (nl BK1214 hg); replace BK1214 := bb BK1214 hb; have NB1216_1219 := nl BK1216 hg; have NB1219_1216 := ng (nl BK1216 hg); replace BK1216 := bb BK1216 hb; clear hb hbox hg; have hnb17 := NB1219_1212.out; have hnc17 := NB1212_1219.out; have hnb18 := NB1219_1214.out; have hnc18 := NB1214_1219.out; have hnb19 := NB1219_1216.out; have hnc19 := NB1216_1219.out; obtain ⟨_, _, _, _⟩ := b2 BK1219; have hnb21 := NB1214_1212.out; have hnc21 := NB1212_1214.out; obtain ⟨_, _, _, _⟩ := b2 BK1214))
       go_roundg k1
       case measure => have := HK1.out; omega
       case rel => exact ⟨(wrap64 (x17_1 + 1)), (wrap64 (x1215000_1 + t1217)), (wrap64 (x1215001_1 + t1218)), (by first | rfl | (simp; done) | (simp [*]; done)), H', ⟨by have := HK1.out; omega⟩, ⟨bq BK1212.out⟩, ⟨by (with_reducible repeat (first | refine blk_drewN ?_ _ | refine blk_drew ?_ | refine blk_alloc ?_ _)); refine blk_put (cs := #[.int .i64 (wrap64 (x1215000_1 + t1217)), .int .i64 x1215001_1]) ?_ 1 _ rfl; (with_reducible repeat (first | refine blk_drewN ?_ _ | refine blk_drew ?_ | refine blk_alloc ?_ _)); refine blk_put (cs := #[.int .i64 x1215000_1, .int .i64 x1215001_1]) ?_ 0 _ rfl; (with_reducible repeat (first | refine blk_drewN ?_ _ | refine blk_drew ?_ | refine blk_alloc ?_ _)); refine blk_far ?_ NB1214_1219.out _; (with_reducible repeat (first | refine blk_drewN ?_ _ | refine blk_drew ?_ | refine blk_alloc ?_ _)); refine blk_far ?_ NB1214_1219.out _; (with_reducible repeat (first | refine blk_drewN ?_ _ | refine blk_drew ?_ | refine blk_alloc ?_ _)); exact BK1214.out⟩, ⟨bz⟩⟩
      ·rw [if_neg c9] at H
       exact absurd H (by simp)
     ·rw [if_neg c8] at H
      exact absurd H (by simp)
    ·rw [if_neg c7] at H
     have c7b0 := decide_eq_false c7
     clear c7
     replace H := ob H
     obtain ⟨⟨t1220, t1221⟩, A23, H⟩ := H
     (try dsimp only at H)
     replace A23 := m0 A23
     replace H := ob H
     obtain ⟨⟨t1222, t1223⟩, A24, H⟩ := H
     (try dsimp only at H)
     replace A24 := m0 A24
     simp only [Option.some.injEq, Prod.mk.injEq] at H
     obtain ⟨rfl, rfl, rfl, rfl, rfl⟩ := H
     try go_wp2
     replace BK1212 := bd BK1212; replace BK1214 := bd BK1214; replace HB := sd HB
     refine start_ (n := 13) (S := fun w' => w'.cell? ⟨gb1214, 0, none⟩ = some (.int .i64 x1215000_1) ∧ w'.cell? ⟨gb1214, 1, none⟩ = some (.int .i64 x1215001_1)) (ds := []) #[false, false, false, false, false, false, false, false, false, false, false, false, false] (by kernel_rfl) rfl rfl cz (fun hH => ?_); refine with_tabW L_BiasOf.tab11 L_BiasOf.bits11 (fun HT_ HW_ => ?_)
     generalize wr.drew = w25 at BK1212 BK1214 HB hH ⊢
     refine pZ 0 (some 35) (bs 13 1) HT_ ?_
     refine pZ 2 (some 37) (bs 13 5) HT_ ?_
     refine pZ 3 (some 38) (bs 13 13) HT_ ?_
     refine pZ 5 (some 40) (bs 13 45) HT_ ?_
     refine pZ 7 (some 42) (bs 13 173) HT_ ?_
     refine pZ 8 (some 43) (bs 13 429) HT_ ?_
     refine takeZ 1 (some 36) (bs 13 431) (take_ofW HT_.out HW_.out (by kernel_rfl)) hH ?_
     refine takeZ 6 (some 41) (bs 13 495) (take_ofW HT_.out HW_.out (by kernel_rfl)) hH ?_
     refine oneZ 4 (some 39) (bs 13 511) (one_of HT_.out (by kernel_rfl)) fun K hK => ?_
     refine gz Try.func98 #[.int .i64 x1215000_1, .int .i64 (l0.length : Int)] ?_
     with_reducible refine (L_fraction.calls k1 x1215000_1 (l0.length : Int) t1220 t1221 _ A23.out).mono ?_
     rintro e w26 ⟨rfl, hb⟩
     refine ⟨_, rfl, ?_⟩
     replace BK1212 := bb BK1212 hb; replace BK1214 := bb BK1214 hb; replace HB := sb HB hb
     (try clear hb)
     refine hK.out _ _ cz (fun hH => ?_)
     clear hK K
     refine norm_ (a' := ?_) ?_ ?_
     rotate_left
     ·show Act.put _ (some 39) _ = _
      exact pz
     refine oneZ 9 (some 44) (bs 13 1023) (one_of HT_.out (by kernel_rfl)) fun K hK => ?_
     refine gz Try.func98 #[.int .i64 x1215001_1, .int .i64 (l0.length : Int)] ?_
     with_reducible refine (L_fraction.calls k1 x1215001_1 (l0.length : Int) t1222 t1223 _ A24.out).mono ?_
     rintro e w27 ⟨rfl, hb⟩
     refine ⟨_, rfl, ?_⟩
     replace BK1212 := bb BK1212 hb; replace BK1214 := bb BK1214 hb; replace HB := sb HB hb
     (try clear hb)
     refine hK.out _ _ cz (fun hH => ?_)
     clear hK K
     refine norm_ (a' := ?_) ?_ ?_
     rotate_left
     ·show Act.put _ (some 44) _ = _
      exact pz
     refine pZ 10 (some 45) (bs 13 2047) HT_ ?_
     refine oneZ 11 (none) (bs 13 4095) (one_of HT_.out (by kernel_rfl)) fun K hK => ?_
     have hs28 : w27.cell? ⟨gb1212, 0, none⟩ = some (.int .i64 0) := (blk_cell BK1212.out 0).trans rfl
     have hfs28 := blk_frozen BK1212.out 0
     have hs29 : w27.cell? ⟨gb1212, 1, none⟩ = some (.int .i64 0) := (blk_cell BK1212.out 1).trans rfl
     have hfs29 := blk_frozen BK1212.out 1
     have hs30 : w27.cell? ⟨gb1212, 2, none⟩ = some (.int .i64 0) := (blk_cell BK1212.out 2).trans rfl
     have hfs30 := blk_frozen BK1212.out 2
     have hs31 : w27.cell? ⟨gb1212, 3, none⟩ = some (.int .i64 0) := (blk_cell BK1212.out 3).trans rfl
     have hfs31 := blk_frozen BK1212.out 3
     refine skip_ (w1 := ?_) (by rfl) rfl ?_ ?_
     rotate_left
     ·go_simp
      rfl
     refine hK.out _ _ (cf hH) (fun hH => ?_)
     clear hK K
     refine pZ 12 (some 3) (bs 13 8191) HT_ ?_
     refine done_ (done_of HT_.out (by kernel_rfl)) ?_
     try go_wp2
     refine bodyPost_ret (results_ct rfl _ _ gb1212 93 #[.int .i64 t1220, .int .i64 t1221, .int .i64 t1222, .int .i64 t1223] (0, 0) _ rfl (bq BK1212.out) Try.underlying93 rfl (by kernel_rfl)) rfl ?_
     exact ez
 ·rw [if_neg c3] at H
  have c3b0 := beq_eq_false_iff_ne.mpr c3
  have c3b1 := bne_iff_ne.mpr c3
  simp only [Option.some.injEq, Prod.mk.injEq] at H
  obtain ⟨rfl, rfl, rfl, rfl, rfl⟩ := H
  go_enter Try.func50, Try.ntmps50
  go_wp2_with (first | ((with_reducible refine gate_dst (N := 2) rfl ?_); refine be 2 93 #[.int .i64 0, .int .i64 0, .int .i64 0, .int .i64 0] ?_; intro gb1212 hg w32 hbox hb; have BK1212 := m0 hbox; have GE1212 := gw w hg; replace HB := sb HB hb; clear hb hbox hg) | ((with_reducible refine gate_callee (f := 105) rfl ?_); refine gl (some 10) Try.func105 #[.slice A0 l0.length c0] ?_; (with_reducible refine (L_pairsErr.calls k _ _ l0 t1213 _ ?side1 ?side2 A2.out).mono ?_); (case side1 => exact cb HR0 HB); (case side2 => exact HC0.out); rintro e w33 ⟨rfl, hb⟩; refine ⟨_, rfl, ?_⟩; replace BK1212 := bb BK1212 hb; replace HB := sb HB hb; (try clear hb); obtain ⟨_, _, _, _, _, _, _, _⟩ := b4 BK1212))
  refine bodyPost_ret (results_ct rfl _ _ gb1212 93 #[.int .i64 0, .int .i64 0, .int .i64 0, .int .i64 0] (0, 0) _ rfl (bq BK1212.out) Try.underlying93 rfl (by kernel_rfl)) rfl ?_
  exact ez
end
section
mutual
def Rf_PairsErr.l0 : Nat → List (S165) → Int → Option (Int)
  | 0, _, _ => none
  | k + 1, x0, x3 => if x3 < (x0.length : Int) then (if 0 ≤ x3 then (Rf_PairsErr.l1 k x0 x3 (([(rd_T165 x0 x3).f0.f0, (rd_T165 x0 x3).f0.f1, (rd_T165 x0 x3).f1.f0, (rd_T165 x0 x3).f1.f1] : List Int)) 0) else (none)) else (some 0)
def Rf_PairsErr.l1 : Nat → List (S165) → Int → List Int → Int → Option (Int)
  | 0, _, _, _, _ => none
  | k + 1, x0, x3, x4, x5 => if x5 < (x4.length : Int) then (if 0 ≤ x5 then ((Bs_Within.f (rd x4 x5) (-10000) 10000).bind fun t1232 => (if t1232 = true then (Rf_PairsErr.l1 k x0 x3 x4 (wrap64 (x5 + 1))) else (some 2))) else (none)) else (if 0 ≤ x3 then (if x3 < (x0.length : Int) then (if ((rd_T165 x0 x3).f0.f0) > ((rd_T165 x0 x3).f0.f1) then (some 9) else (if ((rd_T165 x0 x3).f1.f0) > ((rd_T165 x0 x3).f1.f1) then (some 9) else (Rf_PairsErr.l0 k x0 (wrap64 (x3 + 1))))) else (none)) else (none))
end
def Rf_PairsErr.f (k : Nat) (l0 : List (S165)) : Option (Int) := if (l0.length : Int) = 0 then (some 10) else (if (l0.length : Int) > 20 then (some 8) else (Rf_PairsErr.l0 k l0 0))
theorem Rf_PairsErr.mono_l : ∀ k, (∀ y0 y1, LeO (Rf_PairsErr.l0 k y0 y1) (Rf_PairsErr.l0 (k + 1) y0 y1)) ∧ (∀ y0 y1 y2 y3, LeO (Rf_PairsErr.l1 k y0 y1 y2 y3) (Rf_PairsErr.l1 (k + 1) y0 y1 y2 y3))
  | 0 => ⟨fun _ _ r h => by simp [Rf_PairsErr.l0] at h, fun _ _ _ _ r h => by simp [Rf_PairsErr.l1] at h⟩
  | k + 1 => by
    obtain ⟨ih0, ih1⟩ := Rf_PairsErr.mono_l k
    refine ⟨?_, ?_⟩
    · intro y0 y1
      unfold Rf_PairsErr.l0
      repeat' with_reducible first
        | exact ih0 ..
        | exact ih1 ..
        | exact LeO.refl ..
        | exact LeO.none ..
        | refine LeO.ite ?_ ?_
        | refine LeO.bind ?_ (fun _ => ?_)
    · intro y0 y1 y2 y3
      unfold Rf_PairsErr.l1
      repeat' with_reducible first
        | exact ih0 ..
        | exact ih1 ..
        | exact LeO.refl ..
        | exact LeO.none ..
        | refine LeO.ite ?_ ?_
        | refine LeO.bind ?_ (fun _ => ?_)
theorem Rf_PairsErr.mono : ∀ a0 k, LeO (Rf_PairsErr.f k a0) (Rf_PairsErr.f (k + 1) a0) := by
  intro a0 k
  obtain ⟨ih0, ih1⟩ := Rf_PairsErr.mono_l k
  unfold Rf_PairsErr.f
  repeat' with_reducible first
    | exact ih0 ..
    | exact ih1 ..
    | exact LeO.refl ..
    | exact LeO.none ..
    | refine LeO.ite ?_ ?_
    | refine LeO.bind ?_ (fun _ => ?_)
def Rf_PairsErr.T8 : Bool × List (List Nat × List Nat) := (true, [([], []), ([], []), ([0, 1], [0, 1]), ([2], [2]), ([3], [3]), ([4], [4]), ([], []), ([], []), ([6, 7], [6, 7]), ([8], [8]), ([9], [9]), ([10], [10]), ([], []), ([], []), ([12, 13], [12, 13]), ([14], [14]), ([15], [15]), ([16], [16]), ([], []), ([], []), ([18, 19], [18, 19]), ([20], [20]), ([21], [21]), ([22], [22]), ([5, 11, 17, 23], [5, 11, 17, 23]), ([24, 0, 1, 2, 3, 4, 5, 6, 7, 8, 9, 10, 11, 12, 13, 14, 15, 16, 17, 18, 19, 20, 21, 22, 23, 24], [24])])
def Rf_PairsErr.B8 : List Nat := [0, 0, 3, 7, 15, 31, 0, 0, 192, 448, 960, 1984, 0, 0, 12288, 28672, 61440, 126976, 0, 0, 786432, 1835008, 3932160, 8126464, 16777215, 33554431]
theorem Rf_PairsErr.tab8 : rtab .any (opsOf Try.f51 8) = Rf_PairsErr.T8 := by kernel_rfl
theorem Rf_PairsErr.bits8 : waitsOk Rf_PairsErr.T8.2 Rf_PairsErr.B8 = true := by kernel_rfl
def Rf_PairsErr.T14 : Bool × List (List Nat × List Nat) := (true, [([], []), ([], []), ([0, 1], [0, 1]), ([2], [2]), ([3], [3]), ([4], [4]), ([], []), ([], []), ([6, 7], [6, 7]), ([8], [8]), ([9], [9]), ([10], [10]), ([5, 11], [5, 11]), ([12], [12]), ([13], [13]), ([13], [13]), ([14, 15, 13], [13, 14, 15]), ([16, 13], [13, 16]), ([17, 13], [13, 17]), ([18, 13], [13, 18]), ([13], [13]), ([13], [13]), ([20, 21, 13], [13, 20, 21]), ([22, 13], [13, 22]), ([23, 13], [13, 23]), ([24, 13], [13, 24]), ([19, 25, 13], [13, 19, 25]), ([13, 26], [13, 26])])
def Rf_PairsErr.B14 : List Nat := [0, 0, 3, 7, 15, 31, 0, 0, 192, 448, 960, 1984, 4095, 8191, 16383, 16383, 65535, 131071, 262143, 524287, 16383, 16383, 3162111, 7356415, 15745023, 32522239, 67108863, 134217727]
theorem Rf_PairsErr.tab14 : rtab .any (opsOf Try.f51 14) = Rf_PairsErr.T14 := by kernel_rfl
theorem Rf_PairsErr.bits14 : waitsOk Rf_PairsErr.T14.2 Rf_PairsErr.B14 = true := by kernel_rfl
theorem Rf_PairsErr.calls (k : Nat) (A0 : Option Addr) (c0 : Nat) (l0 : List (S165)) (r : Int) (w : World) (hr0 : Kd.C k165 w A0 l0.length l0) (hc0 : l0.length ≤ c0) (h : Rf_PairsErr.f k l0 = some r) :
    Calls Try.prog 51 #[.slice A0 l0.length c0] w fun e w' => e = .returned (.int .i64 r) ∧ Below w.heap.size w w' := by
  have HR0 := m0 hr0
  have HC0 := m0 hc0
  clear hr0 hc0
  have HB := m0 (Below.refl w.heap.size w)
  have H : (if (l0.length : Int) = 0 then (some 10) else (if (l0.length : Int) > 20 then (some 8) else (Rf_PairsErr.l0 k l0 0))) = some r := h
  clear h
  by_cases c2 : (l0.length : Int) = 0
  · rw [if_pos c2] at H
    have c2b0 := beq_iff_eq.mpr c2
    have c2b1 := bne_eq_false_iff_eq.mpr c2
    clear c2
    obtain rfl := Option.some.inj H
    go_enter Try.func51, Try.ntmps51
    go_wp2
    go_ret
    exact ez
  · rw [if_neg c2] at H
    have c2b0 := beq_eq_false_iff_ne.mpr c2
    have c2b1 := bne_iff_ne.mpr c2
    have c2b2 : ¬ (l0 = []) := fun h_ => c2 (by rw [h_]; rfl)
    by_cases c3 : (l0.length : Int) > 20
    · rw [if_pos c3] at H
      have c3b0 := decide_eq_true c3
      have c3b1 : decide (20 < l0.length) = true := decide_eq_true (by omega)
      clear c3
      obtain rfl := Option.some.inj H
      go_enter Try.func51, Try.ntmps51
      go_wp2
      go_ret
      exact ez
    · rw [if_neg c3] at H
      have c3b0 := decide_eq_false c3
      have c3b1 : decide (20 < l0.length) = false := decide_eq_false (by omega)
      clear c3
      have H' := m0 H
      clear H
      go_enter Try.func51, Try.ntmps51
      go_wp2
      go_loopg [3] k (fun kq v3 w' => ∃ (x3_1 : Int), v3 = .int .i64 x3_1 ∧ Aside0 (Rf_PairsErr.l0 kq l0 x3_1 = some r) ∧ Aside0 (kq ≤ k) ∧ Aside0 (Below w.heap.size w w'))
      case atStart => exact ⟨(0), (by first | rfl | (simp; done) | (simp [*]; done)), H', ⟨Nat.le_refl _⟩, ⟨bz⟩⟩
      case round =>
        clear H'
        obtain ⟨x3_1, rfl, HA, HK1, HB⟩ := hrel
        cases gk with
        | zero => exact absurd HA.out (by simp [Rf_PairsErr.l0])
        | succ k1 =>
          have H := HA.out
          clear HA
          simp only [Rf_PairsErr.l0] at H
          by_cases c4 : x3_1 < (l0.length : Int)
          · rw [if_pos c4] at H
            have c4b0 := decide_eq_true c4
            clear c4
            by_cases c5 : 0 ≤ x3_1
            · rw [if_pos c5] at H
              have c5b0 := decide_eq_true c5
              clear c5
              obtain ⟨y1228, hy1228⟩ : ∃ y_ : List Int, y_ = (([(rd_T165 l0 x3_1).f0.f0, (rd_T165 l0 x3_1).f0.f1, (rd_T165 l0 x3_1).f1.f0, (rd_T165 l0 x3_1).f1.f1] : List Int)) := ⟨_, rfl⟩
              replace H : (Rf_PairsErr.l1 k1 l0 x3_1 y1228 0) = some r := by first | (rw [hy1228]; with_reducible exact H) | (have H2_ := (Option.bind_some _ _).symm.trans H; rw [hy1228]; with_reducible exact H2_) | (have H2_ := (Option.bind_some _ _).symm.trans H; with_reducible exact H2_) | with_reducible exact H | (rw [hy1228]; exact H) | exact H
              have Ny1228 := m0 hy1228
              clear hy1228
              have H' := m0 H
              clear H
              try go_wp2
              replace HB := sd HB
              have p1224 : 0 ≤ (x3_1 : Int) := od
              have q1224 : x3_1 < (l0.length : Int) := od
              obtain ⟨ad1224, e1224, hx1224_0, hx1224_1, hx1224_2, hx1224_3⟩ := at_T165 HR0.out x3_1 p1224 q1224
              have hw1224_3 := hx1224_3
              have hw1224_2 := hx1224_2
              have hw1224_1 := hx1224_1
              have hw1224_0 := hx1224_0
              cases e1224
              replace hx1224_0 := (HB.out.cell (World.block_lt_of_cell? w _ hx1224_0)).trans hx1224_0
              replace hx1224_1 := (HB.out.cell (World.block_lt_of_cell? w _ hx1224_1)).trans hx1224_1
              replace hx1224_2 := (HB.out.cell (World.block_lt_of_cell? w _ hx1224_2)).trans hx1224_2
              replace hx1224_3 := (HB.out.cell (World.block_lt_of_cell? w _ hx1224_3)).trans hx1224_3
              replace p1224 := eq_true p1224
              replace q1224 := eq_true q1224
              have p1225 : 0 ≤ (x3_1 : Int) := od
              have q1225 : x3_1 < (l0.length : Int) := od
              obtain ⟨ad1225, e1225, hx1225_0, hx1225_1, hx1225_2, hx1225_3⟩ := at_T165 HR0.out x3_1 p1225 q1225
              have hw1225_3 := hx1225_3
              have hw1225_2 := hx1225_2
              have hw1225_1 := hx1225_1
              have hw1225_0 := hx1225_0
              obtain rfl : ad1224 = ad1225 := (by injection e1225)
              replace hx1225_0 := (HB.out.cell (World.block_lt_of_cell? w _ hx1225_0)).trans hx1225_0
              replace hx1225_1 := (HB.out.cell (World.block_lt_of_cell? w _ hx1225_1)).trans hx1225_1
              replace hx1225_2 := (HB.out.cell (World.block_lt_of_cell? w _ hx1225_2)).trans hx1225_2
              replace hx1225_3 := (HB.out.cell (World.block_lt_of_cell? w _ hx1225_3)).trans hx1225_3
              replace p1225 := eq_true p1225
              replace q1225 := eq_true q1225
              have p1226 : 0 ≤ (x3_1 : Int) := od
              have q1226 : x3_1 < (l0.length : Int) := od
              obtain ⟨ad1226, e1226, hx1226_0, hx1226_1, hx1226_2, hx1226_3⟩ := at_T165 HR0.out x3_1 p1226 q1226
              have hw1226_3 := hx1226_3
              have hw1226_2 := hx1226_2
              have hw1226_1 := hx1226_1
              have hw1226_0 := hx1226_0
              obtain rfl : ad1224 = ad1226 := (by injection e1226)
              replace hx1226_0 := (HB.out.cell (World.block_lt_of_cell? w _ hx1226_0)).trans hx1226_0
              replace hx1226_1 := (HB.out.cell (World.block_lt_of_cell? w _ hx1226_1)).trans hx1226_1
              replace hx1226_2 := (HB.out.cell (World.block_lt_of_cell? w _ hx1226_2)).trans hx1226_2
              replace hx1226_3 := (HB.out.cell (World.block_lt_of_cell? w _ hx1226_3)).trans hx1226_3
              replace p1226 := eq_true p1226
              replace q1226 := eq_true q1226
              have p1227 : 0 ≤ (x3_1 : Int) := od
              have q1227 : x3_1 < (l0.length : Int) := od
              obtain ⟨ad1227, e1227, hx1227_0, hx1227_1, hx1227_2, hx1227_3⟩ := at_T165 HR0.out x3_1 p1227 q1227
              have hw1227_3 := hx1227_3
              have hw1227_2 := hx1227_2
              have hw1227_1 := hx1227_1
              have hw1227_0 := hx1227_0
              obtain rfl : ad1224 = ad1227 := (by injection e1227)
              replace hx1227_0 := (HB.out.cell (World.block_lt_of_cell? w _ hx1227_0)).trans hx1227_0
              replace hx1227_1 := (HB.out.cell (World.block_lt_of_cell? w _ hx1227_1)).trans hx1227_1
              replace hx1227_2 := (HB.out.cell (World.block_lt_of_cell? w _ hx1227_2)).trans hx1227_2
              replace hx1227_3 := (HB.out.cell (World.block_lt_of_cell? w _ hx1227_3)).trans hx1227_3
              replace p1227 := eq_true p1227
              replace q1227 := eq_true q1227
              refine start_ (n := 26) (S := fun w' => w'.cell? (ad1224.add ((x3_1).toNat * 4)) = some (.int .i64 ((rd_T165 l0 x3_1).f0.f0)) ∧ w'.cell? ⟨(ad1224.add ((x3_1).toNat * 4)).block, (ad1224.add ((x3_1).toNat * 4)).off + 1, none⟩ = some (.int .i64 ((rd_T165 l0 x3_1).f0.f1)) ∧ w'.cell? ⟨(ad1224.add ((x3_1).toNat * 4)).block, (ad1224.add ((x3_1).toNat * 4)).off + 2, none⟩ = some (.int .i64 ((rd_T165 l0 x3_1).f1.f0)) ∧ w'.cell? ⟨(ad1224.add ((x3_1).toNat * 4)).block, (ad1224.add ((x3_1).toNat * 4)).off + 3, none⟩ = some (.int .i64 ((rd_T165 l0 x3_1).f1.f1)) ∧ w'.cell? (ad1224.add ((x3_1).toNat * 4)) = some (.int .i64 ((rd_T165 l0 x3_1).f0.f0)) ∧ w'.cell? ⟨(ad1224.add ((x3_1).toNat * 4)).block, (ad1224.add ((x3_1).toNat * 4)).off + 1, none⟩ = some (.int .i64 ((rd_T165 l0 x3_1).f0.f1)) ∧ w'.cell? ⟨(ad1224.add ((x3_1).toNat * 4)).block, (ad1224.add ((x3_1).toNat * 4)).off + 2, none⟩ = some (.int .i64 ((rd_T165 l0 x3_1).f1.f0)) ∧ w'.cell? ⟨(ad1224.add ((x3_1).toNat * 4)).block, (ad1224.add ((x3_1).toNat * 4)).off + 3, none⟩ = some (.int .i64 ((rd_T165 l0 x3_1).f1.f1)) ∧ w'.cell? (ad1224.add ((x3_1).toNat * 4)) = some (.int .i64 ((rd_T165 l0 x3_1).f0.f0)) ∧ w'.cell? ⟨(ad1224.add ((x3_1).toNat * 4)).block, (ad1224.add ((x3_1).toNat * 4)).off + 1, none⟩ = some (.int .i64 ((rd_T165 l0 x3_1).f0.f1)) ∧ w'.cell? ⟨(ad1224.add ((x3_1).toNat * 4)).block, (ad1224.add ((x3_1).toNat * 4)).off + 2, none⟩ = some (.int .i64 ((rd_T165 l0 x3_1).f1.f0)) ∧ w'.cell? ⟨(ad1224.add ((x3_1).toNat * 4)).block, (ad1224.add ((x3_1).toNat * 4)).off + 3, none⟩ = some (.int .i64 ((rd_T165 l0 x3_1).f1.f1)) ∧ w'.cell? (ad1224.add ((x3_1).toNat * 4)) = some (.int .i64 ((rd_T165 l0 x3_1).f0.f0)) ∧ w'.cell? ⟨(ad1224.add ((x3_1).toNat * 4)).block, (ad1224.add ((x3_1).toNat * 4)).off + 1, none⟩ = some (.int .i64 ((rd_T165 l0 x3_1).f0.f1)) ∧ w'.cell? ⟨(ad1224.add ((x3_1).toNat * 4)).block, (ad1224.add ((x3_1).toNat * 4)).off + 2, none⟩ = some (.int .i64 ((rd_T165 l0 x3_1).f1.f0)) ∧ w'.cell? ⟨(ad1224.add ((x3_1).toNat * 4)).block, (ad1224.add ((x3_1).toNat * 4)).off + 3, none⟩ = some (.int .i64 ((rd_T165 l0 x3_1).f1.f1))) (ds := []) #[false, false, false, false, false, false, false, false, false, false, false, false, false, false, false, false, false, false, false, false, false, false, false, false, false, false] (by kernel_rfl) rfl rfl ⟨((HB.out.cell (World.block_lt_of_cell? w _ hw1224_0)).trans hw1224_0), ((HB.out.cell (World.block_lt_of_cell? w _ hw1224_1)).trans hw1224_1), ((HB.out.cell (World.block_lt_of_cell? w _ hw1224_2)).trans hw1224_2), ((HB.out.cell (World.block_lt_of_cell? w _ hw1224_3)).trans hw1224_3), ((HB.out.cell (World.block_lt_of_cell? w _ hw1225_0)).trans hw1225_0), ((HB.out.cell (World.block_lt_of_cell? w _ hw1225_1)).trans hw1225_1), ((HB.out.cell (World.block_lt_of_cell? w _ hw1225_2)).trans hw1225_2), ((HB.out.cell (World.block_lt_of_cell? w _ hw1225_3)).trans hw1225_3), ((HB.out.cell (World.block_lt_of_cell? w _ hw1226_0)).trans hw1226_0), ((HB.out.cell (World.block_lt_of_cell? w _ hw1226_1)).trans hw1226_1), ((HB.out.cell (World.block_lt_of_cell? w _ hw1226_2)).trans hw1226_2), ((HB.out.cell (World.block_lt_of_cell? w _ hw1226_3)).trans hw1226_3), ((HB.out.cell (World.block_lt_of_cell? w _ hw1227_0)).trans hw1227_0), ((HB.out.cell (World.block_lt_of_cell? w _ hw1227_1)).trans hw1227_1), ((HB.out.cell (World.block_lt_of_cell? w _ hw1227_2)).trans hw1227_2), ((HB.out.cell (World.block_lt_of_cell? w _ hw1227_3)).trans hw1227_3)⟩ (fun hH => ?_); refine with_tabW Rf_PairsErr.tab8 Rf_PairsErr.bits8 (fun HT_ HW_ => ?_)
              generalize wr.drew = w6 at HB hx1224_0 hx1224_1 hx1224_2 hx1224_3 hx1225_0 hx1225_1 hx1225_2 hx1225_3 hx1226_0 hx1226_1 hx1226_2 hx1226_3 hx1227_0 hx1227_1 hx1227_2 hx1227_3 hH ⊢
              refine pZ 0 (some 18) (bs 26 1) HT_ ?_
              refine pZ 1 (some 19) (bs 26 3) HT_ ?_
              refine pZ 2 (some 20) (bs 26 7) HT_ ?_
              refine pZ 3 (some 21) (bs 26 15) HT_ ?_
              refine pZ 4 (some 22) (bs 26 31) HT_ ?_
              refine pZ 6 (some 24) (bs 26 95) HT_ ?_
              refine pZ 7 (some 25) (bs 26 223) HT_ ?_
              refine pZ 8 (some 26) (bs 26 479) HT_ ?_
              refine pZ 9 (some 27) (bs 26 991) HT_ ?_
              refine pZ 10 (some 28) (bs 26 2015) HT_ ?_
              refine pZ 12 (some 30) (bs 26 6111) HT_ ?_
              refine pZ 13 (some 31) (bs 26 14303) HT_ ?_
              refine pZ 14 (some 32) (bs 26 30687) HT_ ?_
              refine pZ 15 (some 33) (bs 26 63455) HT_ ?_
              refine pZ 16 (some 34) (bs 26 128991) HT_ ?_
              refine pZ 18 (some 36) (bs 26 391135) HT_ ?_
              refine pZ 19 (some 37) (bs 26 915423) HT_ ?_
              refine pZ 20 (some 38) (bs 26 1963999) HT_ ?_
              refine pZ 21 (some 39) (bs 26 4061151) HT_ ?_
              refine pZ 22 (some 40) (bs 26 8255455) HT_ ?_
              refine takeZ 5 (some 23) (bs 26 8255487) (take_ofW HT_.out HW_.out (by kernel_rfl)) hH ?_
              refine takeZ 11 (some 29) (bs 26 8257535) (take_ofW HT_.out HW_.out (by kernel_rfl)) hH ?_
              refine takeZ 17 (some 35) (bs 26 8388607) (take_ofW HT_.out HW_.out (by kernel_rfl)) hH ?_
              refine takeZ 23 (some 41) (bs 26 16777215) (take_ofW HT_.out HW_.out (by kernel_rfl)) hH ?_
              refine oneZ 24 (some 42) (bs 26 33554431) (one_of HT_.out (by kernel_rfl)) fun K hK => ?_
              refine Kd.R_lit_step (Kd.int .i64) _ 3 ?hg (N := 42) ?hd (xs := ([(rd_T165 l0 x3_1).f0.f0, (rd_T165 l0 x3_1).f0.f1, (rd_T165 l0 x3_1).f1.f0, (rd_T165 l0 x3_1).f1.f1] : List Int)) (inner := [.int .i64 ((rd_T165 l0 x3_1).f0.f0), .int .i64 ((rd_T165 l0 x3_1).f0.f1), .int .i64 ((rd_T165 l0 x3_1).f1.f0), .int .i64 ((rd_T165 l0 x3_1).f1.f1)]) (ok := fun _ => True) (okp := fun _ => True) ?hr ?hp (fun _ hk => hk) trivial (Below.refl _ _) (Nat.le_refl _) (by simp) ?_; (case hd => rfl); (case hg => rfl); (case hr => first | (go_simp; done) | (go_simp; rfl)); (case hp => exact (Reps.one (show Kd.M (Kd.int .i64) _ _ _ ((rd_T165 l0 x3_1).f0.f0) [.int .i64 ((rd_T165 l0 x3_1).f0.f0)] from rfl) (Reps.one (show Kd.M (Kd.int .i64) _ _ _ ((rd_T165 l0 x3_1).f0.f1) [.int .i64 ((rd_T165 l0 x3_1).f0.f1)] from rfl) (Reps.one (show Kd.M (Kd.int .i64) _ _ _ ((rd_T165 l0 x3_1).f1.f0) [.int .i64 ((rd_T165 l0 x3_1).f1.f0)] from rfl) (Reps.one (show Kd.M (Kd.int .i64) _ _ _ ((rd_T165 l0 x3_1).f1.f1) [.int .i64 ((rd_T165 l0 x3_1).f1.f1)] from rfl) (Reps.none _ _))))))
              intro v1229 w7 ho8 hb hg_ hnew_
              clear hg_ hnew_
              (first | rw [← Ny1228.out] at ho8 | (simp only [Int.reduceToNat] at ho8; rw [← Ny1228.out] at ho8))
              have HO1230 := m0 (Kd.R_lower ho8 (below_size bz)); replace HB := sb HB hb
              clear hb ho8
              refine hK.out _ _ ⟨((HB.out.cell (World.block_lt_of_cell? w _ hw1224_0)).trans hw1224_0), ((HB.out.cell (World.block_lt_of_cell? w _ hw1224_1)).trans hw1224_1), ((HB.out.cell (World.block_lt_of_cell? w _ hw1224_2)).trans hw1224_2), ((HB.out.cell (World.block_lt_of_cell? w _ hw1224_3)).trans hw1224_3), ((HB.out.cell (World.block_lt_of_cell? w _ hw1225_0)).trans hw1225_0), ((HB.out.cell (World.block_lt_of_cell? w _ hw1225_1)).trans hw1225_1), ((HB.out.cell (World.block_lt_of_cell? w _ hw1225_2)).trans hw1225_2), ((HB.out.cell (World.block_lt_of_cell? w _ hw1225_3)).trans hw1225_3), ((HB.out.cell (World.block_lt_of_cell? w _ hw1226_0)).trans hw1226_0), ((HB.out.cell (World.block_lt_of_cell? w _ hw1226_1)).trans hw1226_1), ((HB.out.cell (World.block_lt_of_cell? w _ hw1226_2)).trans hw1226_2), ((HB.out.cell (World.block_lt_of_cell? w _ hw1226_3)).trans hw1226_3), ((HB.out.cell (World.block_lt_of_cell? w _ hw1227_0)).trans hw1227_0), ((HB.out.cell (World.block_lt_of_cell? w _ hw1227_1)).trans hw1227_1), ((HB.out.cell (World.block_lt_of_cell? w _ hw1227_2)).trans hw1227_2), ((HB.out.cell (World.block_lt_of_cell? w _ hw1227_3)).trans hw1227_3)⟩ (fun hH => ?_)
              clear hK K
              refine norm_ (a' := ?_) ?_ ?_
              rotate_left
              · show Act.put _ (some 42) _ = _
                exact pz
              refine pZ 25 (some 4) (bs 26 67108863) HT_ ?_
              refine done_ (done_of HT_.out (by kernel_rfl)) ?_
              try go_wp2
              go_loopg [5] k1 (fun kq v5 w' => ∃ (x5_2 : Int), v5 = .int .i64 x5_2 ∧ Aside0 (Rf_PairsErr.l1 kq l0 x3_1 y1228 x5_2 = some r) ∧ Aside0 (kq ≤ k1) ∧ Aside0 (Kd.R (Kd.int .i64) 3 w' w.heap.size (fun _ => True) v1229 y1228) ∧ Aside0 (Below w.heap.size w w'))
              case atStart => exact ⟨(0), (by first | rfl | (simp; done) | (simp [*]; done)), H', ⟨Nat.le_refl _⟩, ⟨br HO1230.out⟩, ⟨bz⟩⟩
              case round =>
                clear H'
                try clear hx1
                try clear hx1224_0
                try clear hx1224_1
                try clear hx1224_2
                try clear hx1224_3
                try clear hx1225_0
                try clear hx1225_1
                try clear hx1225_2
                try clear hx1225_3
                try clear hx1226_0
                try clear hx1226_1
                try clear hx1226_2
                try clear hx1226_3
                try clear hx1227_0
                try clear hx1227_1
                try clear hx1227_2
                try clear hx1227_3
                obtain ⟨x5_2, rfl, HA, HK2, HO_4, HB⟩ := hrel
                cases gk with
                | zero => exact absurd HA.out (by simp [Rf_PairsErr.l1])
                | succ k2 =>
                  have H := HA.out
                  clear HA
                  simp only [Rf_PairsErr.l1] at H
                  by_cases c9 : x5_2 < (y1228.length : Int)
                  · rw [if_pos c9] at H
                    have c9b0 := decide_eq_true c9
                    clear c9
                    by_cases c10 : 0 ≤ x5_2
                    · rw [if_pos c10] at H
                      have c10b0 := decide_eq_true c10
                      clear c10
                      replace H := ob H
                      obtain ⟨t1232, A11, H⟩ := H
                      (try dsimp only at H)
                      replace A11 := m0 A11
                      by_cases c12 : t1232 = true
                      · subst c12
                        rw [if_pos rfl] at H
                        have H' := m0 H
                        clear H
                        obtain ⟨Ao13, co13, eo13⟩ := Kd.R_slice HO_4.out
                        subst eo13
                        have p1231 : 0 ≤ (x5_2 : Int) := od
                        have q1231 : x5_2 < (y1228.length : Int) := od
                        obtain ⟨ad1231, e1231, hx1231_0⟩ := Kd.at_int (Kd.R_reads' HO_4.out).2.2 x5_2 p1231 q1231
                        cases e1231
                        replace p1231 := eq_true p1231
                        replace q1231 := eq_true q1231
                        go_wp2_with (first | ((with_reducible refine gate_callee (f := 24) rfl ?_); refine gl (some 53) Try.func24 #[.int .i64 (rd y1228 x5_2), .int .i64 (-10000), .int .i64 10000] ?_; (with_reducible refine (Bs_Within.calls (rd y1228 x5_2) (-10000) 10000 true _ A11.out).mono ?_); rintro e w' ⟨rfl, ⟨nd, rfl⟩⟩; refine ⟨_, rfl, ?_⟩))
                        go_roundg k2
                        case measure => have := HK1.out; have := HK2.out; omega
                        case rel => exact ⟨(wrap64 (x5_2 + 1)), (by first | rfl | (simp; done) | (simp [*]; done)), H', ⟨by have := HK1.out; have := HK2.out; omega⟩, ⟨br HO_4.out⟩, ⟨bz⟩⟩
                      · replace c12 := Bool.eq_false_iff.mpr c12
                        subst c12
                        rw [if_neg (show ¬ (false = true) by decide)] at H
                        obtain rfl := Option.some.inj H
                        obtain ⟨Ao14, co14, eo14⟩ := Kd.R_slice HO_4.out
                        subst eo14
                        have p1231 : 0 ≤ (x5_2 : Int) := od
                        have q1231 : x5_2 < (y1228.length : Int) := od
                        obtain ⟨ad1231, e1231, hx1231_0⟩ := Kd.at_int (Kd.R_reads' HO_4.out).2.2 x5_2 p1231 q1231
                        cases e1231
                        replace p1231 := eq_true p1231
                        replace q1231 := eq_true q1231
                        go_wp2_with (first | ((with_reducible refine gate_callee (f := 24) rfl ?_); refine gl (some 53) Try.func24 #[.int .i64 (rd y1228 x5_2), .int .i64 (-10000), .int .i64 10000] ?_; (with_reducible refine (Bs_Within.calls (rd y1228 x5_2) (-10000) 10000 false _ A11.out).mono ?_); rintro e w' ⟨rfl, ⟨nd, rfl⟩⟩; refine ⟨_, rfl, ?_⟩))
                        go_ret
                        exact ez
                    · rw [if_neg c10] at H
                      exact absurd H (by simp)
                  · rw [if_neg c9] at H
                    have c9b0 := decide_eq_false c9
                    clear c9
                    by_cases c15 : 0 ≤ x3_1
                    · rw [if_pos c15] at H
                      have c15b0 := decide_eq_true c15
                      clear c15
                      by_cases c16 : x3_1 < (l0.length : Int)
                      · rw [if_pos c16] at H
                        have c16b0 := decide_eq_true c16
                        clear c16
                        by_cases c17 : ((rd_T165 l0 x3_1).f0.f0) > ((rd_T165 l0 x3_1).f0.f1)
                        · rw [if_pos c17] at H
                          have c17b0 := decide_eq_true c17
                          clear c17
                          obtain rfl := Option.some.inj H
                          obtain ⟨Ao18, co18, eo18⟩ := Kd.R_slice HO_4.out
                          subst eo18
                          try go_wp2
                          replace HO_4 := m0 (Kd.R_drew HO_4.out); replace HB := sd HB
                          have p1233 : 0 ≤ (x3_1 : Int) := od
                          have q1233 : x3_1 < (l0.length : Int) := od
                          obtain ⟨ad1233, e1233, hx1233_0, hx1233_1, hx1233_2, hx1233_3⟩ := at_T165 HR0.out x3_1 p1233 q1233
                          have hw1233_3 := hx1233_3
                          have hw1233_2 := hx1233_2
                          have hw1233_1 := hx1233_1
                          have hw1233_0 := hx1233_0
                          obtain rfl : ad1224 = ad1233 := (by injection e1233)
                          replace hx1233_0 := (HB.out.cell (World.block_lt_of_cell? w _ hx1233_0)).trans hx1233_0
                          replace hx1233_1 := (HB.out.cell (World.block_lt_of_cell? w _ hx1233_1)).trans hx1233_1
                          replace hx1233_2 := (HB.out.cell (World.block_lt_of_cell? w _ hx1233_2)).trans hx1233_2
                          replace hx1233_3 := (HB.out.cell (World.block_lt_of_cell? w _ hx1233_3)).trans hx1233_3
                          replace p1233 := eq_true p1233
                          replace q1233 := eq_true q1233
                          have p1234 : 0 ≤ (x3_1 : Int) := od
                          have q1234 : x3_1 < (l0.length : Int) := od
                          obtain ⟨ad1234, e1234, hx1234_0, hx1234_1, hx1234_2, hx1234_3⟩ := at_T165 HR0.out x3_1 p1234 q1234
                          have hw1234_3 := hx1234_3
                          have hw1234_2 := hx1234_2
                          have hw1234_1 := hx1234_1
                          have hw1234_0 := hx1234_0
                          obtain rfl : ad1224 = ad1234 := (by injection e1234)
                          replace hx1234_0 := (HB.out.cell (World.block_lt_of_cell? w _ hx1234_0)).trans hx1234_0
                          replace hx1234_1 := (HB.out.cell (World.block_lt_of_cell? w _ hx1234_1)).trans hx1234_1
                          replace hx1234_2 := (HB.out.cell (World.block_lt_of_cell? w _ hx1234_2)).trans hx1234_2
                          replace hx1234_3 := (HB.out.cell (World.block_lt_of_cell? w _ hx1234_3)).trans hx1234_3
                          replace p1234 := eq_true p1234
                          replace q1234 := eq_true q1234
                          refine start_ (n := 28) (S := fun w' => w'.cell? (ad1224.add ((x3_1).toNat * 4)) = some (.int .i64 ((rd_T165 l0 x3_1).f0.f0)) ∧ w'.cell? ⟨(ad1224.add ((x3_1).toNat * 4)).block, (ad1224.add ((x3_1).toNat * 4)).off + 1, none⟩ = some (.int .i64 ((rd_T165 l0 x3_1).f0.f1)) ∧ w'.cell? ⟨(ad1224.add ((x3_1).toNat * 4)).block, (ad1224.add ((x3_1).toNat * 4)).off + 2, none⟩ = some (.int .i64 ((rd_T165 l0 x3_1).f1.f0)) ∧ w'.cell? ⟨(ad1224.add ((x3_1).toNat * 4)).block, (ad1224.add ((x3_1).toNat * 4)).off + 3, none⟩ = some (.int .i64 ((rd_T165 l0 x3_1).f1.f1)) ∧ w'.cell? (ad1224.add ((x3_1).toNat * 4)) = some (.int .i64 ((rd_T165 l0 x3_1).f0.f0)) ∧ w'.cell? ⟨(ad1224.add ((x3_1).toNat * 4)).block, (ad1224.add ((x3_1).toNat * 4)).off + 1, none⟩ = some (.int .i64 ((rd_T165 l0 x3_1).f0.f1)) ∧ w'.cell? ⟨(ad1224.add ((x3_1).toNat * 4)).block, (ad1224.add ((x3_1).toNat * 4)).off + 2, none⟩ = some (.int .i64 ((rd_T165 l0 x3_1).f1.f0)) ∧ w'.cell? ⟨(ad1224.add ((x3_1).toNat * 4)).block, (ad1224.add ((x3_1).toNat * 4)).off + 3, none⟩ = some (.int .i64 ((rd_T165 l0 x3_1).f1.f1))) (ds := []) #[false, false, false, false, false, false, false, false, false, false, false, false, false, false, false, false, false, false, false, false, false, false, false, false, false, false, false, false] (by kernel_rfl) rfl rfl ⟨((HB.out.cell (World.block_lt_of_cell? w _ hw1233_0)).trans hw1233_0), ((HB.out.cell (World.block_lt_of_cell? w _ hw1233_1)).trans hw1233_1), ((HB.out.cell (World.block_lt_of_cell? w _ hw1233_2)).trans hw1233_2), ((HB.out.cell (World.block_lt_of_cell? w _ hw1233_3)).trans hw1233_3), ((HB.out.cell (World.block_lt_of_cell? w _ hw1234_0)).trans hw1234_0), ((HB.out.cell (World.block_lt_of_cell? w _ hw1234_1)).trans hw1234_1), ((HB.out.cell (World.block_lt_of_cell? w _ hw1234_2)).trans hw1234_2), ((HB.out.cell (World.block_lt_of_cell? w _ hw1234_3)).trans hw1234_3)⟩ (fun hH => ?_); refine with_tabW Rf_PairsErr.tab14 Rf_PairsErr.bits14 (fun HT_ HW_ => ?_)
                          generalize wr.drew = w19 at HO_4 HB hx1233_0 hx1233_1 hx1233_2 hx1233_3 hx1234_0 hx1234_1 hx1234_2 hx1234_3 hH ⊢
                          refine pZ 0 (some 55) (bs 28 1) HT_ ?_
                          refine pZ 1 (some 56) (bs 28 3) HT_ ?_
                          refine pZ 2 (some 57) (bs 28 7) HT_ ?_
                          refine pZ 3 (some 58) (bs 28 15) HT_ ?_
                          refine pZ 4 (some 59) (bs 28 31) HT_ ?_
                          refine pZ 6 (some 61) (bs 28 95) HT_ ?_
                          refine pZ 7 (some 62) (bs 28 223) HT_ ?_
                          refine pZ 8 (some 63) (bs 28 479) HT_ ?_
                          refine pZ 9 (some 64) (bs 28 991) HT_ ?_
                          refine pZ 10 (some 65) (bs 28 2015) HT_ ?_
                          refine takeZ 5 (some 60) (bs 28 2047) (take_ofW HT_.out HW_.out (by kernel_rfl)) hH ?_
                          refine takeZ 11 (some 66) (bs 28 4095) (take_ofW HT_.out HW_.out (by kernel_rfl)) hH ?_
                          refine pZ 12 (some 67) (bs 28 8191) HT_ ?_
                          refine pZ 13 (some 68) (bs 28 16383) HT_ ?_
                          refine pure_ (i := 14) (N := some 69) (v := undef) (a' := ?_) (bs 28 32767) rfl rfl (any_of HT_.out (by kernel_rfl)) (fun _ _ _ h => h) (Or.inr ⟨by rfl, rfl⟩) ?_ ?_
                          rotate_left
                          · exact pz
                          refine pure_ (i := 15) (N := some 70) (v := undef) (a' := ?_) (bs 28 65535) rfl rfl (any_of HT_.out (by kernel_rfl)) (fun _ _ _ h => h) (Or.inr ⟨by rfl, rfl⟩) ?_ ?_
                          rotate_left
                          · exact pz
                          refine pure_ (i := 16) (N := some 71) (v := undef) (a' := ?_) (bs 28 131071) rfl rfl (any_of HT_.out (by kernel_rfl)) (fun _ _ _ h => h) (Or.inr ⟨by rfl, rfl⟩) ?_ ?_
                          rotate_left
                          · exact pz
                          refine pure_ (i := 17) (N := some 72) (v := undef) (a' := ?_) (bs 28 262143) rfl rfl (any_of HT_.out (by kernel_rfl)) (fun _ _ _ h => h) (Or.inr ⟨by rfl, rfl⟩) ?_ ?_
                          rotate_left
                          · exact pz
                          refine pure_ (i := 18) (N := some 73) (v := undef) (a' := ?_) (bs 28 524287) rfl rfl (any_of HT_.out (by kernel_rfl)) (fun _ _ _ h => h) (Or.inr ⟨by rfl, rfl⟩) ?_ ?_
                          rotate_left
                          · exact pz
                          refine pure_ (i := 19) (N := some 74) (v := undef) (a' := ?_) (bs 28 1048575) rfl rfl (any_of HT_.out (by kernel_rfl)) (fun _ _ _ h => h) (Or.inr ⟨by rfl, rfl⟩) ?_ ?_
                          rotate_left
                          · exact pz
                          refine pure_ (i := 20) (N := some 75) (v := undef) (a' := ?_) (bs 28 2097151) rfl rfl (any_of HT_.out (by kernel_rfl)) (fun _ _ _ h => h) (Or.inr ⟨by rfl, rfl⟩) ?_ ?_
                          rotate_left
                          · exact pz
                          refine pure_ (i := 21) (N := some 76) (v := undef) (a' := ?_) (bs 28 4194303) rfl rfl (any_of HT_.out (by kernel_rfl)) (fun _ _ _ h => h) (Or.inr ⟨by rfl, rfl⟩) ?_ ?_
                          rotate_left
                          · exact pz
                          refine pure_ (i := 22) (N := some 77) (v := undef) (a' := ?_) (bs 28 8388607) rfl rfl (any_of HT_.out (by kernel_rfl)) (fun _ _ _ h => h) (Or.inr ⟨by rfl, rfl⟩) ?_ ?_
                          rotate_left
                          · exact pz
                          refine pure_ (i := 23) (N := some 78) (v := undef) (a' := ?_) (bs 28 16777215) rfl rfl (any_of HT_.out (by kernel_rfl)) (fun _ _ _ h => h) (Or.inr ⟨by rfl, rfl⟩) ?_ ?_
                          rotate_left
                          · exact pz
                          refine pure_ (i := 24) (N := some 79) (v := undef) (a' := ?_) (bs 28 33554431) rfl rfl (any_of HT_.out (by kernel_rfl)) (fun _ _ _ h => h) (Or.inr ⟨by rfl, rfl⟩) ?_ ?_
                          rotate_left
                          · exact pz
                          refine pure_ (i := 25) (N := some 80) (v := undef) (a' := ?_) (bs 28 67108863) rfl rfl (any_of HT_.out (by kernel_rfl)) (fun _ _ _ h => h) (Or.inr ⟨by rfl, rfl⟩) ?_ ?_
                          rotate_left
                          · exact pz
                          refine pure_ (i := 26) (N := some 81) (v := undef) (a' := ?_) (bs 28 134217727) rfl rfl (any_of HT_.out (by kernel_rfl)) (fun _ _ _ h => h) (Or.inr ⟨by rfl, rfl⟩) ?_ ?_
                          rotate_left
                          · exact pz
                          refine pZ 27 (some 82) (bs 28 268435455) HT_ ?_
                          refine done_ (done_of HT_.out (by kernel_rfl)) ?_
                          try go_wp2
                          go_ret
                          exact ez
                        · rw [if_neg c17] at H
                          have c17b0 := decide_eq_false c17
                          clear c17
                          by_cases c20 : ((rd_T165 l0 x3_1).f1.f0) > ((rd_T165 l0 x3_1).f1.f1)
                          · rw [if_pos c20] at H
                            have c20b0 := decide_eq_true c20
                            clear c20
                            obtain rfl := Option.some.inj H
                            obtain ⟨Ao21, co21, eo21⟩ := Kd.R_slice HO_4.out
                            subst eo21
                            try go_wp2
                            replace HO_4 := m0 (Kd.R_drew HO_4.out); replace HB := sd HB
                            have p1233 : 0 ≤ (x3_1 : Int) := od
                            have q1233 : x3_1 < (l0.length : Int) := od
                            obtain ⟨ad1233, e1233, hx1233_0, hx1233_1, hx1233_2, hx1233_3⟩ := at_T165 HR0.out x3_1 p1233 q1233
                            have hw1233_3 := hx1233_3
                            have hw1233_2 := hx1233_2
                            have hw1233_1 := hx1233_1
                            have hw1233_0 := hx1233_0
                            obtain rfl : ad1224 = ad1233 := (by injection e1233)
                            replace hx1233_0 := (HB.out.cell (World.block_lt_of_cell? w _ hx1233_0)).trans hx1233_0
                            replace hx1233_1 := (HB.out.cell (World.block_lt_of_cell? w _ hx1233_1)).trans hx1233_1
                            replace hx1233_2 := (HB.out.cell (World.block_lt_of_cell? w _ hx1233_2)).trans hx1233_2
                            replace hx1233_3 := (HB.out.cell (World.block_lt_of_cell? w _ hx1233_3)).trans hx1233_3
                            replace p1233 := eq_true p1233
                            replace q1233 := eq_true q1233
                            have p1234 : 0 ≤ (x3_1 : Int) := od
                            have q1234 : x3_1 < (l0.length : Int) := od
                            obtain ⟨ad1234, e1234, hx1234_0, hx1234_1, hx1234_2, hx1234_3⟩ := at_T165 HR0.out x3_1 p1234 q1234
                            have hw1234_3 := hx1234_3
                            have hw1234_2 := hx1234_2
                            have hw1234_1 := hx1234_1
                            have hw1234_0 := hx1234_0
                            obtain rfl : ad1224 = ad1234 := (by injection e1234)
                            replace hx1234_0 := (HB.out.cell (World.block_lt_of_cell? w _ hx1234_0)).trans hx1234_0
                            replace hx1234_1 := (HB.out.cell (World.block_lt_of_cell? w _ hx1234_1)).trans hx1234_1
                            replace hx1234_2 := (HB.out.cell (World.block_lt_of_cell? w _ hx1234_2)).trans hx1234_2
                            replace hx1234_3 := (HB.out.cell (World.block_lt_of_cell? w _ hx1234_3)).trans hx1234_3
                            replace p1234 := eq_true p1234
                            replace q1234 := eq_true q1234
                            have p1235 : 0 ≤ (x3_1 : Int) := od
                            have q1235 : x3_1 < (l0.length : Int) := od
                            obtain ⟨ad1235, e1235, hx1235_0, hx1235_1, hx1235_2, hx1235_3⟩ := at_T165 HR0.out x3_1 p1235 q1235
                            have hw1235_3 := hx1235_3
                            have hw1235_2 := hx1235_2
                            have hw1235_1 := hx1235_1
                            have hw1235_0 := hx1235_0
                            obtain rfl : ad1224 = ad1235 := (by injection e1235)
                            replace hx1235_0 := (HB.out.cell (World.block_lt_of_cell? w _ hx1235_0)).trans hx1235_0
                            replace hx1235_1 := (HB.out.cell (World.block_lt_of_cell? w _ hx1235_1)).trans hx1235_1
                            replace hx1235_2 := (HB.out.cell (World.block_lt_of_cell? w _ hx1235_2)).trans hx1235_2
                            replace hx1235_3 := (HB.out.cell (World.block_lt_of_cell? w _ hx1235_3)).trans hx1235_3
                            replace p1235 := eq_true p1235
                            replace q1235 := eq_true q1235
                            have p1236 : 0 ≤ (x3_1 : Int) := od
                            have q1236 : x3_1 < (l0.length : Int) := od
                            obtain ⟨ad1236, e1236, hx1236_0, hx1236_1, hx1236_2, hx1236_3⟩ := at_T165 HR0.out x3_1 p1236 q1236
                            have hw1236_3 := hx1236_3
                            have hw1236_2 := hx1236_2
                            have hw1236_1 := hx1236_1
                            have hw1236_0 := hx1236_0
                            obtain rfl : ad1224 = ad1236 := (by injection e1236)
                            replace hx1236_0 := (HB.out.cell (World.block_lt_of_cell? w _ hx1236_0)).trans hx1236_0
                            replace hx1236_1 := (HB.out.cell (World.block_lt_of_cell? w _ hx1236_1)).trans hx1236_1
                            replace hx1236_2 := (HB.out.cell (World.block_lt_of_cell? w _ hx1236_2)).trans hx1236_2
                            replace hx1236_3 := (HB.out.cell (World.block_lt_of_cell? w _ hx1236_3)).trans hx1236_3
                            replace p1236 := eq_true p1236
                            replace q1236 := eq_true q1236
                            refine start_ (n := 28) (S := fun w' => w'.cell? (ad1224.add ((x3_1).toNat * 4)) = some (.int .i64 ((rd_T165 l0 x3_1).f0.f0)) ∧ w'.cell? ⟨(ad1224.add ((x3_1).toNat * 4)).block, (ad1224.add ((x3_1).toNat * 4)).off + 1, none⟩ = some (.int .i64 ((rd_T165 l0 x3_1).f0.f1)) ∧ w'.cell? ⟨(ad1224.add ((x3_1).toNat * 4)).block, (ad1224.add ((x3_1).toNat * 4)).off + 2, none⟩ = some (.int .i64 ((rd_T165 l0 x3_1).f1.f0)) ∧ w'.cell? ⟨(ad1224.add ((x3_1).toNat * 4)).block, (ad1224.add ((x3_1).toNat * 4)).off + 3, none⟩ = some (.int .i64 ((rd_T165 l0 x3_1).f1.f1)) ∧ w'.cell? (ad1224.add ((x3_1).toNat * 4)) = some (.int .i64 ((rd_T165 l0 x3_1).f0.f0)) ∧ w'.cell? ⟨(ad1224.add ((x3_1).toNat * 4)).block, (ad1224.add ((x3_1).toNat * 4)).off + 1, none⟩ = some (.int .i64 ((rd_T165 l0 x3_1).f0.f1)) ∧ w'.cell? ⟨(ad1224.add ((x3_1).toNat * 4)).block, (ad1224.add ((x3_1).toNat * 4)).off + 2, none⟩ = some (.int .i64 ((rd_T165 l0 x3_1).f1.f0)) ∧ w'.cell? ⟨(ad1224.add ((x3_1).toNat * 4)).block, (ad1224.add ((x3_1).toNat * 4)).off + 3, none⟩ = some (.int .i64 ((rd_T165 l0 x3_1).f1.f1)) ∧ w'.cell? (ad1224.add ((x3_1).toNat * 4)) = some (.int .i64 ((rd_T165 l0 x3_1).f0.f0)) ∧ w'.cell? ⟨(ad1224.add ((x3_1).toNat * 4)).block, (ad1224.add ((x3_1).toNat * 4)).off + 1, none⟩ = some (.int .i64 ((rd_T165 l0 x3_1).f0.f1)) ∧ w'.cell? ⟨(ad1224.add ((x3_1).toNat * 4)).block, (ad1224.add ((x3_1).toNat * 4)).off + 2, none⟩ = some (.int .i64 ((rd_T165 l0 x3_1).f1.f0)) ∧ w'.cell? ⟨(ad1224.add ((x3_1).toNat * 4)).block, (ad1224.add ((x3_1).toNat * 4)).off + 3, none⟩ = some (.int .i64 ((rd_T165 l0 x3_1).f1.f1)) ∧ w'.cell? (ad1224.add ((x3_1).toNat * 4)) = some (.int .i64 ((rd_T165 l0 x3_1).f0.f0)) ∧ w'.cell? ⟨(ad1224.add ((x3_1).toNat * 4)).block, (ad1224.add ((x3_1).toNat * 4)).off + 1, none⟩ = some (.int .i64 ((rd_T165 l0 x3_1).f0.f1)) ∧ w'.cell? ⟨(ad1224.add ((x3_1).toNat * 4)).block, (ad1224.add ((x3_1).toNat * 4)).off + 2, none⟩ = some (.int .i64 ((rd_T165 l0 x3_1).f1.f0)) ∧ w'.cell? ⟨(ad1224.add ((x3_1).toNat * 4)).block, (ad1224.add ((x3_1).toNat * 4)).off + 3, none⟩ = some (.int .i64 ((rd_T165 l0 x3_1).f1.f1))) (ds := []) #[false, false, false, false, false, false, false, false, false, false, false, false, false, false, false, false, false, false, false, false, false, false, false, false, false, false, false, false] (by kernel_rfl) rfl rfl ⟨((HB.out.cell (World.block_lt_of_cell? w _ hw1233_0)).trans hw1233_0), ((HB.out.cell (World.block_lt_of_cell? w _ hw1233_1)).trans hw1233_1), ((HB.out.cell (World.block_lt_of_cell? w _ hw1233_2)).trans hw1233_2), ((HB.out.cell (World.block_lt_of_cell? w _ hw1233_3)).trans hw1233_3), ((HB.out.cell (World.block_lt_of_cell? w _ hw1234_0)).trans hw1234_0), ((HB.out.cell (World.block_lt_of_cell? w _ hw1234_1)).trans hw1234_1), ((HB.out.cell (World.block_lt_of_cell? w _ hw1234_2)).trans hw1234_2), ((HB.out.cell (World.block_lt_of_cell? w _ hw1234_3)).trans hw1234_3), ((HB.out.cell (World.block_lt_of_cell? w _ hw1235_0)).trans hw1235_0), ((HB.out.cell (World.block_lt_of_cell? w _ hw1235_1)).trans hw1235_1), ((HB.out.cell (World.block_lt_of_cell? w _ hw1235_2)).trans hw1235_2), ((HB.out.cell (World.block_lt_of_cell? w _ hw1235_3)).trans hw1235_3), ((HB.out.cell (World.block_lt_of_cell? w _ hw1236_0)).trans hw1236_0), ((HB.out.cell (World.block_lt_of_cell? w _ hw1236_1)).trans hw1236_1), ((HB.out.cell (World.block_lt_of_cell? w _ hw1236_2)).trans hw1236_2), ((HB.out.cell (World.block_lt_of_cell? w _ hw1236_3)).trans hw1236_3)⟩ (fun hH => ?_); refine with_tabW Rf_PairsErr.tab14 Rf_PairsErr.bits14 (fun HT_ HW_ => ?_)
                            generalize wr.drew = w22 at HO_4 HB hx1233_0 hx1233_1 hx1233_2 hx1233_3 hx1234_0 hx1234_1 hx1234_2 hx1234_3 hx1235_0 hx1235_1 hx1235_2 hx1235_3 hx1236_0 hx1236_1 hx1236_2 hx1236_3 hH ⊢
                            refine pZ 0 (some 55) (bs 28 1) HT_ ?_
                            refine pZ 1 (some 56) (bs 28 3) HT_ ?_
                            refine pZ 2 (some 57) (bs 28 7) HT_ ?_
                            refine pZ 3 (some 58) (bs 28 15) HT_ ?_
                            refine pZ 4 (some 59) (bs 28 31) HT_ ?_
                            refine pZ 6 (some 61) (bs 28 95) HT_ ?_
                            refine pZ 7 (some 62) (bs 28 223) HT_ ?_
                            refine pZ 8 (some 63) (bs 28 479) HT_ ?_
                            refine pZ 9 (some 64) (bs 28 991) HT_ ?_
                            refine pZ 10 (some 65) (bs 28 2015) HT_ ?_
                            refine takeZ 5 (some 60) (bs 28 2047) (take_ofW HT_.out HW_.out (by kernel_rfl)) hH ?_
                            refine takeZ 11 (some 66) (bs 28 4095) (take_ofW HT_.out HW_.out (by kernel_rfl)) hH ?_
                            refine pZ 12 (some 67) (bs 28 8191) HT_ ?_
                            refine pZ 13 (some 68) (bs 28 16383) HT_ ?_
                            refine pZ 14 (some 69) (bs 28 32767) HT_ ?_
                            refine pZ 15 (some 70) (bs 28 65535) HT_ ?_
                            refine pZ 16 (some 71) (bs 28 131071) HT_ ?_
                            refine pZ 17 (some 72) (bs 28 262143) HT_ ?_
                            refine pZ 18 (some 73) (bs 28 524287) HT_ ?_
                            refine pZ 20 (some 75) (bs 28 1572863) HT_ ?_
                            refine pZ 21 (some 76) (bs 28 3670015) HT_ ?_
                            refine pZ 22 (some 77) (bs 28 7864319) HT_ ?_
                            refine pZ 23 (some 78) (bs 28 16252927) HT_ ?_
                            refine pZ 24 (some 79) (bs 28 33030143) HT_ ?_
                            refine takeZ 19 (some 74) (bs 28 33554431) (take_ofW HT_.out HW_.out (by kernel_rfl)) hH ?_
                            refine takeZ 25 (some 80) (bs 28 67108863) (take_ofW HT_.out HW_.out (by kernel_rfl)) hH ?_
                            refine pZ 26 (some 81) (bs 28 134217727) HT_ ?_
                            refine pZ 27 (some 82) (bs 28 268435455) HT_ ?_
                            refine done_ (done_of HT_.out (by kernel_rfl)) ?_
                            try go_wp2
                            go_ret
                            exact ez
                          · rw [if_neg c20] at H
                            have c20b0 := decide_eq_false c20
                            clear c20
                            have H' := m0 H
                            clear H
                            obtain ⟨Ao23, co23, eo23⟩ := Kd.R_slice HO_4.out
                            subst eo23
                            try go_wp2
                            replace HO_4 := m0 (Kd.R_drew HO_4.out); replace HB := sd HB
                            have p1233 : 0 ≤ (x3_1 : Int) := od
                            have q1233 : x3_1 < (l0.length : Int) := od
                            obtain ⟨ad1233, e1233, hx1233_0, hx1233_1, hx1233_2, hx1233_3⟩ := at_T165 HR0.out x3_1 p1233 q1233
                            have hw1233_3 := hx1233_3
                            have hw1233_2 := hx1233_2
                            have hw1233_1 := hx1233_1
                            have hw1233_0 := hx1233_0
                            obtain rfl : ad1224 = ad1233 := (by injection e1233)
                            replace hx1233_0 := (HB.out.cell (World.block_lt_of_cell? w _ hx1233_0)).trans hx1233_0
                            replace hx1233_1 := (HB.out.cell (World.block_lt_of_cell? w _ hx1233_1)).trans hx1233_1
                            replace hx1233_2 := (HB.out.cell (World.block_lt_of_cell? w _ hx1233_2)).trans hx1233_2
                            replace hx1233_3 := (HB.out.cell (World.block_lt_of_cell? w _ hx1233_3)).trans hx1233_3
                            replace p1233 := eq_true p1233
                            replace q1233 := eq_true q1233
                            have p1234 : 0 ≤ (x3_1 : Int) := od
                            have q1234 : x3_1 < (l0.length : Int) := od
                            obtain ⟨ad1234, e1234, hx1234_0, hx1234_1, hx1234_2, hx1234_3⟩ := at_T165 HR0.out x3_1 p1234 q1234
                            have hw1234_3 := hx1234_3
                            have hw1234_2 := hx1234_2
                            have hw1234_1 := hx1234_1
                            have hw1234_0 := hx1234_0
                            obtain rfl : ad1224 = ad1234 := (by injection e1234)
                            replace hx1234_0 := (HB.out.cell (World.block_lt_of_cell? w _ hx1234_0)).trans hx1234_0
                            replace hx1234_1 := (HB.out.cell (World.block_lt_of_cell? w _ hx1234_1)).trans hx1234_1
                            replace hx1234_2 := (HB.out.cell (World.block_lt_of_cell? w _ hx1234_2)).trans hx1234_2
                            replace hx1234_3 := (HB.out.cell (World.block_lt_of_cell? w _ hx1234_3)).trans hx1234_3
                            replace p1234 := eq_true p1234
                            replace q1234 := eq_true q1234
                            have p1235 : 0 ≤ (x3_1 : Int) := od
                            have q1235 : x3_1 < (l0.length : Int) := od
                            obtain ⟨ad1235, e1235, hx1235_0, hx1235_1, hx1235_2, hx1235_3⟩ := at_T165 HR0.out x3_1 p1235 q1235
                            have hw1235_3 := hx1235_3
                            have hw1235_2 := hx1235_2
                            have hw1235_1 := hx1235_1
                            have hw1235_0 := hx1235_0
                            obtain rfl : ad1224 = ad1235 := (by injection e1235)
                            replace hx1235_0 := (HB.out.cell (World.block_lt_of_cell? w _ hx1235_0)).trans hx1235_0
                            replace hx1235_1 := (HB.out.cell (World.block_lt_of_cell? w _ hx1235_1)).trans hx1235_1
                            replace hx1235_2 := (HB.out.cell (World.block_lt_of_cell? w _ hx1235_2)).trans hx1235_2
                            replace hx1235_3 := (HB.out.cell (World.block_lt_of_cell? w _ hx1235_3)).trans hx1235_3
                            replace p1235 := eq_true p1235
                            replace q1235 := eq_true q1235
                            have p1236 : 0 ≤ (x3_1 : Int) := od
                            have q1236 : x3_1 < (l0.length : Int) := od
                            obtain ⟨ad1236, e1236, hx1236_0, hx1236_1, hx1236_2, hx1236_3⟩ := at_T165 HR0.out x3_1 p1236 q1236
                            have hw1236_3 := hx1236_3
                            have hw1236_2 := hx1236_2
                            have hw1236_1 := hx1236_1
                            have hw1236_0 := hx1236_0
                            obtain rfl : ad1224 = ad1236 := (by injection e1236)
                            replace hx1236_0 := (HB.out.cell (World.block_lt_of_cell? w _ hx1236_0)).trans hx1236_0
                            replace hx1236_1 := (HB.out.cell (World.block_lt_of_cell? w _ hx1236_1)).trans hx1236_1
                            replace hx1236_2 := (HB.out.cell (World.block_lt_of_cell? w _ hx1236_2)).trans hx1236_2
                            replace hx1236_3 := (HB.out.cell (World.block_lt_of_cell? w _ hx1236_3)).trans hx1236_3
                            replace p1236 := eq_true p1236
                            replace q1236 := eq_true q1236
                            refine start_ (n := 28) (S := fun w' => w'.cell? (ad1224.add ((x3_1).toNat * 4)) = some (.int .i64 ((rd_T165 l0 x3_1).f0.f0)) ∧ w'.cell? ⟨(ad1224.add ((x3_1).toNat * 4)).block, (ad1224.add ((x3_1).toNat * 4)).off + 1, none⟩ = some (.int .i64 ((rd_T165 l0 x3_1).f0.f1)) ∧ w'.cell? ⟨(ad1224.add ((x3_1).toNat * 4)).block, (ad1224.add ((x3_1).toNat * 4)).off + 2, none⟩ = some (.int .i64 ((rd_T165 l0 x3_1).f1.f0)) ∧ w'.cell? ⟨(ad1224.add ((x3_1).toNat * 4)).block, (ad1224.add ((x3_1).toNat * 4)).off + 3, none⟩ = some (.int .i64 ((rd_T165 l0 x3_1).f1.f1)) ∧ w'.cell? (ad1224.add ((x3_1).toNat * 4)) = some (.int .i64 ((rd_T165 l0 x3_1).f0.f0)) ∧ w'.cell? ⟨(ad1224.add ((x3_1).toNat * 4)).block, (ad1224.add ((x3_1).toNat * 4)).off + 1, none⟩ = some (.int .i64 ((rd_T165 l0 x3_1).f0.f1)) ∧ w'.cell? ⟨(ad1224.add ((x3_1).toNat * 4)).block, (ad1224.add ((x3_1).toNat * 4)).off + 2, none⟩ = some (.int .i64 ((rd_T165 l0 x3_1).f1.f0)) ∧ w'.cell? ⟨(ad1224.add ((x3_1).toNat * 4)).block, (ad1224.add ((x3_1).toNat * 4)).off + 3, none⟩ = some (.int .i64 ((rd_T165 l0 x3_1).f1.f1)) ∧ w'.cell? (ad1224.add ((x3_1).toNat * 4)) = some (.int .i64 ((rd_T165 l0 x3_1).f0.f0)) ∧ w'.cell? ⟨(ad1224.add ((x3_1).toNat * 4)).block, (ad1224.add ((x3_1).toNat * 4)).off + 1, none⟩ = some (.int .i64 ((rd_T165 l0 x3_1).f0.f1)) ∧ w'.cell? ⟨(ad1224.add ((x3_1).toNat * 4)).block, (ad1224.add ((x3_1).toNat * 4)).off + 2, none⟩ = some (.int .i64 ((rd_T165 l0 x3_1).f1.f0)) ∧ w'.cell? ⟨(ad1224.add ((x3_1).toNat * 4)).block, (ad1224.add ((x3_1).toNat * 4)).off + 3, none⟩ = some (.int .i64 ((rd_T165 l0 x3_1).f1.f1)) ∧ w'.cell? (ad1224.add ((x3_1).toNat * 4)) = some (.int .i64 ((rd_T165 l0 x3_1).f0.f0)) ∧ w'.cell? ⟨(ad1224.add ((x3_1).toNat * 4)).block, (ad1224.add ((x3_1).toNat * 4)).off + 1, none⟩ = some (.int .i64 ((rd_T165 l0 x3_1).f0.f1)) ∧ w'.cell? ⟨(ad1224.add ((x3_1).toNat * 4)).block, (ad1224.add ((x3_1).toNat * 4)).off + 2, none⟩ = some (.int .i64 ((rd_T165 l0 x3_1).f1.f0)) ∧ w'.cell? ⟨(ad1224.add ((x3_1).toNat * 4)).block, (ad1224.add ((x3_1).toNat * 4)).off + 3, none⟩ = some (.int .i64 ((rd_T165 l0 x3_1).f1.f1))) (ds := []) #[false, false, false, false, false, false, false, false, false, false, false, false, false, false, false, false, false, false, false, false, false, false, false, false, false, false, false, false] (by kernel_rfl) rfl rfl ⟨((HB.out.cell (World.block_lt_of_cell? w _ hw1233_0)).trans hw1233_0), ((HB.out.cell (World.block_lt_of_cell? w _ hw1233_1)).trans hw1233_1), ((HB.out.cell (World.block_lt_of_cell? w _ hw1233_2)).trans hw1233_2), ((HB.out.cell (World.block_lt_of_cell? w _ hw1233_3)).trans hw1233_3), ((HB.out.cell (World.block_lt_of_cell? w _ hw1234_0)).trans hw1234_0), ((HB.out.cell (World.block_lt_of_cell? w _ hw1234_1)).trans hw1234_1), ((HB.out.cell (World.block_lt_of_cell? w _ hw1234_2)).trans hw1234_2), ((HB.out.cell (World.block_lt_of_cell? w _ hw1234_3)).trans hw1234_3), ((HB.out.cell (World.block_lt_of_cell? w _ hw1235_0)).trans hw1235_0), ((HB.out.cell (World.block_lt_of_cell? w _ hw1235_1)).trans hw1235_1), ((HB.out.cell (World.block_lt_of_cell? w _ hw1235_2)).trans hw1235_2), ((HB.out.cell (World.block_lt_of_cell? w _ hw1235_3)).trans hw1235_3), ((HB.out.cell (World.block_lt_of_cell? w _ hw1236_0)).trans hw1236_0), ((HB.out.cell (World.block_lt_of_cell? w _ hw1236_1)).trans hw1236_1), ((HB.out.cell (World.block_lt_of_cell? w _ hw1236_2)).trans hw1236_2), ((HB.out.cell (World.block_lt_of_cell? w _ hw1236_3)).trans hw1236_3)⟩ (fun hH => ?_); refine with_tabW Rf_PairsErr.tab14 Rf_PairsErr.bits14 (fun HT_ HW_ => ?_)
                            generalize wr.drew = w24 at HO_4 HB hx1233_0 hx1233_1 hx1233_2 hx1233_3 hx1234_0 hx1234_1 hx1234_2 hx1234_3 hx1235_0 hx1235_1 hx1235_2 hx1235_3 hx1236_0 hx1236_1 hx1236_2 hx1236_3 hH ⊢
                            refine pZ 0 (some 55) (bs 28 1) HT_ ?_
                            refine pZ 1 (some 56) (bs 28 3) HT_ ?_
                            refine pZ 2 (some 57) (bs 28 7) HT_ ?_
                            refine pZ 3 (some 58) (bs 28 15) HT_ ?_
                            refine pZ 4 (some 59) (bs 28 31) HT_ ?_
                            refine pZ 6 (some 61) (bs 28 95) HT_ ?_
                            refine pZ 7 (some 62) (bs 28 223) HT_ ?_
                            refine pZ 8 (some 63) (bs 28 479) HT_ ?_
                            refine pZ 9 (some 64) (bs 28 991) HT_ ?_
                            refine pZ 10 (some 65) (bs 28 2015) HT_ ?_
                            refine takeZ 5 (some 60) (bs 28 2047) (take_ofW HT_.out HW_.out (by kernel_rfl)) hH ?_
                            refine takeZ 11 (some 66) (bs 28 4095) (take_ofW HT_.out HW_.out (by kernel_rfl)) hH ?_
                            refine pZ 12 (some 67) (bs 28 8191) HT_ ?_
                            refine pZ 13 (some 68) (bs 28 16383) HT_ ?_
                            refine pZ 14 (some 69) (bs 28 32767) HT_ ?_
                            refine pZ 15 (some 70) (bs 28 65535) HT_ ?_
                            refine pZ 16 (some 71) (bs 28 131071) HT_ ?_
                            refine pZ 17 (some 72) (bs 28 262143) HT_ ?_
                            refine pZ 18 (some 73) (bs 28 524287) HT_ ?_
                            refine pZ 20 (some 75) (bs 28 1572863) HT_ ?_
                            refine pZ 21 (some 76) (bs 28 3670015) HT_ ?_
                            refine pZ 22 (some 77) (bs 28 7864319) HT_ ?_
                            refine pZ 23 (some 78) (bs 28 16252927) HT_ ?_
                            refine pZ 24 (some 79) (bs 28 33030143) HT_ ?_
                            refine takeZ 19 (some 74) (bs 28 33554431) (take_ofW HT_.out HW_.out (by kernel_rfl)) hH ?_
                            refine takeZ 25 (some 80) (bs 28 67108863) (take_ofW HT_.out HW_.out (by kernel_rfl)) hH ?_
                            refine pZ 26 (some 81) (bs 28 134217727) HT_ ?_
                            refine pZ 27 (some 82) (bs 28 268435455) HT_ ?_
                            refine done_ (done_of HT_.out (by kernel_rfl)) ?_
                            try go_wp2
                            go_roundg k2
                            case measure => have := HK1.out; have := HK2.out; omega
                            case rel => exact ⟨(wrap64 (x3_1 + 1)), (by first | rfl | (simp; done) | (simp [*]; done)), H', ⟨by have := HK1.out; have := HK2.out; omega⟩, ⟨bz⟩⟩
                      · rw [if_neg c16] at H
                        exact absurd H (by simp)
                    · rw [if_neg c15] at H
                      exact absurd H (by simp)
            · rw [if_neg c5] at H
              exact absurd H (by simp)
          · rw [if_neg c4] at H
            have c4b0 := decide_eq_false c4
            clear c4
            obtain rfl := Option.some.inj H
            go_wp2
            go_ret
            exact ez
end
section
def Rf_difference.f (a0_0 : Int) (a0_1 : Int) (a0_2 : Int) (a0_3 : Int) : Option (Int × Int) := some (wrap64 (a0_0 - a0_3), wrap64 (a0_1 - a0_2))
theorem Rf_difference.calls (a0_0 : Int) (a0_1 : Int) (a0_2 : Int) (a0_3 : Int) (r1 : Int) (r2 : Int) (w : World) (h : Rf_difference.f a0_0 a0_1 a0_2 a0_3 = some (r1, r2)) :
  Calls Try.prog 108 #[.agg #[.int .i64 a0_0, .int .i64 a0_1, .int .i64 a0_2, .int .i64 a0_3]] w fun e w' => e = .returned (.agg #[.int .i64 r1, .int .i64 r2]) ∧ Below w.heap.size w w' := by
 have hu165 := Try.underlying165
 have hu58 := Try.underlying58
 have HB := m0 (Below.refl w.heap.size w)
 have H : (some (wrap64 (a0_0 - a0_3), wrap64 (a0_1 - a0_2))) = some (r1, r2) := h
 clear h
 simp only [Option.some.injEq, Prod.mk.injEq] at H
 obtain ⟨rfl, rfl⟩ := H
 go_enter Try.func108, Try.ntmps108
 go_wp2_with (first | ((with_reducible refine gate_dst (N := 1) rfl ?_); refine be 1 165 #[.int .i64 a0_0, .int .i64 a0_1, .int .i64 a0_2, .int .i64 a0_3] ?_; intro gb1237 hg w2 hbox hb; have BK1237 := m0 hbox; have GE1237 := gw w hg; replace HB := sb HB hb; clear hb hbox hg) | ((with_reducible refine gate_dst (N := 2) rfl ?_); refine be 2 58 #[.int .i64 0, .int .i64 0] ?_; intro gb1238 hg w3 hbox hb; have BK1238 := m0 hbox; have GE1238 := gw w hg; replace HB := sb HB hb; have NB1237_1238 := nl BK1237 hg; have NB1238_1237 := ng (nl BK1237 hg); replace BK1237 := bb BK1237 hb; clear hb hbox hg; have hnb4 := NB1237_1238.out; have hnc4 := NB1238_1237.out; obtain ⟨_, _, _, _, _, _, _, _⟩ := b4 BK1237; obtain ⟨_, _, _, _⟩ := b2 BK1238))
 refine bodyPost_ret (results_cell_row rfl _ _ gb1238 58 #[.int .i64 (wrap64 (a0_0 - a0_3)), .int .i64 (wrap64 (a0_1 - a0_2))] (0, 0) _ rfl (bq BK1238.out) Try.underlying58 rfl (by kernel_rfl)) rfl ?_
 exact ez
end
section
def Bs_Size.f (a0 : Int) : Option (Int) := some (mx a0 (wrap64 (-a0)))
theorem Bs_Size.calls (a0 : Int) (r : Int) (w : World) (h : Bs_Size.f a0 = some r) :
  Calls Try.prog 110 #[.int .i64 a0] w fun e w' => e = .returned (.int .i64 r) ∧ Below w.heap.size w w' := by
 have HB := m0 (Below.refl w.heap.size w)
 have H : (some (mx a0 (wrap64 (-a0)))) = some r := h
 clear h
 obtain ⟨ji2, hji2⟩ : ∃ j_ : Int, (mx a0 (wrap64 (-a0))) = j_ := ⟨_, rfl⟩
 replace H : (some ji2) = some r := by first | (rw [hji2] at H; exact H) | (simp only [hji2] at H ⊢; exact H)
 have hji2_ : (if a0 < (wrap64 (-a0)) then (wrap64 (-a0)) else a0) = ji2 := hji2
 obtain rfl := Option.some.inj H
 go_enter Try.func110, Try.ntmps110
 go_wp2
 go_ret
 exact ⟨by first | rfl | (simp [errW_none, errW_some] <;> rfl) | (simp only [← hji2]; first | rfl | (simp [errW_none, errW_some] <;> rfl)) | (simp [*, errW_none, errW_some] <;> rfl), by repeat (first | (with_reducible first | exact HB.out | apply below_alloc | apply pw_below_drewN | apply below_drew1) | exact HB.out)⟩
end
section
def Bs_Gcd.l0 : Nat → Int → Int → Option (Int)
 | 0, _, _ => none
 | k + 1, x0, x1 => if x1 = 0 then ((Bs_Size.f x0).bind fun t567 => (some t567)) else (Bs_Gcd.l0 k x1 (Int.tmod x0 x1))
def Bs_Gcd.f (k : Nat) (a0 : Int) (a1 : Int) : Option (Int) := Bs_Gcd.l0 k a0 a1
theorem Bs_Gcd.mono_l : ∀ k, (∀ y0 y1, LeO (Bs_Gcd.l0 k y0 y1) (Bs_Gcd.l0 (k + 1) y0 y1))
 | 0 => fun _ _ r h => by simp [Bs_Gcd.l0] at h
 | k + 1 => by
  have ih0 := Bs_Gcd.mono_l k
  ·intro y0 y1
   unfold Bs_Gcd.l0
   repeat' with_reducible first
    | exact ih0 ..
    | exact LeO.refl ..
    | exact LeO.none ..
    | refine LeO.ite ?_ ?_
    | refine LeO.bind ?_ (fun _ => ?_)
theorem Bs_Gcd.mono : ∀ a0 a1 k, LeO (Bs_Gcd.f k a0 a1) (Bs_Gcd.f (k + 1) a0 a1) := by
 intro a0 a1 k
 have ih0 := Bs_Gcd.mono_l k
 unfold Bs_Gcd.f
 repeat' with_reducible first
  | exact ih0 ..
  | exact LeO.refl ..
  | exact LeO.none ..
  | refine LeO.ite ?_ ?_
  | refine LeO.bind ?_ (fun _ => ?_)
theorem Bs_Gcd.calls (k : Nat) (a0 : Int) (a1 : Int) (r : Int) (w : World) (h : Bs_Gcd.f k a0 a1 = some r) :
  Calls Try.prog 93 #[.int .i64 a0, .int .i64 a1] w fun e w' => e = .returned (.int .i64 r) ∧ Below w.heap.size w w' := by
 have HB := m0 (Below.refl w.heap.size w)
 have H : (Bs_Gcd.l0 k a0 a1) = some r := h
 clear h
 have H' := m0 H
 clear H
 go_enter Try.func93, Try.ntmps93
 go_wp2
 repeat (go_quiet (fail); try go_wp2)
 go_loopg [0, 1] k (fun kq v0 v1 w' => ∃ (x0_1 : Int) (x1_1 : Int), v0 = .int .i64 x0_1 ∧ v1 = .int .i64 x1_1 ∧ Aside0 (Bs_Gcd.l0 kq x0_1 x1_1 = some r) ∧ Aside0 (kq ≤ k) ∧ Aside0 (Below w.heap.size w w'))
 case atStart => exact ⟨(a0), (a1), (by first | rfl | (simp; done) | (simp [*]; done)), (by first | rfl | (simp; done) | (simp [*]; done)), H', ⟨Nat.le_refl _⟩, ⟨bz⟩⟩
 case round =>
  clear H'
  obtain ⟨x0_1, x1_1, rfl, rfl, HA, HK1, HB⟩ := hrel
  cases gk with
  | zero => exact absurd HA.out (by simp [Bs_Gcd.l0])
  | succ k1 =>
   have H := HA.out
   clear HA
   simp only [Bs_Gcd.l0] at H
   by_cases c3 : x1_1 = 0
   ·rw [if_pos c3] at H
    have c3b0 := beq_iff_eq.mpr c3
    have c3b1 := bne_eq_false_iff_eq.mpr c3
    clear c3
    replace H := ob H
    obtain ⟨t567, A4, H⟩ := H
    (try dsimp only at H)
    replace A4 := m0 A4
    obtain rfl := Option.some.inj H
    go_wp2_with (first | (go_at_call 110; (with_reducible refine (Bs_Size.calls x0_1 t567 _ A4.out).mono ?_); rintro e w5 ⟨rfl, hb⟩; replace HB := sb HB hb; (try clear hb)))
    repeat (go_quiet (first | (go_at_call 110; (with_reducible refine (Bs_Size.calls x0_1 t567 _ A4.out).mono ?_); rintro e w5 ⟨rfl, hb⟩; replace HB := sb HB hb; (try clear hb))); try go_wp2_with (first | (go_at_call 110; (with_reducible refine (Bs_Size.calls x0_1 t567 _ A4.out).mono ?_); rintro e w5 ⟨rfl, hb⟩; replace HB := sb HB hb; (try clear hb))))
    go_ret
    exact ez
   ·rw [if_neg c3] at H
    have c3b0 := beq_eq_false_iff_ne.mpr c3
    have c3b1 := bne_iff_ne.mpr c3
    have H' := m0 H
    clear H
    go_wp2
    repeat (go_quiet (fail); try go_wp2)
    go_roundg k1
    case measure => have := HK1.out; omega
    case rel => exact ⟨(x1_1), (Int.tmod x0_1 x1_1), (by first | rfl | (simp; done) | (simp [*]; done)), (by first | rfl | (simp; done) | (simp [*]; done)), H', ⟨by have := HK1.out; omega⟩, ⟨bz⟩⟩
end
section
def Bs_Lowest.f (k : Nat) (a0 : Int) (a1 : Int) : Option (Int × Int) := (Bs_Gcd.f k a0 a1).bind fun t1240 => (if a1 < 0 then (if (wrap64 (-t1240)) = 0 then (none) else (some (wrap64 (Int.tdiv a0 (wrap64 (-t1240))), wrap64 (Int.tdiv a1 (wrap64 (-t1240)))))) else (if t1240 = 0 then (none) else (some (wrap64 (Int.tdiv a0 t1240), wrap64 (Int.tdiv a1 t1240)))))
theorem Bs_Lowest.mono : ∀ a0 a1 k, LeO (Bs_Lowest.f k a0 a1) (Bs_Lowest.f (k + 1) a0 a1) := by
 intro a0 a1 k
 unfold Bs_Lowest.f
 repeat' with_reducible first
  | exact Bs_Gcd.mono ..
  | exact LeO.refl ..
  | exact LeO.none ..
  | refine LeO.ite ?_ ?_
  | refine LeO.bind ?_ (fun _ => ?_)
def Bs_Lowest.T4 : Bool × List (List Nat × List Nat) := (true, [([], []), ([], []), ([0, 1], [0, 1]), ([], []), ([], []), ([3, 4], [3, 4]), ([2, 5], [2, 5]), ([6, 0, 1, 2, 3, 4, 5, 6], [6])])
def Bs_Lowest.B4 : List Nat := [0, 0, 3, 0, 0, 24, 63, 127]
theorem Bs_Lowest.tab4 : rtab .any (opsOf Try.f109 4) = Bs_Lowest.T4 := by kernel_rfl
theorem Bs_Lowest.bits4 : waitsOk Bs_Lowest.T4.2 Bs_Lowest.B4 = true := by kernel_rfl
theorem Bs_Lowest.calls (k : Nat) (a0 : Int) (a1 : Int) (r1 : Int) (r2 : Int) (w : World) (h : Bs_Lowest.f k a0 a1 = some (r1, r2)) :
  Calls Try.prog 109 #[.int .i64 a0, .int .i64 a1] w fun e w' => e = .returned (.agg #[.int .i64 r1, .int .i64 r2]) ∧ Below w.heap.size w w' := by
 have hu73 := Try.underlying73
 have HB := m0 (Below.refl w.heap.size w)
 have H : ((Bs_Gcd.f k a0 a1).bind fun t1240 => (if a1 < 0 then (if (wrap64 (-t1240)) = 0 then (none) else (some (wrap64 (Int.tdiv a0 (wrap64 (-t1240))), wrap64 (Int.tdiv a1 (wrap64 (-t1240)))))) else (if t1240 = 0 then (none) else (some (wrap64 (Int.tdiv a0 t1240), wrap64 (Int.tdiv a1 t1240)))))) = some (r1, r2) := h
 clear h
 replace H := ob H
 obtain ⟨t1240, A3, H⟩ := H
 (try dsimp only at H)
 replace A3 := m0 A3
 by_cases c4 : a1 < 0
 ·rw [if_pos c4] at H
  have c4b0 := decide_eq_true c4
  clear c4
  by_cases c5 : (wrap64 (-t1240)) = 0
  ·rw [if_pos c5] at H
   exact absurd H (by simp)
  ·rw [if_neg c5] at H
   have c5b0 := beq_eq_false_iff_ne.mpr c5
   have c5b1 := bne_iff_ne.mpr c5
   simp only [Option.some.injEq, Prod.mk.injEq] at H
   obtain ⟨rfl, rfl⟩ := H
   go_enter Try.func109, Try.ntmps109
   try go_wp2_with (first | ((with_reducible refine gate_dst (N := 4) rfl ?_); refine be 4 73 #[.int .i64 0, .int .i64 0] ?_; intro gb1239 hg w6 hbox hb; have BK1239 := m0 hbox; have GE1239 := gw w hg; replace HB := sb HB hb; clear hb hbox hg) | ((with_reducible refine gate_callee (f := 93) rfl ?_); refine gl (some 8) Try.func93 #[.int .i64 a0, .int .i64 a1] ?_; (with_reducible refine (Bs_Gcd.calls k a0 a1 t1240 _ A3.out).mono ?_); rintro e w7 ⟨rfl, hb⟩; refine ⟨_, rfl, ?_⟩; replace BK1239 := bb BK1239 hb; replace HB := sb HB hb; (try clear hb)))
   replace BK1239 := bd BK1239; replace HB := sd HB
   refine start_ (n := 8) (S := fun w' => True) (ds := []) #[false, false, false, false, false, false, false, false] (by kernel_rfl) rfl rfl trivial (fun hH => ?_); refine with_tabW Bs_Lowest.tab4 Bs_Lowest.bits4 (fun HT_ HW_ => ?_)
   generalize w7.drew = w8 at BK1239 HB hH ⊢
   refine pZ 0 (some 13) #[true, false, false, false, false, false, false, false] HT_ ?_
   refine pZ 1 (some 14) #[true, true, false, false, false, false, false, false] HT_ ?_
   refine pZ 2 (some 15) #[true, true, true, false, false, false, false, false] HT_ ?_
   refine pZ 3 (some 16) #[true, true, true, true, false, false, false, false] HT_ ?_
   refine pZ 4 (some 17) #[true, true, true, true, true, false, false, false] HT_ ?_
   refine pZ 5 (some 18) #[true, true, true, true, true, true, false, false] HT_ ?_
   refine pZ 6 (some 19) #[true, true, true, true, true, true, true, false] HT_ ?_
   refine oneZ 7 (none) #[true, true, true, true, true, true, true, true] (one_of HT_.out (by kernel_rfl)) fun K hK => ?_
   have hs9 : w8.cell? ⟨gb1239, 0, none⟩ = some (.int .i64 0) := (blk_cell BK1239.out 0).trans rfl
   have hfs9 := blk_frozen BK1239.out 0
   have hs10 : w8.cell? ⟨gb1239, 1, none⟩ = some (.int .i64 0) := (blk_cell BK1239.out 1).trans rfl
   have hfs10 := blk_frozen BK1239.out 1
   refine skip_ (w1 := ?_) (by rfl) rfl ?_ ?_
   rotate_left
   ·go_simp
    rfl
   refine hK.out _ _ trivial (fun hH => ?_)
   clear hK K
   refine done_ (done_of HT_.out (by kernel_rfl)) ?_
   try go_wp2
   refine bodyPost_ret (results_cell_row rfl _ _ gb1239 73 #[.int .i64 (wrap64 (Int.tdiv a0 (wrap64 (-t1240)))), .int .i64 (wrap64 (Int.tdiv a1 (wrap64 (-t1240))))] (0, 0) _ rfl (bq BK1239.out) Try.underlying73 rfl (by kernel_rfl)) rfl ?_
   exact ez
 ·rw [if_neg c4] at H
  have c4b0 := decide_eq_false c4
  clear c4
  by_cases c11 : t1240 = 0
  ·rw [if_pos c11] at H
   exact absurd H (by simp)
  ·rw [if_neg c11] at H
   have c11b0 := beq_eq_false_iff_ne.mpr c11
   have c11b1 := bne_iff_ne.mpr c11
   simp only [Option.some.injEq, Prod.mk.injEq] at H
   obtain ⟨rfl, rfl⟩ := H
   go_enter Try.func109, Try.ntmps109
   try go_wp2_with (first | ((with_reducible refine gate_dst (N := 4) rfl ?_); refine be 4 73 #[.int .i64 0, .int .i64 0] ?_; intro gb1239 hg w12 hbox hb; have BK1239 := m0 hbox; have GE1239 := gw w hg; replace HB := sb HB hb; clear hb hbox hg) | ((with_reducible refine gate_callee (f := 93) rfl ?_); refine gl (some 8) Try.func93 #[.int .i64 a0, .int .i64 a1] ?_; (with_reducible refine (Bs_Gcd.calls k a0 a1 t1240 _ A3.out).mono ?_); rintro e w13 ⟨rfl, hb⟩; refine ⟨_, rfl, ?_⟩; replace BK1239 := bb BK1239 hb; replace HB := sb HB hb; (try clear hb)))
   replace BK1239 := bd BK1239; replace HB := sd HB
   refine start_ (n := 8) (S := fun w' => True) (ds := []) #[false, false, false, false, false, false, false, false] (by kernel_rfl) rfl rfl trivial (fun hH => ?_); refine with_tabW Bs_Lowest.tab4 Bs_Lowest.bits4 (fun HT_ HW_ => ?_)
   generalize w13.drew = w14 at BK1239 HB hH ⊢
   refine pZ 0 (some 13) #[true, false, false, false, false, false, false, false] HT_ ?_
   refine pZ 1 (some 14) #[true, true, false, false, false, false, false, false] HT_ ?_
   refine pZ 2 (some 15) #[true, true, true, false, false, false, false, false] HT_ ?_
   refine pZ 3 (some 16) #[true, true, true, true, false, false, false, false] HT_ ?_
   refine pZ 4 (some 17) #[true, true, true, true, true, false, false, false] HT_ ?_
   refine pZ 5 (some 18) #[true, true, true, true, true, true, false, false] HT_ ?_
   refine pZ 6 (some 19) #[true, true, true, true, true, true, true, false] HT_ ?_
   refine oneZ 7 (none) #[true, true, true, true, true, true, true, true] (one_of HT_.out (by kernel_rfl)) fun K hK => ?_
   have hs15 : w14.cell? ⟨gb1239, 0, none⟩ = some (.int .i64 0) := (blk_cell BK1239.out 0).trans rfl
   have hfs15 := blk_frozen BK1239.out 0
   have hs16 : w14.cell? ⟨gb1239, 1, none⟩ = some (.int .i64 0) := (blk_cell BK1239.out 1).trans rfl
   have hfs16 := blk_frozen BK1239.out 1
   refine skip_ (w1 := ?_) (by rfl) rfl ?_ ?_
   rotate_left
   ·go_simp
    rfl
   refine hK.out _ _ trivial (fun hH => ?_)
   clear hK K
   refine done_ (done_of HT_.out (by kernel_rfl)) ?_
   try go_wp2
   refine bodyPost_ret (results_cell_row rfl _ _ gb1239 73 #[.int .i64 (wrap64 (Int.tdiv a0 t1240)), .int .i64 (wrap64 (Int.tdiv a1 t1240))] (0, 0) _ rfl (bq BK1239.out) Try.underlying73 rfl (by kernel_rfl)) rfl ?_
   exact ez
end
section
def Rf_Bias.l0 : Nat → List (S165) → Int → Int → Int → Option (Int × Int × Int × Int)
 | 0, _, _, _, _ => none
 | k + 1, x0, x3, x4, x5 => if x5 < (x0.length : Int) then (if 0 ≤ x5 then ((Rf_difference.f ((rd_T165 x0 x5).f0.f0) ((rd_T165 x0 x5).f0.f1) ((rd_T165 x0 x5).f1.f0) ((rd_T165 x0 x5).f1.f1)).bind fun bt1243 => (Rf_Bias.l0 k x0 (wrap64 (x3 + bt1243.1)) (wrap64 (x4 + bt1243.2)) (wrap64 (x5 + 1)))) else (none)) else ((Bs_Lowest.f k x3 (x0.length : Int)).bind fun bt1246 => ((Bs_Lowest.f k x4 (x0.length : Int)).bind fun bt1248 => (some (bt1246.1, bt1246.2, bt1248.1, bt1248.2))))
def Rf_Bias.f (k : Nat) (l0 : List (S165)) : Option (Int × Int × Int × Int) := Rf_Bias.l0 k l0 0 0 0
theorem Rf_Bias.mono_l : ∀ k, (∀ y0 y1 y2 y3, LeO (Rf_Bias.l0 k y0 y1 y2 y3) (Rf_Bias.l0 (k + 1) y0 y1 y2 y3))
 | 0 => fun _ _ _ _ r h => by simp [Rf_Bias.l0] at h
 | k + 1 => by
  have ih0 := Rf_Bias.mono_l k
  ·intro y0 y1 y2 y3
   unfold Rf_Bias.l0
   repeat' with_reducible first
    | exact ih0 ..
    | exact Bs_Lowest.mono ..
    | exact LeO.refl ..
    | exact LeO.none ..
    | refine LeO.ite ?_ ?_
    | refine LeO.bind ?_ (fun _ => ?_)
theorem Rf_Bias.mono : ∀ a0 k, LeO (Rf_Bias.f k a0) (Rf_Bias.f (k + 1) a0) := by
 intro a0 k
 have ih0 := Rf_Bias.mono_l k
 unfold Rf_Bias.f
 repeat' with_reducible first
  | exact ih0 ..
  | exact Bs_Lowest.mono ..
  | exact LeO.refl ..
  | exact LeO.none ..
  | refine LeO.ite ?_ ?_
  | refine LeO.bind ?_ (fun _ => ?_)
theorem Rf_Bias.calls (k : Nat) (A0 : Option Addr) (c0 : Nat) (l0 : List (S165)) (r1 : Int) (r2 : Int) (r3 : Int) (r4 : Int) (w : World) (hr0 : Kd.C k165 w A0 l0.length l0) (hc0 : l0.length ≤ c0) (h : Rf_Bias.f k l0 = some (r1, r2, r3, r4)) :
  Calls Try.prog 52 #[.slice A0 l0.length c0] w fun e w' => e = .returned (.agg #[.int .i64 r1, .int .i64 r2, .int .i64 r3, .int .i64 r4]) ∧ Below w.heap.size w w' := by
 have hu93 := Try.underlying93
 have hu165 := Try.underlying165
 have hu58 := Try.underlying58
 have HR0 := m0 hr0
 have HC0 := m0 hc0
 clear hr0 hc0
 have HB := m0 (Below.refl w.heap.size w)
 have H : (Rf_Bias.l0 k l0 0 0 0) = some (r1, r2, r3, r4) := h
 clear h
 have H' := m0 H
 clear H
 go_enter Try.func52, Try.ntmps52
 go_wp2_with (first | ((with_reducible refine gate_dst (N := 2) rfl ?_); refine be 2 93 #[.int .i64 0, .int .i64 0, .int .i64 0, .int .i64 0] ?_; intro gb1241 hg w2 hbox hb; have BK1241 := m0 hbox; have GE1241 := gw w hg; replace HB := sb HB hb; clear hb hbox hg))
 repeat (go_quiet (first | ((with_reducible refine gate_dst (N := 2) rfl ?_); refine be 2 93 #[.int .i64 0, .int .i64 0, .int .i64 0, .int .i64 0] ?_; intro gb1241 hg w2 hbox hb; have BK1241 := m0 hbox; have GE1241 := gw w hg; replace HB := sb HB hb; clear hb hbox hg)); try go_wp2_with (first | ((with_reducible refine gate_dst (N := 2) rfl ?_); refine be 2 93 #[.int .i64 0, .int .i64 0, .int .i64 0, .int .i64 0] ?_; intro gb1241 hg w2 hbox hb; have BK1241 := m0 hbox; have GE1241 := gw w hg; replace HB := sb HB hb; clear hb hbox hg)))
 go_loopg [3, 4, 5] k (fun kq v3 v4 v5 w' => ∃ (x3_1 : Int) (x4_1 : Int) (x5_1 : Int), v3 = .int .i64 x3_1 ∧ v4 = .int .i64 x4_1 ∧ v5 = .int .i64 x5_1 ∧ Aside0 (Rf_Bias.l0 kq l0 x3_1 x4_1 x5_1 = some (r1, r2, r3, r4)) ∧ Aside0 (kq ≤ k) ∧ Aside0 (w'.heap[gb1241]? = some (.cells #[.int .i64 0, .int .i64 0, .int .i64 0, .int .i64 0] 93 (0, 0))) ∧ Aside0 (Below w.heap.size w w'))
 case atStart => exact ⟨(0), (0), (0), (by first | rfl | (simp; done) | (simp [*]; done)), (by first | rfl | (simp; done) | (simp [*]; done)), (by first | rfl | (simp; done) | (simp [*]; done)), H', ⟨Nat.le_refl _⟩, ⟨bk BK1241.out⟩, ⟨bz⟩⟩
 case round =>
  clear H'
  obtain ⟨x3_1, x4_1, x5_1, rfl, rfl, rfl, HA, HK1, BK1241, HB⟩ := hrel
  cases gk with
  | zero => exact absurd HA.out (by simp [Rf_Bias.l0])
  | succ k1 =>
   have H := HA.out
   clear HA
   simp only [Rf_Bias.l0] at H
   by_cases c3 : x5_1 < (l0.length : Int)
   ·rw [if_pos c3] at H
    have c3b0 := decide_eq_true c3
    clear c3
    by_cases c4 : 0 ≤ x5_1
    ·rw [if_pos c4] at H
     have c4b0 := decide_eq_true c4
     clear c4
     replace H := ob H
     obtain ⟨⟨t1243, t1244⟩, A5, H⟩ := H
     (try dsimp only at H)
     replace A5 := m0 A5
     have H' := m0 H
     clear H
     have p1242 : 0 ≤ (x5_1 : Int) := od
     have q1242 : x5_1 < (l0.length : Int) := od
     obtain ⟨ad1242, e1242, hx1242_0, hx1242_1, hx1242_2, hx1242_3⟩ := at_T165 HR0.out x5_1 p1242 q1242
     cases e1242
     replace hx1242_0 := (HB.out.cell (World.block_lt_of_cell? w _ hx1242_0)).trans hx1242_0
     replace hx1242_1 := (HB.out.cell (World.block_lt_of_cell? w _ hx1242_1)).trans hx1242_1
     replace hx1242_2 := (HB.out.cell (World.block_lt_of_cell? w _ hx1242_2)).trans hx1242_2
     replace hx1242_3 := (HB.out.cell (World.block_lt_of_cell? w _ hx1242_3)).trans hx1242_3
     replace p1242 := eq_true p1242
     replace q1242 := eq_true q1242
     go_wp2_with (first | (go_at_call 108; (with_reducible refine (Rf_difference.calls ((rd_T165 l0 x5_1).f0.f0) ((rd_T165 l0 x5_1).f0.f1) ((rd_T165 l0 x5_1).f1.f0) ((rd_T165 l0 x5_1).f1.f1) t1243 t1244 _ A5.out).mono ?_); rintro e w6 ⟨rfl, hb⟩; replace BK1241 := bb BK1241 hb; replace HB := sb HB hb; (try clear hb)) | ((with_reducible refine gate_dst (N := 6) rfl ?_); refine be 6 58 #[.int .i64 0, .int .i64 0] ?_; intro gb1245 hg w7 hbox hb; have BK1245 := m0 hbox; have GE1245 := gw w hg; replace HB := sb HB hb; have NB1241_1245 := nl BK1241 hg; have NB1245_1241 := ng (nl BK1241 hg); replace BK1241 := bb BK1241 hb; clear hb hbox hg; have hnb8 := NB1245_1241.out; have hnc8 := NB1241_1245.out; obtain ⟨hcz9_0, hcz9_1, hfz9_0, hfz9_1⟩ := b2 BK1245))
     repeat (go_quiet (first | (go_at_call 108; (with_reducible refine (Rf_difference.calls ((rd_T165 l0 x5_1).f0.f0) ((rd_T165 l0 x5_1).f0.f1) ((rd_T165 l0 x5_1).f1.f0) ((rd_T165 l0 x5_1).f1.f1) t1243 t1244 _ A5.out).mono ?_); rintro e w6 ⟨rfl, hb⟩; replace BK1241 := bb BK1241 hb; replace HB := sb HB hb; (try clear hb)) | ((with_reducible refine gate_dst (N := 6) rfl ?_); refine be 6 58 #[.int .i64 0, .int .i64 0] ?_; intro gb1245 hg w7 hbox hb; have BK1245 := m0 hbox; have GE1245 := gw w hg; replace HB := sb HB hb; have NB1241_1245 := nl BK1241 hg; have NB1245_1241 := ng (nl BK1241 hg); replace BK1241 := bb BK1241 hb; clear hb hbox hg; have hnb8 := NB1245_1241.out; have hnc8 := NB1241_1245.out; obtain ⟨hcz9_0, hcz9_1, hfz9_0, hfz9_1⟩ := b2 BK1245)); try go_wp2_with (first | (go_at_call 108; (with_reducible refine (Rf_difference.calls ((rd_T165 l0 x5_1).f0.f0) ((rd_T165 l0 x5_1).f0.f1) ((rd_T165 l0 x5_1).f1.f0) ((rd_T165 l0 x5_1).f1.f1) t1243 t1244 _ A5.out).mono ?_); rintro e w6 ⟨rfl, hb⟩; replace BK1241 := bb BK1241 hb; replace HB := sb HB hb; (try clear hb)) | ((with_reducible refine gate_dst (N := 6) rfl ?_); refine be 6 58 #[.int .i64 0, .int .i64 0] ?_; intro gb1245 hg w7 hbox hb; have BK1245 := m0 hbox; have GE1245 := gw w hg; replace HB := sb HB hb; have NB1241_1245 := nl BK1241 hg; have NB1245_1241 := ng (nl BK1241 hg); replace BK1241 := bb BK1241 hb; clear hb hbox hg; have hnb8 := NB1245_1241.out; have hnc8 := NB1241_1245.out; obtain ⟨hcz9_0, hcz9_1, hfz9_0, hfz9_1⟩ := b2 BK1245)))
     go_roundg k1
     case measure => have := HK1.out; omega
     case rel => exact ⟨(wrap64 (x3_1 + t1243)), (wrap64 (x4_1 + t1244)), (wrap64 (x5_1 + 1)), (by first | rfl | (simp; done) | (simp [*]; done)), (by first | rfl | (simp; done) | (simp [*]; done)), (by first | rfl | (simp; done) | (simp [*]; done)), H', ⟨by have := HK1.out; omega⟩, ⟨bq BK1241.out⟩, ⟨bz⟩⟩
    ·rw [if_neg c4] at H
     exact absurd H (by simp)
   ·rw [if_neg c3] at H
    have c3b0 := decide_eq_false c3
    clear c3
    replace H := ob H
    obtain ⟨⟨t1246, t1247⟩, A10, H⟩ := H
    (try dsimp only at H)
    replace A10 := m0 A10
    replace H := ob H
    obtain ⟨⟨t1248, t1249⟩, A11, H⟩ := H
    (try dsimp only at H)
    replace A11 := m0 A11
    simp only [Option.some.injEq, Prod.mk.injEq] at H
    obtain ⟨rfl, rfl, rfl, rfl⟩ := H
    go_wp2_with (first | (go_at_call 109; (with_reducible refine (Bs_Lowest.calls k1 x3_1 (l0.length : Int) t1246 t1247 _ A10.out).mono ?_); rintro e w12 ⟨rfl, hb⟩; replace BK1241 := bb BK1241 hb; replace HB := sb HB hb; (try clear hb)) | (go_at_call 109; (with_reducible refine (Bs_Lowest.calls k1 x4_1 (l0.length : Int) t1248 t1249 _ A11.out).mono ?_); rintro e w13 ⟨rfl, hb⟩; replace BK1241 := bb BK1241 hb; replace HB := sb HB hb; (try clear hb); obtain ⟨hcz14_0, hcz14_1, hcz14_2, hcz14_3, hfz14_0, hfz14_1, hfz14_2, hfz14_3⟩ := b4 BK1241))
    repeat (go_quiet (first | (go_at_call 109; (with_reducible refine (Bs_Lowest.calls k1 x3_1 (l0.length : Int) t1246 t1247 _ A10.out).mono ?_); rintro e w12 ⟨rfl, hb⟩; replace BK1241 := bb BK1241 hb; replace HB := sb HB hb; (try clear hb)) | (go_at_call 109; (with_reducible refine (Bs_Lowest.calls k1 x4_1 (l0.length : Int) t1248 t1249 _ A11.out).mono ?_); rintro e w13 ⟨rfl, hb⟩; replace BK1241 := bb BK1241 hb; replace HB := sb HB hb; (try clear hb); obtain ⟨hcz14_0, hcz14_1, hcz14_2, hcz14_3, hfz14_0, hfz14_1, hfz14_2, hfz14_3⟩ := b4 BK1241)); try go_wp2_with (first | (go_at_call 109; (with_reducible refine (Bs_Lowest.calls k1 x3_1 (l0.length : Int) t1246 t1247 _ A10.out).mono ?_); rintro e w12 ⟨rfl, hb⟩; replace BK1241 := bb BK1241 hb; replace HB := sb HB hb; (try clear hb)) | (go_at_call 109; (with_reducible refine (Bs_Lowest.calls k1 x4_1 (l0.length : Int) t1248 t1249 _ A11.out).mono ?_); rintro e w13 ⟨rfl, hb⟩; replace BK1241 := bb BK1241 hb; replace HB := sb HB hb; (try clear hb); obtain ⟨hcz14_0, hcz14_1, hcz14_2, hcz14_3, hfz14_0, hfz14_1, hfz14_2, hfz14_3⟩ := b4 BK1241)))
    refine bodyPost_ret (results_cell_row rfl _ _ gb1241 93 #[.int .i64 t1246, .int .i64 t1247, .int .i64 t1248, .int .i64 t1249] (0, 0) _ rfl (bq BK1241.out) Try.underlying93 rfl (by kernel_rfl)) rfl ?_
    exact ez
end
end Go.Proofs.Ytibhfahbabgbaaa.A
