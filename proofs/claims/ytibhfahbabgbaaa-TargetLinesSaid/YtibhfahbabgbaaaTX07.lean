/- Walks of the program's functions (printed, made shorter), each with what it computes. -/
import Derived.Test.YtibhfahbabgbaaaTX06
namespace Go.Proofs.Ytibhfahbabgbaaa.A
set_option maxHeartbeats 8000000
set_option maxRecDepth 100000
open Go.RowKit Go.Proofs.YtibhfahbabgbaaaW.PrintWords Go.Proofs.YtibhfahbabgbaaaW.PrintLast Go.Proofs.YtibhfahbabgbaaaW.PrintMore
attribute [local go_sem] max2_int min2_int max_two min_two max_three min_three max_four min_four
set_option linter.unusedVariables false
set_option linter.unusedSimpArgs false
section
def L_sumsOf.l0 : Nat → List (S85) → Int → Int → Int → Int → Int → Int → Int → Int → Option (Int × Int × Int × Int × Int × Int)
 | 0, _, _, _, _, _, _, _, _, _ => none
 | k + 1, x6, x7, x8, x146000, x146001, x146002, x146003, x146004, x146005 => if x8 < x7 then (if 0 ≤ x8 then (if x8 < (x6.length : Int) then (L_sumsOf.l0 k x6 x7 (wrap64 (x8 + 1)) (wrap64 (x146000 + 1)) (wrap64 (x146001 + ((rd_T85 x6 x8).f0))) (wrap64 (x146002 + ((rd_T85 x6 x8).f1))) (wrap64 (x146003 + (wrap64 (((rd_T85 x6 x8).f0) * ((rd_T85 x6 x8).f0))))) (wrap64 (x146004 + (wrap64 (((rd_T85 x6 x8).f0) * ((rd_T85 x6 x8).f1))))) (wrap64 (x146005 + (wrap64 (((rd_T85 x6 x8).f1) * ((rd_T85 x6 x8).f1)))))) else (none)) else (none)) else (some (x146000, x146001, x146002, x146003, x146004, x146005))
def L_sumsOf.f (k : Nat) (l0 : List (S85)) : Option (Int × Int × Int × Int × Int × Int) := L_sumsOf.l0 k l0 (l0.length : Int) 0 0 0 0 0 0 0
theorem L_sumsOf.mono_l : ∀ k, (∀ y0 y1 y2 y3 y4 y5 y6 y7 y8, LeO (L_sumsOf.l0 k y0 y1 y2 y3 y4 y5 y6 y7 y8) (L_sumsOf.l0 (k + 1) y0 y1 y2 y3 y4 y5 y6 y7 y8))
 | 0 => fun _ _ _ _ _ _ _ _ _ r h => by simp [L_sumsOf.l0] at h
 | k + 1 => by
  have ih0 := L_sumsOf.mono_l k
  ·intro y0 y1 y2 y3 y4 y5 y6 y7 y8; unfold L_sumsOf.l0
   repeat' with_reducible first
    | exact ih0 ..
    | exact LeO.refl ..
    | exact LeO.none ..
    | refine LeO.ite ?_ ?_
    | refine LeO.bind ?_ (fun _ => ?_)
theorem L_sumsOf.mono : ∀ a0 k, LeO (L_sumsOf.f k a0) (L_sumsOf.f (k + 1) a0) := by
 intro a0 k; have ih0 := L_sumsOf.mono_l k; unfold L_sumsOf.f
 repeat' with_reducible first
  | exact ih0 ..
  | exact LeO.refl ..
  | exact LeO.none ..
  | refine LeO.ite ?_ ?_
  | refine LeO.bind ?_ (fun _ => ?_)
def L_sumsOf.T6 : Bool × List (List Nat × List Nat) := (true, [([], []), ([0], [0]), ([], []), ([2], [2]), ([1, 3], [1, 3]), ([], []), ([5], [5]), ([], []), ([7], [7]), ([6, 8], [6, 8]), ([0, 1, 2, 3, 4, 5, 6], []), ([10, 4, 0, 1, 2, 3, 4, 5, 6], [4, 10]), ([0, 1, 2, 3, 4, 5, 6, 7, 8, 9, 10, 11], []), ([12, 9, 11, 0, 1, 2, 3, 4, 5, 6, 7, 8, 9, 10, 11], [9, 12])])
def L_sumsOf.B6 : List Nat := [0, 1, 0, 4, 15, 0, 32, 0, 128, 480, 127, 1151, 4095, 8191]
theorem L_sumsOf.tab6 : rtab .any (opsOf Try.f134 6) = L_sumsOf.T6 := by kernel_rfl
theorem L_sumsOf.bits6 : waitsOk L_sumsOf.T6.2 L_sumsOf.B6 = true := by kernel_rfl
def L_sumsOf.T7 : Bool × List (List Nat × List Nat) := (true, [([], []), ([0], [0]), ([], []), ([2], [2]), ([], []), ([4], [4]), ([3, 5], [3, 5]), ([1, 6], [1, 6]), ([], []), ([8], [8]), ([], []), ([10], [10]), ([], []), ([12], [12]), ([11, 13], [11, 13]), ([9, 14], [9, 14]), ([], []), ([16], [16]), ([], []), ([18], [18]), ([], []), ([20], [20]), ([19, 21], [19, 21]), ([17, 22], [17, 22]), ([0, 1, 2, 3, 4, 5, 6, 7, 8, 9, 16, 17], []), ([24, 7, 0, 1, 2, 3, 4, 5, 6, 7, 8, 9, 16, 17], [7, 24]), ([0, 1, 2, 3, 4, 5, 6, 7, 8, 9, 10, 11, 12, 13, 14, 15, 16, 17, 24, 25], []), ([26, 15, 25, 0, 1, 2, 3, 4, 5, 6, 7, 8, 9, 10, 11, 12, 13, 14, 15, 16, 17, 24, 25], [15, 26]), ([0, 1, 2, 3, 4, 5, 6, 7, 8, 9, 10, 11, 12, 13, 14, 15, 16, 17, 18, 19, 20, 21, 22, 23, 24, 25, 26, 27], []), ([28, 23, 27, 0, 1, 2, 3, 4, 5, 6, 7, 8, 9, 10, 11, 12, 13, 14, 15, 16, 17, 18, 19, 20, 21, 22, 23, 24, 25, 26, 27], [23, 28])])
def L_sumsOf.B7 : List Nat := [0, 1, 0, 4, 0, 16, 60, 127, 0, 256, 0, 1024, 0, 4096, 15360, 32512, 0, 65536, 0, 262144, 0, 1048576, 3932160, 8323072, 197631, 16974847, 50593791, 117702655, 268435455, 536870911]
theorem L_sumsOf.tab7 : rtab .any (opsOf Try.f134 7) = L_sumsOf.T7 := by kernel_rfl
theorem L_sumsOf.bits7 : waitsOk L_sumsOf.T7.2 L_sumsOf.B7 = true := by kernel_rfl
theorem L_sumsOf.calls (k : Nat) (A0 : Option Addr) (c0 : Nat) (l0 : List (S85)) (r1 : Int) (r2 : Int) (r3 : Int) (r4 : Int) (r5 : Int) (r6 : Int) (w : World) (hr0 : Kd.C k85 w A0 l0.length l0) (hc0 : l0.length ≤ c0) (H : L_sumsOf.f k l0 = some (r1, r2, r3, r4, r5, r6)) :
  Calls Try.prog 134 #[.slice A0 l0.length c0] w fun e w' => e = .returned (.agg #[.int .i64 r1, .int .i64 r2, .int .i64 r3, .int .i64 r4, .int .i64 r5, .int .i64 r6]) ∧ Below w.heap.size w w' := by
 have hu149 := Try.underlying149; have hu85 := Try.underlying85; have HR0 := m0 hr0; have HC0 := m0 hc0; clear hr0 hc0; have HB := m0 (Below.refl w.heap.size w); unfold L_sumsOf.f at H; have H' := m0 H; clear H; go_enter Try.func134, Try.ntmps134
 go_wp2_with (first | ((with_reducible refine ga 2 rfl ?_); refine be 2 149 #[.int .i64 0, .int .i64 0, .int .i64 0, .int .i64 0, .int .i64 0, .int .i64 0] ?_; intro gb144 hg w2 hbox hb; have BK144 := m0 hbox; have GE144 := gw w hg; replace HB := sb HB hb; clear hb hbox hg) | ((with_reducible refine ga 3 rfl ?_); refine be 3 149 #[.int .i64 0, .int .i64 0, .int .i64 0, .int .i64 0, .int .i64 0, .int .i64 0] ?_; intro gb145 hg w3 hbox hb; have BK145 := m0 hbox; have GE145 := gw w hg; replace HB := sb HB hb; have NB144_145 := nl BK144 hg; have NB145_144 := ng (nl BK144 hg); replace BK144 := bb BK144 hb; clear hb hbox hg))
 go_loopg [8] k (fun kq v8 w' => ∃ (x8_1 : Int) (x146000_1 : Int) (x146001_1 : Int) (x146002_1 : Int) (x146003_1 : Int) (x146004_1 : Int) (x146005_1 : Int), v8 = .int .i64 x8_1 ∧ Aside0 (L_sumsOf.l0 kq l0 (l0.length : Int) x8_1 x146000_1 x146001_1 x146002_1 x146003_1 x146004_1 x146005_1 = some (r1, r2, r3, r4, r5, r6)) ∧ Aside0 (kq ≤ k) ∧ Aside0 (w'.heap[gb144]? = some (.cells #[.int .i64 0, .int .i64 0, .int .i64 0, .int .i64 0, .int .i64 0, .int .i64 0] 149 (0, 0))) ∧ Aside0 (w'.heap[gb145]? = some (.cells #[.int .i64 x146000_1, .int .i64 x146001_1, .int .i64 x146002_1, .int .i64 x146003_1, .int .i64 x146004_1, .int .i64 x146005_1] 149 (0, 0))) ∧ Aside0 (Below w.heap.size w w'))
 case atStart => exact ⟨(0), (0), (0), (0), (0), (0), (0), rz, H', ⟨Nat.le_refl _⟩, ⟨bk BK144.out⟩, ⟨bk BK145.out⟩, ⟨bz⟩⟩
 case round =>
  clear H'; obtain ⟨x8_1, x146000_1, x146001_1, x146002_1, x146003_1, x146004_1, x146005_1, rfl, HA, HK1, BK144, BK145, HB⟩ := hrel
  cases gk with
  | zero => exact absurd HA.out (by simp [L_sumsOf.l0])
  | succ k1 =>
   have H := HA.out; clear HA; simp only [L_sumsOf.l0] at H
   by_cases c4 : x8_1 < (l0.length : Int)
   ·rw [if_pos c4] at H; have c4b0 := decide_eq_true c4; clear c4
    by_cases c5 : 0 ≤ x8_1
    ·rw [if_pos c5] at H; have c5b0 := decide_eq_true c5; clear c5
     by_cases c6 : x8_1 < (l0.length : Int)
     ·rw [if_pos c6] at H; have c6b0 := decide_eq_true c6; clear c6; have H' := m0 H; clear H; have p146 : 0 ≤ (x8_1 : Int) := od; have q146 : x8_1 < (l0.length : Int) := od; obtain ⟨ad146, e146, hx146_0, hx146_1, hx146_2⟩ := at_T85 HR0.out x8_1 p146 q146
      cases e146
      replace hx146_0 := hc HB hx146_0; replace hx146_1 := hc HB hx146_1; replace hx146_2 := hc HB hx146_2; replace p146 := eq_true p146; replace q146 := eq_true q146
      try go_wp2_with (first | ((with_reducible refine ga 5 rfl ?_); refine be 5 85 #[.int .i64 0, .int .i64 0, .int .i64 0] ?_; intro gb147 hg w7 hbox hb; have BK147 := m0 hbox; have GE147 := gw w hg; replace HB := sb HB hb; have NB144_147 := nl BK144 hg; have NB147_144 := ng (nl BK144 hg); replace BK144 := bb BK144 hb; have NB145_147 := nl BK145 hg; have NB147_145 := ng (nl BK145 hg); replace BK145 := bb BK145 hb; clear hb hbox hg; have hnb8 := NB147_144.out; have hnc8 := NB144_147.out; have hnb9 := NB147_145.out; have hnc9 := NB145_147.out; obtain ⟨_, _, _, _, _, _⟩ := b3 BK147; have hnb11 := NB145_144.out; have hnc11 := NB144_145.out; obtain ⟨_, _, _, _, _, _, _, _, _, _, _, _⟩ := b6 BK145))
      replace BK144 : Aside0 (((((w7.setCell ⟨gb147, 0, none⟩ (.int .i64 ((rd_T85 l0 x8_1).f0))).setCell ⟨gb147, 1, none⟩ (.int .i64 ((rd_T85 l0 x8_1).f1))).setCell ⟨gb147, 2, none⟩ (.int .i64 ((rd_T85 l0 x8_1).f2))).setCell ⟨gb145, 0, none⟩ (.int .i64 (wrap64 (x146000_1 + 1)))).heap[gb144]? = some (.cells #[.int .i64 0, .int .i64 0, .int .i64 0, .int .i64 0, .int .i64 0, .int .i64 0] 149 (0, 0))) := ⟨bq BK144.out⟩; replace BK145 : Aside0 (((((w7.setCell ⟨gb147, 0, none⟩ (.int .i64 ((rd_T85 l0 x8_1).f0))).setCell ⟨gb147, 1, none⟩ (.int .i64 ((rd_T85 l0 x8_1).f1))).setCell ⟨gb147, 2, none⟩ (.int .i64 ((rd_T85 l0 x8_1).f2))).setCell ⟨gb145, 0, none⟩ (.int .i64 (wrap64 (x146000_1 + 1)))).heap[gb145]? = some (.cells #[.int .i64 (wrap64 (x146000_1 + 1)), .int .i64 x146001_1, .int .i64 x146002_1, .int .i64 x146003_1, .int .i64 x146004_1, .int .i64 x146005_1] 149 (0, 0))) := ⟨by (with_reducible repeat (first | refine blk_drewN ?_ _ | refine blk_drew ?_ | refine blk_alloc ?_ _)); refine blk_put (cs := #[.int .i64 x146000_1, .int .i64 x146001_1, .int .i64 x146002_1, .int .i64 x146003_1, .int .i64 x146004_1, .int .i64 x146005_1]) ?_ 0 _ rfl; (with_reducible repeat (first | refine blk_drewN ?_ _ | refine blk_drew ?_ | refine blk_alloc ?_ _)); refine blk_far ?_ NB145_147.out _; (with_reducible repeat (first | refine blk_drewN ?_ _ | refine blk_drew ?_ | refine blk_alloc ?_ _)); refine blk_far ?_ NB145_147.out _; (with_reducible repeat (first | refine blk_drewN ?_ _ | refine blk_drew ?_ | refine blk_alloc ?_ _)); refine blk_far ?_ NB145_147.out _; (with_reducible repeat (first | refine blk_drewN ?_ _ | refine blk_drew ?_ | refine blk_alloc ?_ _)); exact BK145.out⟩; replace BK147 : Aside0 (((((w7.setCell ⟨gb147, 0, none⟩ (.int .i64 ((rd_T85 l0 x8_1).f0))).setCell ⟨gb147, 1, none⟩ (.int .i64 ((rd_T85 l0 x8_1).f1))).setCell ⟨gb147, 2, none⟩ (.int .i64 ((rd_T85 l0 x8_1).f2))).setCell ⟨gb145, 0, none⟩ (.int .i64 (wrap64 (x146000_1 + 1)))).heap[gb147]? = some (.cells #[.int .i64 ((rd_T85 l0 x8_1).f0), .int .i64 ((rd_T85 l0 x8_1).f1), .int .i64 ((rd_T85 l0 x8_1).f2)] 85 (0, 0))) := ⟨by (with_reducible repeat (first | refine blk_drewN ?_ _ | refine blk_drew ?_ | refine blk_alloc ?_ _)); refine blk_far ?_ NB147_145.out _; (with_reducible repeat (first | refine blk_drewN ?_ _ | refine blk_drew ?_ | refine blk_alloc ?_ _)); refine blk_put (cs := #[.int .i64 ((rd_T85 l0 x8_1).f0), .int .i64 ((rd_T85 l0 x8_1).f1), .int .i64 0]) ?_ 2 _ rfl; (with_reducible repeat (first | refine blk_drewN ?_ _ | refine blk_drew ?_ | refine blk_alloc ?_ _)); refine blk_put (cs := #[.int .i64 ((rd_T85 l0 x8_1).f0), .int .i64 0, .int .i64 0]) ?_ 1 _ rfl; (with_reducible repeat (first | refine blk_drewN ?_ _ | refine blk_drew ?_ | refine blk_alloc ?_ _)); refine blk_put (cs := #[.int .i64 0, .int .i64 0, .int .i64 0]) ?_ 0 _ rfl; (with_reducible repeat (first | refine blk_drewN ?_ _ | refine blk_drew ?_ | refine blk_alloc ?_ _)); exact BK147.out⟩; replace HB : Aside0 (Below w.heap.size w ((((w7.setCell ⟨gb147, 0, none⟩ (.int .i64 ((rd_T85 l0 x8_1).f0))).setCell ⟨gb147, 1, none⟩ (.int .i64 ((rd_T85 l0 x8_1).f1))).setCell ⟨gb147, 2, none⟩ (.int .i64 ((rd_T85 l0 x8_1).f2))).setCell ⟨gb145, 0, none⟩ (.int .i64 (wrap64 (x146000_1 + 1))))) := ⟨bz⟩; generalize ((((w7.setCell ⟨gb147, 0, none⟩ (.int .i64 ((rd_T85 l0 x8_1).f0))).setCell ⟨gb147, 1, none⟩ (.int .i64 ((rd_T85 l0 x8_1).f1))).setCell ⟨gb147, 2, none⟩ (.int .i64 ((rd_T85 l0 x8_1).f2))).setCell ⟨gb145, 0, none⟩ (.int .i64 (wrap64 (x146000_1 + 1)))) = w13 at BK144 BK145 BK147 HB ⊢; replace BK144 := bd BK144; replace BK145 := bd BK145; replace BK147 := bd BK147; replace HB := sd HB; refine start_ (n := 14) (S := fun w' => True) (ds := []) _ (by kernel_rfl) rfl rfl trivial (fun hH => ?_); refine with_tabW L_sumsOf.tab6 L_sumsOf.bits6 (fun HT_ HW_ => ?_); generalize w13.drew = w14 at BK144 BK145 BK147 HB hH ⊢; refine inv_at [0, 1, 2, 3, 4, 5, 6, 7, 8, 9, 10, 11, 12, 13] (fun a0_ b a w' => a = putSel a0_ b [(0, 16, .pointer (some ⟨gb145, 1, none⟩)), (1, 17, .int .i64 x146001_1), (2, 18, .pointer (some ⟨gb147, 0, none⟩)), (3, 19, .int .i64 ((rd_T85 l0 x8_1).f0)), (4, 20, .int .i64 (wrap64 (x146001_1 + ((rd_T85 l0 x8_1).f0)))), (5, 21, .pointer (some ⟨gb145, 2, none⟩)), (6, 22, .int .i64 x146002_1), (7, 23, .pointer (some ⟨gb147, 1, none⟩)), (8, 24, .int .i64 ((rd_T85 l0 x8_1).f1)), (9, 25, .int .i64 (wrap64 (x146002_1 + ((rd_T85 l0 x8_1).f1)))), (10, 26, .pointer (some ⟨gb145, 1, none⟩)), (12, 27, .pointer (some ⟨gb145, 2, none⟩))] ∧ (w'.heap[gb144]? = some (.cells #[.int .i64 0, .int .i64 0, .int .i64 0, .int .i64 0, .int .i64 0, .int .i64 0] 149 (0, 0))) ∧ (w'.heap[gb145]? = some (.cells #[.int .i64 (wrap64 (x146000_1 + 1)), (if b 11 = true then (.int .i64 (wrap64 (x146001_1 + ((rd_T85 l0 x8_1).f0))) : Value) else .int .i64 x146001_1), (if b 13 = true then (.int .i64 (wrap64 (x146002_1 + ((rd_T85 l0 x8_1).f1))) : Value) else .int .i64 x146002_1), .int .i64 x146003_1, .int .i64 x146004_1, .int .i64 x146005_1] 149 (0, 0))) ∧ (w'.heap[gb147]? = some (.cells #[.int .i64 ((rd_T85 l0 x8_1).f0), .int .i64 ((rd_T85 l0 x8_1).f1), .int .i64 ((rd_T85 l0 x8_1).f2)] 85 (0, 0))) ∧ (Below w.heap.size w w')) HT_.out HW_.out (by kernel_rfl) (by kernel_rfl) ?_ ?_ ?_
      ·exact ⟨by simp only [putSel, Bool.false_eq_true, if_false], BK144.out, BK145.out, BK147.out, HB.out⟩
      ·skip
       clear BK144 BK145 BK147 HB; refine steps_cons ?_ ?_
       ·rintro b a w' ⟨ha, Q_BK144, Q_BK145, Q_BK147, Q_HB⟩ hb_ hon hoff; refine ⟨_, rfl, fun K hK => ?_⟩; have e3 : a.tmps[3]? = some (.pointer (some ⟨gb145, 0, none⟩)) := by rw [ha]; exact (putSel_off rfl).trans rfl
        replace ha := m0 ha; have BK144 := m0 Q_BK144; have BK145 := m0 Q_BK145; have BK147 := m0 Q_BK147; have HB := m0 Q_HB; refine value_ (w1 := w') (v := .pointer (some ⟨gb145, 1, none⟩)) (by rfl) rfl ?_ ?_
        ·go_simp
         (try simp only [i64_w])
         try rfl
        refine hK.out _ _ ⟨(by rw [ha.out]; exact putSel_upk 0 hb_ rfl rfl rfl), Q_BK144, Q_BK145, Q_BK147, Q_HB⟩
       refine steps_cons ?_ ?_
       ·rintro b a w' ⟨ha, Q_BK144, Q_BK145, Q_BK147, Q_HB⟩ hb_ hon hoff; refine ⟨_, rfl, fun K hK => ?_⟩; have e16 : a.tmps[16]? = some (.pointer (some ⟨gb145, 1, none⟩)) := by rw [ha]; exact putSel_on (e := (0, 16, .pointer (some ⟨gb145, 1, none⟩))) 0 rfl rfl (hon 0 (by kernel_rfl)) rfl
        replace ha := m0 ha; have BK144 := m0 Q_BK144; have BK145 := m0 Q_BK145; have BK147 := m0 Q_BK147; have HB := m0 Q_HB; have hc1_ : w'.cell? ⟨gb145, 1, none⟩ = some (.int .i64 x146001_1) := (blk_cell BK145.out 1).trans (by show some (if b 11 = true then _ else _) = _; rw [hoff 11 (by kernel_rfl)]; rfl); refine value_ (w1 := w') (v := .int .i64 x146001_1) (by rfl) rfl ?_ ?_
        ·go_simp
         (try simp only [i64_w])
         try rfl
        refine hK.out _ _ ⟨(by rw [ha.out]; exact putSel_upk 1 hb_ rfl rfl rfl), Q_BK144, Q_BK145, Q_BK147, Q_HB⟩
       refine steps_cons ?_ ?_
       ·rintro b a w' ⟨ha, Q_BK144, Q_BK145, Q_BK147, Q_HB⟩ hb_ hon hoff; refine ⟨_, rfl, fun K hK => ?_⟩; have e5 : a.tmps[5]? = some (.pointer (some ⟨gb147, 0, none⟩)) := by rw [ha]; exact (putSel_off rfl).trans rfl
        replace ha := m0 ha; have BK144 := m0 Q_BK144; have BK145 := m0 Q_BK145; have BK147 := m0 Q_BK147; have HB := m0 Q_HB; refine value_ (w1 := w') (v := .pointer (some ⟨gb147, 0, none⟩)) (by rfl) rfl ?_ ?_
        ·go_simp
         (try simp only [i64_w])
         try rfl
        refine hK.out _ _ ⟨(by rw [ha.out]; exact putSel_upk 2 hb_ rfl rfl rfl), Q_BK144, Q_BK145, Q_BK147, Q_HB⟩
       refine steps_cons ?_ ?_
       ·rintro b a w' ⟨ha, Q_BK144, Q_BK145, Q_BK147, Q_HB⟩ hb_ hon hoff; refine ⟨_, rfl, fun K hK => ?_⟩; have e18 : a.tmps[18]? = some (.pointer (some ⟨gb147, 0, none⟩)) := by rw [ha]; exact putSel_on (e := (2, 18, .pointer (some ⟨gb147, 0, none⟩))) 2 rfl rfl (hon 2 (by kernel_rfl)) rfl
        replace ha := m0 ha; have BK144 := m0 Q_BK144; have BK145 := m0 Q_BK145; have BK147 := m0 Q_BK147; have HB := m0 Q_HB; have hc0_ : w'.cell? ⟨gb147, 0, none⟩ = some (.int .i64 ((rd_T85 l0 x8_1).f0)) := (blk_cell BK147.out 0).trans rfl; refine value_ (w1 := w') (v := .int .i64 ((rd_T85 l0 x8_1).f0)) (by rfl) rfl ?_ ?_
        ·go_simp
         (try simp only [i64_w])
         try rfl
        refine hK.out _ _ ⟨(by rw [ha.out]; exact putSel_upk 3 hb_ rfl rfl rfl), Q_BK144, Q_BK145, Q_BK147, Q_HB⟩
       refine steps_cons ?_ ?_
       ·rintro b a w' ⟨ha, Q_BK144, Q_BK145, Q_BK147, Q_HB⟩ hb_ hon hoff; refine ⟨_, rfl, fun K hK => ?_⟩; have e17 : a.tmps[17]? = some (.int .i64 x146001_1) := by rw [ha]; exact putSel_on (e := (1, 17, .int .i64 x146001_1)) 1 rfl rfl (hon 1 (by kernel_rfl)) rfl
        have e19 : a.tmps[19]? = some (.int .i64 ((rd_T85 l0 x8_1).f0)) := by rw [ha]; exact putSel_on (e := (3, 19, .int .i64 ((rd_T85 l0 x8_1).f0))) 3 rfl rfl (hon 3 (by kernel_rfl)) rfl
        replace ha := m0 ha; have BK144 := m0 Q_BK144; have BK145 := m0 Q_BK145; have BK147 := m0 Q_BK147; have HB := m0 Q_HB; refine value_ (w1 := w') (v := .int .i64 (wrap64 (x146001_1 + ((rd_T85 l0 x8_1).f0)))) (by rfl) rfl ?_ ?_
        ·go_simp
         (try simp only [i64_w])
         try rfl
        refine hK.out _ _ ⟨(by rw [ha.out]; exact putSel_upk 4 hb_ rfl rfl rfl), Q_BK144, Q_BK145, Q_BK147, Q_HB⟩
       refine steps_cons ?_ ?_
       ·rintro b a w' ⟨ha, Q_BK144, Q_BK145, Q_BK147, Q_HB⟩ hb_ hon hoff; refine ⟨_, rfl, fun K hK => ?_⟩; have e3 : a.tmps[3]? = some (.pointer (some ⟨gb145, 0, none⟩)) := by rw [ha]; exact (putSel_off rfl).trans rfl
        replace ha := m0 ha; have BK144 := m0 Q_BK144; have BK145 := m0 Q_BK145; have BK147 := m0 Q_BK147; have HB := m0 Q_HB; refine value_ (w1 := w') (v := .pointer (some ⟨gb145, 2, none⟩)) (by rfl) rfl ?_ ?_
        ·go_simp
         (try simp only [i64_w])
         try rfl
        refine hK.out _ _ ⟨(by rw [ha.out]; exact putSel_upk 5 hb_ rfl rfl rfl), Q_BK144, Q_BK145, Q_BK147, Q_HB⟩
       refine steps_cons ?_ ?_
       ·rintro b a w' ⟨ha, Q_BK144, Q_BK145, Q_BK147, Q_HB⟩ hb_ hon hoff; refine ⟨_, rfl, fun K hK => ?_⟩; have e21 : a.tmps[21]? = some (.pointer (some ⟨gb145, 2, none⟩)) := by rw [ha]; exact putSel_on (e := (5, 21, .pointer (some ⟨gb145, 2, none⟩))) 5 rfl rfl (hon 5 (by kernel_rfl)) rfl
        replace ha := m0 ha; have BK144 := m0 Q_BK144; have BK145 := m0 Q_BK145; have BK147 := m0 Q_BK147; have HB := m0 Q_HB; have hc2_ : w'.cell? ⟨gb145, 2, none⟩ = some (.int .i64 x146002_1) := (blk_cell BK145.out 2).trans (by show some (if b 13 = true then _ else _) = _; rw [hoff 13 (by kernel_rfl)]; rfl); refine value_ (w1 := w') (v := .int .i64 x146002_1) (by rfl) rfl ?_ ?_
        ·go_simp
         (try simp only [i64_w])
         try rfl
        refine hK.out _ _ ⟨(by rw [ha.out]; exact putSel_upk 6 hb_ rfl rfl rfl), Q_BK144, Q_BK145, Q_BK147, Q_HB⟩
       refine steps_cons ?_ ?_
       ·rintro b a w' ⟨ha, Q_BK144, Q_BK145, Q_BK147, Q_HB⟩ hb_ hon hoff; refine ⟨_, rfl, fun K hK => ?_⟩; have e5 : a.tmps[5]? = some (.pointer (some ⟨gb147, 0, none⟩)) := by rw [ha]; exact (putSel_off rfl).trans rfl
        replace ha := m0 ha; have BK144 := m0 Q_BK144; have BK145 := m0 Q_BK145; have BK147 := m0 Q_BK147; have HB := m0 Q_HB; refine value_ (w1 := w') (v := .pointer (some ⟨gb147, 1, none⟩)) (by rfl) rfl ?_ ?_
        ·go_simp
         (try simp only [i64_w])
         try rfl
        refine hK.out _ _ ⟨(by rw [ha.out]; exact putSel_upk 7 hb_ rfl rfl rfl), Q_BK144, Q_BK145, Q_BK147, Q_HB⟩
       refine steps_cons ?_ ?_
       ·rintro b a w' ⟨ha, Q_BK144, Q_BK145, Q_BK147, Q_HB⟩ hb_ hon hoff; refine ⟨_, rfl, fun K hK => ?_⟩; have e23 : a.tmps[23]? = some (.pointer (some ⟨gb147, 1, none⟩)) := by rw [ha]; exact putSel_on (e := (7, 23, .pointer (some ⟨gb147, 1, none⟩))) 7 rfl rfl (hon 7 (by kernel_rfl)) rfl
        replace ha := m0 ha; have BK144 := m0 Q_BK144; have BK145 := m0 Q_BK145; have BK147 := m0 Q_BK147; have HB := m0 Q_HB; have hc1_ : w'.cell? ⟨gb147, 1, none⟩ = some (.int .i64 ((rd_T85 l0 x8_1).f1)) := (blk_cell BK147.out 1).trans rfl; refine value_ (w1 := w') (v := .int .i64 ((rd_T85 l0 x8_1).f1)) (by rfl) rfl ?_ ?_
        ·go_simp
         (try simp only [i64_w])
         try rfl
        refine hK.out _ _ ⟨(by rw [ha.out]; exact putSel_upk 8 hb_ rfl rfl rfl), Q_BK144, Q_BK145, Q_BK147, Q_HB⟩
       refine steps_cons ?_ ?_
       ·rintro b a w' ⟨ha, Q_BK144, Q_BK145, Q_BK147, Q_HB⟩ hb_ hon hoff; refine ⟨_, rfl, fun K hK => ?_⟩; have e22 : a.tmps[22]? = some (.int .i64 x146002_1) := by rw [ha]; exact putSel_on (e := (6, 22, .int .i64 x146002_1)) 6 rfl rfl (hon 6 (by kernel_rfl)) rfl
        have e24 : a.tmps[24]? = some (.int .i64 ((rd_T85 l0 x8_1).f1)) := by rw [ha]; exact putSel_on (e := (8, 24, .int .i64 ((rd_T85 l0 x8_1).f1))) 8 rfl rfl (hon 8 (by kernel_rfl)) rfl
        replace ha := m0 ha; have BK144 := m0 Q_BK144; have BK145 := m0 Q_BK145; have BK147 := m0 Q_BK147; have HB := m0 Q_HB; refine value_ (w1 := w') (v := .int .i64 (wrap64 (x146002_1 + ((rd_T85 l0 x8_1).f1)))) (by rfl) rfl ?_ ?_
        ·go_simp
         (try simp only [i64_w])
         try rfl
        refine hK.out _ _ ⟨(by rw [ha.out]; exact putSel_upk 9 hb_ rfl rfl rfl), Q_BK144, Q_BK145, Q_BK147, Q_HB⟩
       refine steps_cons ?_ ?_
       ·rintro b a w' ⟨ha, Q_BK144, Q_BK145, Q_BK147, Q_HB⟩ hb_ hon hoff; refine ⟨_, rfl, fun K hK => ?_⟩; have e3 : a.tmps[3]? = some (.pointer (some ⟨gb145, 0, none⟩)) := by rw [ha]; exact (putSel_off rfl).trans rfl
        replace ha := m0 ha; have BK144 := m0 Q_BK144; have BK145 := m0 Q_BK145; have BK147 := m0 Q_BK147; have HB := m0 Q_HB; refine value_ (w1 := w') (v := .pointer (some ⟨gb145, 1, none⟩)) (by rfl) rfl ?_ ?_
        ·go_simp
         (try simp only [i64_w])
         try rfl
        refine hK.out _ _ ⟨(by rw [ha.out]; exact putSel_upk 10 hb_ rfl rfl rfl), Q_BK144, Q_BK145, Q_BK147, Q_HB⟩
       refine steps_cons ?_ ?_
       ·rintro b a w' ⟨ha, Q_BK144, Q_BK145, Q_BK147, Q_HB⟩ hb_ hon hoff; refine ⟨_, rfl, fun K hK => ?_⟩; have e26 : a.tmps[26]? = some (.pointer (some ⟨gb145, 1, none⟩)) := by rw [ha]; exact putSel_on (e := (10, 26, .pointer (some ⟨gb145, 1, none⟩))) 10 rfl rfl (hon 10 (by kernel_rfl)) rfl
        have e20 : a.tmps[20]? = some (.int .i64 (wrap64 (x146001_1 + ((rd_T85 l0 x8_1).f0)))) := by rw [ha]; exact putSel_on (e := (4, 20, .int .i64 (wrap64 (x146001_1 + ((rd_T85 l0 x8_1).f0))))) 4 rfl rfl (hon 4 (by kernel_rfl)) rfl
        replace ha := m0 ha; have BK144 := m0 Q_BK144; have BK145 := m0 Q_BK145; have BK147 := m0 Q_BK147; have HB := m0 Q_HB; have hz_ : w'.cell? ⟨gb145, 1, none⟩ = some ((if b 11 = true then (.int .i64 (wrap64 (x146001_1 + ((rd_T85 l0 x8_1).f0))) : Value) else .int .i64 x146001_1)) := (blk_cell BK145.out 1).trans rfl; have hf_ := blk_frozen BK145.out 1; refine skip_ (w1 := ?_) (by rfl) rfl ?_ ?_; rotate_left
        ·go_simp
         rfl
        refine hK.out _ _ ⟨(by rw [ha.out]; exact putSel_none (v := undef) rfl), blk_far BK144.out NB144_145.out _, blk_put BK145.out 1 _ (by simp [up]), blk_far BK147.out NB147_145.out _, below_set HB.out GE145.out⟩
       refine steps_cons ?_ ?_
       ·rintro b a w' ⟨ha, Q_BK144, Q_BK145, Q_BK147, Q_HB⟩ hb_ hon hoff; refine ⟨_, rfl, fun K hK => ?_⟩; have e3 : a.tmps[3]? = some (.pointer (some ⟨gb145, 0, none⟩)) := by rw [ha]; exact (putSel_off rfl).trans rfl
        replace ha := m0 ha; have BK144 := m0 Q_BK144; have BK145 := m0 Q_BK145; have BK147 := m0 Q_BK147; have HB := m0 Q_HB; refine value_ (w1 := w') (v := .pointer (some ⟨gb145, 2, none⟩)) (by rfl) rfl ?_ ?_
        ·go_simp
         (try simp only [i64_w])
         try rfl
        refine hK.out _ _ ⟨(by rw [ha.out]; exact putSel_upk 11 hb_ rfl rfl rfl), Q_BK144, Q_BK145, Q_BK147, Q_HB⟩
       refine steps_cons ?_ ?_
       ·rintro b a w' ⟨ha, Q_BK144, Q_BK145, Q_BK147, Q_HB⟩ hb_ hon hoff; refine ⟨_, rfl, fun K hK => ?_⟩; have e27 : a.tmps[27]? = some (.pointer (some ⟨gb145, 2, none⟩)) := by rw [ha]; exact putSel_on (e := (12, 27, .pointer (some ⟨gb145, 2, none⟩))) 11 rfl rfl (hon 12 (by kernel_rfl)) rfl
        have e25 : a.tmps[25]? = some (.int .i64 (wrap64 (x146002_1 + ((rd_T85 l0 x8_1).f1)))) := by rw [ha]; exact putSel_on (e := (9, 25, .int .i64 (wrap64 (x146002_1 + ((rd_T85 l0 x8_1).f1))))) 9 rfl rfl (hon 9 (by kernel_rfl)) rfl
        replace ha := m0 ha; have BK144 := m0 Q_BK144; have BK145 := m0 Q_BK145; have BK147 := m0 Q_BK147; have HB := m0 Q_HB; have hz_ : w'.cell? ⟨gb145, 2, none⟩ = some ((if b 13 = true then (.int .i64 (wrap64 (x146002_1 + ((rd_T85 l0 x8_1).f1))) : Value) else .int .i64 x146002_1)) := (blk_cell BK145.out 2).trans rfl; have hf_ := blk_frozen BK145.out 2; refine skip_ (w1 := ?_) (by rfl) rfl ?_ ?_; rotate_left
        ·go_simp
         rfl
        refine hK.out _ _ ⟨(by rw [ha.out]; exact putSel_none (v := undef) rfl), blk_far BK144.out NB144_145.out _, blk_put BK145.out 2 _ (by simp [up]), blk_far BK147.out NB147_145.out _, below_set HB.out GE145.out⟩
       exact steps_nil
      rintro b a w17 hall ⟨ha, Q_BK144, Q_BK145, Q_BK147, Q_HB⟩; clear BK144 BK145 BK147 HB; have hb0_ := hall 0 (by kernel_rfl); have hb1_ := hall 1 (by kernel_rfl); have hb2_ := hall 2 (by kernel_rfl); have hb3_ := hall 3 (by kernel_rfl); have hb4_ := hall 4 (by kernel_rfl); have hb5_ := hall 5 (by kernel_rfl); have hb6_ := hall 6 (by kernel_rfl); have hb7_ := hall 7 (by kernel_rfl); have hb8_ := hall 8 (by kernel_rfl); have hb9_ := hall 9 (by kernel_rfl); have hb10_ := hall 10 (by kernel_rfl); have hb11_ := hall 11 (by kernel_rfl); have hb12_ := hall 12 (by kernel_rfl); have hb13_ := hall 13 (by kernel_rfl); subst ha; simp only [putSel, hb0_, hb1_, hb2_, hb3_, hb4_, hb5_, hb6_, hb7_, hb8_, hb9_, hb10_, hb11_, hb12_, hb13_, if_true, Act.put, List.setIfInBounds_toArray, List.set_cons_zero, List.set_cons_succ]; have BK144 := m0 Q_BK144; clear Q_BK144; have BK145 := m0 Q_BK145; clear Q_BK145; have BK147 := m0 Q_BK147; clear Q_BK147; have HB := m0 Q_HB; clear Q_HB; simp only [hb11_, hb13_, ↓reduceIte] at BK145; clear hall hb0_ hb1_ hb2_ hb3_ hb4_ hb5_ hb6_ hb7_ hb8_ hb9_ hb10_ hb11_ hb12_ hb13_
      try go_wp2
      replace BK144 := bd BK144; replace BK145 := bd BK145; replace BK147 := bd BK147; replace HB := sd HB; refine start_ (n := 30) (S := fun w' => True) (ds := []) _ (by kernel_rfl) rfl rfl trivial (fun hH => ?_); refine with_tabW L_sumsOf.tab7 L_sumsOf.bits7 (fun HT_ HW_ => ?_); generalize w17.drew = w18 at BK144 BK145 BK147 HB hH ⊢; refine inv_at [0, 1, 2, 3, 4, 5, 6, 7, 8, 9, 10, 11, 12, 13, 14, 15, 16, 17, 18, 19, 20, 21, 22, 23, 24, 25, 26, 27, 28, 29] (fun a0_ b a w' => a = putSel a0_ b [(0, 28, .pointer (some ⟨gb145, 3, none⟩)), (1, 29, .int .i64 x146003_1), (2, 30, .pointer (some ⟨gb147, 0, none⟩)), (3, 31, .int .i64 ((rd_T85 l0 x8_1).f0)), (4, 32, .pointer (some ⟨gb147, 0, none⟩)), (5, 33, .int .i64 ((rd_T85 l0 x8_1).f0)), (6, 34, .int .i64 (wrap64 (((rd_T85 l0 x8_1).f0) * ((rd_T85 l0 x8_1).f0)))), (7, 35, .int .i64 (wrap64 (x146003_1 + (wrap64 (((rd_T85 l0 x8_1).f0) * ((rd_T85 l0 x8_1).f0)))))), (8, 36, .pointer (some ⟨gb145, 4, none⟩)), (9, 37, .int .i64 x146004_1), (10, 38, .pointer (some ⟨gb147, 0, none⟩)), (11, 39, .int .i64 ((rd_T85 l0 x8_1).f0)), (12, 40, .pointer (some ⟨gb147, 1, none⟩)), (13, 41, .int .i64 ((rd_T85 l0 x8_1).f1)), (14, 42, .int .i64 (wrap64 (((rd_T85 l0 x8_1).f0) * ((rd_T85 l0 x8_1).f1)))), (15, 43, .int .i64 (wrap64 (x146004_1 + (wrap64 (((rd_T85 l0 x8_1).f0) * ((rd_T85 l0 x8_1).f1)))))), (16, 44, .pointer (some ⟨gb145, 5, none⟩)), (17, 45, .int .i64 x146005_1), (18, 46, .pointer (some ⟨gb147, 1, none⟩)), (19, 47, .int .i64 ((rd_T85 l0 x8_1).f1)), (20, 48, .pointer (some ⟨gb147, 1, none⟩)), (21, 49, .int .i64 ((rd_T85 l0 x8_1).f1)), (22, 50, .int .i64 (wrap64 (((rd_T85 l0 x8_1).f1) * ((rd_T85 l0 x8_1).f1)))), (23, 51, .int .i64 (wrap64 (x146005_1 + (wrap64 (((rd_T85 l0 x8_1).f1) * ((rd_T85 l0 x8_1).f1)))))), (24, 52, .pointer (some ⟨gb145, 3, none⟩)), (26, 53, .pointer (some ⟨gb145, 4, none⟩)), (28, 54, .pointer (some ⟨gb145, 5, none⟩))] ∧ (w'.heap[gb144]? = some (.cells #[.int .i64 0, .int .i64 0, .int .i64 0, .int .i64 0, .int .i64 0, .int .i64 0] 149 (0, 0))) ∧ (w'.heap[gb145]? = some (.cells #[.int .i64 (wrap64 (x146000_1 + 1)), .int .i64 (wrap64 (x146001_1 + ((rd_T85 l0 x8_1).f0))), .int .i64 (wrap64 (x146002_1 + ((rd_T85 l0 x8_1).f1))), (if b 25 = true then (.int .i64 (wrap64 (x146003_1 + (wrap64 (((rd_T85 l0 x8_1).f0) * ((rd_T85 l0 x8_1).f0))))) : Value) else .int .i64 x146003_1), (if b 27 = true then (.int .i64 (wrap64 (x146004_1 + (wrap64 (((rd_T85 l0 x8_1).f0) * ((rd_T85 l0 x8_1).f1))))) : Value) else .int .i64 x146004_1), (if b 29 = true then (.int .i64 (wrap64 (x146005_1 + (wrap64 (((rd_T85 l0 x8_1).f1) * ((rd_T85 l0 x8_1).f1))))) : Value) else .int .i64 x146005_1)] 149 (0, 0))) ∧ (w'.heap[gb147]? = some (.cells #[.int .i64 ((rd_T85 l0 x8_1).f0), .int .i64 ((rd_T85 l0 x8_1).f1), .int .i64 ((rd_T85 l0 x8_1).f2)] 85 (0, 0))) ∧ (Below w.heap.size w w')) HT_.out HW_.out (by kernel_rfl) (by kernel_rfl) ?_ ?_ ?_
      ·exact ⟨by simp only [putSel, Bool.false_eq_true, if_false], BK144.out, BK145.out, BK147.out, HB.out⟩
      ·skip
       clear BK144 BK145 BK147 HB; refine steps_cons ?_ ?_
       ·rintro b a w' ⟨ha, Q_BK144, Q_BK145, Q_BK147, Q_HB⟩ hb_ hon hoff; refine ⟨_, rfl, fun K hK => ?_⟩; have e3 : a.tmps[3]? = some (.pointer (some ⟨gb145, 0, none⟩)) := by rw [ha]; exact (putSel_off rfl).trans rfl
        replace ha := m0 ha; have BK144 := m0 Q_BK144; have BK145 := m0 Q_BK145; have BK147 := m0 Q_BK147; have HB := m0 Q_HB; refine value_ (w1 := w') (v := .pointer (some ⟨gb145, 3, none⟩)) (by rfl) rfl ?_ ?_
        ·go_simp
         (try simp only [i64_w])
         try rfl
        refine hK.out _ _ ⟨(by rw [ha.out]; exact putSel_upk 0 hb_ rfl rfl rfl), Q_BK144, Q_BK145, Q_BK147, Q_HB⟩
       refine steps_cons ?_ ?_
       ·rintro b a w' ⟨ha, Q_BK144, Q_BK145, Q_BK147, Q_HB⟩ hb_ hon hoff; refine ⟨_, rfl, fun K hK => ?_⟩; have e28 : a.tmps[28]? = some (.pointer (some ⟨gb145, 3, none⟩)) := by rw [ha]; exact putSel_on (e := (0, 28, .pointer (some ⟨gb145, 3, none⟩))) 0 rfl rfl (hon 0 (by kernel_rfl)) rfl
        replace ha := m0 ha; have BK144 := m0 Q_BK144; have BK145 := m0 Q_BK145; have BK147 := m0 Q_BK147; have HB := m0 Q_HB; have hc3_ : w'.cell? ⟨gb145, 3, none⟩ = some (.int .i64 x146003_1) := (blk_cell BK145.out 3).trans (by show some (if b 25 = true then _ else _) = _; rw [hoff 25 (by kernel_rfl)]; rfl); refine value_ (w1 := w') (v := .int .i64 x146003_1) (by rfl) rfl ?_ ?_
        ·go_simp
         (try simp only [i64_w])
         try rfl
        refine hK.out _ _ ⟨(by rw [ha.out]; exact putSel_upk 1 hb_ rfl rfl rfl), Q_BK144, Q_BK145, Q_BK147, Q_HB⟩
       refine steps_cons ?_ ?_
       ·rintro b a w' ⟨ha, Q_BK144, Q_BK145, Q_BK147, Q_HB⟩ hb_ hon hoff; refine ⟨_, rfl, fun K hK => ?_⟩; have e5 : a.tmps[5]? = some (.pointer (some ⟨gb147, 0, none⟩)) := by rw [ha]; exact (putSel_off rfl).trans rfl
        replace ha := m0 ha; have BK144 := m0 Q_BK144; have BK145 := m0 Q_BK145; have BK147 := m0 Q_BK147; have HB := m0 Q_HB; refine value_ (w1 := w') (v := .pointer (some ⟨gb147, 0, none⟩)) (by rfl) rfl ?_ ?_
        ·go_simp
         (try simp only [i64_w])
         try rfl
        refine hK.out _ _ ⟨(by rw [ha.out]; exact putSel_upk 2 hb_ rfl rfl rfl), Q_BK144, Q_BK145, Q_BK147, Q_HB⟩
       refine steps_cons ?_ ?_
       ·rintro b a w' ⟨ha, Q_BK144, Q_BK145, Q_BK147, Q_HB⟩ hb_ hon hoff; refine ⟨_, rfl, fun K hK => ?_⟩; have e30 : a.tmps[30]? = some (.pointer (some ⟨gb147, 0, none⟩)) := by rw [ha]; exact putSel_on (e := (2, 30, .pointer (some ⟨gb147, 0, none⟩))) 2 rfl rfl (hon 2 (by kernel_rfl)) rfl
        replace ha := m0 ha; have BK144 := m0 Q_BK144; have BK145 := m0 Q_BK145; have BK147 := m0 Q_BK147; have HB := m0 Q_HB; have hc0_ : w'.cell? ⟨gb147, 0, none⟩ = some (.int .i64 ((rd_T85 l0 x8_1).f0)) := (blk_cell BK147.out 0).trans rfl; refine value_ (w1 := w') (v := .int .i64 ((rd_T85 l0 x8_1).f0)) (by rfl) rfl ?_ ?_
        ·go_simp
         (try simp only [i64_w])
         try rfl
        refine hK.out _ _ ⟨(by rw [ha.out]; exact putSel_upk 3 hb_ rfl rfl rfl), Q_BK144, Q_BK145, Q_BK147, Q_HB⟩
       refine steps_cons ?_ ?_
       ·rintro b a w' ⟨ha, Q_BK144, Q_BK145, Q_BK147, Q_HB⟩ hb_ hon hoff; refine ⟨_, rfl, fun K hK => ?_⟩; have e5 : a.tmps[5]? = some (.pointer (some ⟨gb147, 0, none⟩)) := by rw [ha]; exact (putSel_off rfl).trans rfl
        replace ha := m0 ha; have BK144 := m0 Q_BK144; have BK145 := m0 Q_BK145; have BK147 := m0 Q_BK147; have HB := m0 Q_HB; refine value_ (w1 := w') (v := .pointer (some ⟨gb147, 0, none⟩)) (by rfl) rfl ?_ ?_
        ·go_simp
         (try simp only [i64_w])
         try rfl
        refine hK.out _ _ ⟨(by rw [ha.out]; exact putSel_upk 4 hb_ rfl rfl rfl), Q_BK144, Q_BK145, Q_BK147, Q_HB⟩
       refine steps_cons ?_ ?_
       ·rintro b a w' ⟨ha, Q_BK144, Q_BK145, Q_BK147, Q_HB⟩ hb_ hon hoff; refine ⟨_, rfl, fun K hK => ?_⟩; have e32 : a.tmps[32]? = some (.pointer (some ⟨gb147, 0, none⟩)) := by rw [ha]; exact putSel_on (e := (4, 32, .pointer (some ⟨gb147, 0, none⟩))) 4 rfl rfl (hon 4 (by kernel_rfl)) rfl
        replace ha := m0 ha; have BK144 := m0 Q_BK144; have BK145 := m0 Q_BK145; have BK147 := m0 Q_BK147; have HB := m0 Q_HB; have hc0_ : w'.cell? ⟨gb147, 0, none⟩ = some (.int .i64 ((rd_T85 l0 x8_1).f0)) := (blk_cell BK147.out 0).trans rfl; refine value_ (w1 := w') (v := .int .i64 ((rd_T85 l0 x8_1).f0)) (by rfl) rfl ?_ ?_
        ·go_simp
         (try simp only [i64_w])
         try rfl
        refine hK.out _ _ ⟨(by rw [ha.out]; exact putSel_upk 5 hb_ rfl rfl rfl), Q_BK144, Q_BK145, Q_BK147, Q_HB⟩
       refine steps_cons ?_ ?_
       ·rintro b a w' ⟨ha, Q_BK144, Q_BK145, Q_BK147, Q_HB⟩ hb_ hon hoff; refine ⟨_, rfl, fun K hK => ?_⟩; have e31 : a.tmps[31]? = some (.int .i64 ((rd_T85 l0 x8_1).f0)) := by rw [ha]; exact putSel_on (e := (3, 31, .int .i64 ((rd_T85 l0 x8_1).f0))) 3 rfl rfl (hon 3 (by kernel_rfl)) rfl
        have e33 : a.tmps[33]? = some (.int .i64 ((rd_T85 l0 x8_1).f0)) := by rw [ha]; exact putSel_on (e := (5, 33, .int .i64 ((rd_T85 l0 x8_1).f0))) 5 rfl rfl (hon 5 (by kernel_rfl)) rfl
        replace ha := m0 ha; have BK144 := m0 Q_BK144; have BK145 := m0 Q_BK145; have BK147 := m0 Q_BK147; have HB := m0 Q_HB; refine value_ (w1 := w') (v := .int .i64 (wrap64 (((rd_T85 l0 x8_1).f0) * ((rd_T85 l0 x8_1).f0)))) (by rfl) rfl ?_ ?_
        ·go_simp
         (try simp only [i64_w])
         try rfl
        refine hK.out _ _ ⟨(by rw [ha.out]; exact putSel_upk 6 hb_ rfl rfl rfl), Q_BK144, Q_BK145, Q_BK147, Q_HB⟩
       refine steps_cons ?_ ?_
       ·rintro b a w' ⟨ha, Q_BK144, Q_BK145, Q_BK147, Q_HB⟩ hb_ hon hoff; refine ⟨_, rfl, fun K hK => ?_⟩; have e29 : a.tmps[29]? = some (.int .i64 x146003_1) := by rw [ha]; exact putSel_on (e := (1, 29, .int .i64 x146003_1)) 1 rfl rfl (hon 1 (by kernel_rfl)) rfl
        have e34 : a.tmps[34]? = some (.int .i64 (wrap64 (((rd_T85 l0 x8_1).f0) * ((rd_T85 l0 x8_1).f0)))) := by rw [ha]; exact putSel_on (e := (6, 34, .int .i64 (wrap64 (((rd_T85 l0 x8_1).f0) * ((rd_T85 l0 x8_1).f0))))) 6 rfl rfl (hon 6 (by kernel_rfl)) rfl
        replace ha := m0 ha; have BK144 := m0 Q_BK144; have BK145 := m0 Q_BK145; have BK147 := m0 Q_BK147; have HB := m0 Q_HB; refine value_ (w1 := w') (v := .int .i64 (wrap64 (x146003_1 + (wrap64 (((rd_T85 l0 x8_1).f0) * ((rd_T85 l0 x8_1).f0)))))) (by rfl) rfl ?_ ?_
        ·go_simp
         (try simp only [i64_w])
         try rfl
        refine hK.out _ _ ⟨(by rw [ha.out]; exact putSel_upk 7 hb_ rfl rfl rfl), Q_BK144, Q_BK145, Q_BK147, Q_HB⟩
       refine steps_cons ?_ ?_
       ·rintro b a w' ⟨ha, Q_BK144, Q_BK145, Q_BK147, Q_HB⟩ hb_ hon hoff; refine ⟨_, rfl, fun K hK => ?_⟩; have e3 : a.tmps[3]? = some (.pointer (some ⟨gb145, 0, none⟩)) := by rw [ha]; exact (putSel_off rfl).trans rfl
        replace ha := m0 ha; have BK144 := m0 Q_BK144; have BK145 := m0 Q_BK145; have BK147 := m0 Q_BK147; have HB := m0 Q_HB; refine value_ (w1 := w') (v := .pointer (some ⟨gb145, 4, none⟩)) (by rfl) rfl ?_ ?_
        ·go_simp
         (try simp only [i64_w])
         try rfl
        refine hK.out _ _ ⟨(by rw [ha.out]; exact putSel_upk 8 hb_ rfl rfl rfl), Q_BK144, Q_BK145, Q_BK147, Q_HB⟩
       refine steps_cons ?_ ?_
       ·rintro b a w' ⟨ha, Q_BK144, Q_BK145, Q_BK147, Q_HB⟩ hb_ hon hoff; refine ⟨_, rfl, fun K hK => ?_⟩; have e36 : a.tmps[36]? = some (.pointer (some ⟨gb145, 4, none⟩)) := by rw [ha]; exact putSel_on (e := (8, 36, .pointer (some ⟨gb145, 4, none⟩))) 8 rfl rfl (hon 8 (by kernel_rfl)) rfl
        replace ha := m0 ha; have BK144 := m0 Q_BK144; have BK145 := m0 Q_BK145; have BK147 := m0 Q_BK147; have HB := m0 Q_HB; have hc4_ : w'.cell? ⟨gb145, 4, none⟩ = some (.int .i64 x146004_1) := (blk_cell BK145.out 4).trans (by show some (if b 27 = true then _ else _) = _; rw [hoff 27 (by kernel_rfl)]; rfl); refine value_ (w1 := w') (v := .int .i64 x146004_1) (by rfl) rfl ?_ ?_
        ·go_simp
         (try simp only [i64_w])
         try rfl
        refine hK.out _ _ ⟨(by rw [ha.out]; exact putSel_upk 9 hb_ rfl rfl rfl), Q_BK144, Q_BK145, Q_BK147, Q_HB⟩
       refine steps_cons ?_ ?_
       ·rintro b a w' ⟨ha, Q_BK144, Q_BK145, Q_BK147, Q_HB⟩ hb_ hon hoff; refine ⟨_, rfl, fun K hK => ?_⟩; have e5 : a.tmps[5]? = some (.pointer (some ⟨gb147, 0, none⟩)) := by rw [ha]; exact (putSel_off rfl).trans rfl
        replace ha := m0 ha; have BK144 := m0 Q_BK144; have BK145 := m0 Q_BK145; have BK147 := m0 Q_BK147; have HB := m0 Q_HB; refine value_ (w1 := w') (v := .pointer (some ⟨gb147, 0, none⟩)) (by rfl) rfl ?_ ?_
        ·go_simp
         (try simp only [i64_w])
         try rfl
        refine hK.out _ _ ⟨(by rw [ha.out]; exact putSel_upk 10 hb_ rfl rfl rfl), Q_BK144, Q_BK145, Q_BK147, Q_HB⟩
       refine steps_cons ?_ ?_
       ·rintro b a w' ⟨ha, Q_BK144, Q_BK145, Q_BK147, Q_HB⟩ hb_ hon hoff; refine ⟨_, rfl, fun K hK => ?_⟩; have e38 : a.tmps[38]? = some (.pointer (some ⟨gb147, 0, none⟩)) := by rw [ha]; exact putSel_on (e := (10, 38, .pointer (some ⟨gb147, 0, none⟩))) 10 rfl rfl (hon 10 (by kernel_rfl)) rfl
        replace ha := m0 ha; have BK144 := m0 Q_BK144; have BK145 := m0 Q_BK145; have BK147 := m0 Q_BK147; have HB := m0 Q_HB; have hc0_ : w'.cell? ⟨gb147, 0, none⟩ = some (.int .i64 ((rd_T85 l0 x8_1).f0)) := (blk_cell BK147.out 0).trans rfl; refine value_ (w1 := w') (v := .int .i64 ((rd_T85 l0 x8_1).f0)) (by rfl) rfl ?_ ?_
        ·go_simp
         (try simp only [i64_w])
         try rfl
        refine hK.out _ _ ⟨(by rw [ha.out]; exact putSel_upk 11 hb_ rfl rfl rfl), Q_BK144, Q_BK145, Q_BK147, Q_HB⟩
       refine steps_cons ?_ ?_
       ·rintro b a w' ⟨ha, Q_BK144, Q_BK145, Q_BK147, Q_HB⟩ hb_ hon hoff; refine ⟨_, rfl, fun K hK => ?_⟩; have e5 : a.tmps[5]? = some (.pointer (some ⟨gb147, 0, none⟩)) := by rw [ha]; exact (putSel_off rfl).trans rfl
        replace ha := m0 ha; have BK144 := m0 Q_BK144; have BK145 := m0 Q_BK145; have BK147 := m0 Q_BK147; have HB := m0 Q_HB; refine value_ (w1 := w') (v := .pointer (some ⟨gb147, 1, none⟩)) (by rfl) rfl ?_ ?_
        ·go_simp
         (try simp only [i64_w])
         try rfl
        refine hK.out _ _ ⟨(by rw [ha.out]; exact putSel_upk 12 hb_ rfl rfl rfl), Q_BK144, Q_BK145, Q_BK147, Q_HB⟩
       refine steps_cons ?_ ?_
       ·rintro b a w' ⟨ha, Q_BK144, Q_BK145, Q_BK147, Q_HB⟩ hb_ hon hoff; refine ⟨_, rfl, fun K hK => ?_⟩; have e40 : a.tmps[40]? = some (.pointer (some ⟨gb147, 1, none⟩)) := by rw [ha]; exact putSel_on (e := (12, 40, .pointer (some ⟨gb147, 1, none⟩))) 12 rfl rfl (hon 12 (by kernel_rfl)) rfl
        replace ha := m0 ha; have BK144 := m0 Q_BK144; have BK145 := m0 Q_BK145; have BK147 := m0 Q_BK147; have HB := m0 Q_HB; have hc1_ : w'.cell? ⟨gb147, 1, none⟩ = some (.int .i64 ((rd_T85 l0 x8_1).f1)) := (blk_cell BK147.out 1).trans rfl; refine value_ (w1 := w') (v := .int .i64 ((rd_T85 l0 x8_1).f1)) (by rfl) rfl ?_ ?_
        ·go_simp
         (try simp only [i64_w])
         try rfl
        refine hK.out _ _ ⟨(by rw [ha.out]; exact putSel_upk 13 hb_ rfl rfl rfl), Q_BK144, Q_BK145, Q_BK147, Q_HB⟩
       refine steps_cons ?_ ?_
       ·rintro b a w' ⟨ha, Q_BK144, Q_BK145, Q_BK147, Q_HB⟩ hb_ hon hoff; refine ⟨_, rfl, fun K hK => ?_⟩; have e39 : a.tmps[39]? = some (.int .i64 ((rd_T85 l0 x8_1).f0)) := by rw [ha]; exact putSel_on (e := (11, 39, .int .i64 ((rd_T85 l0 x8_1).f0))) 11 rfl rfl (hon 11 (by kernel_rfl)) rfl
        have e41 : a.tmps[41]? = some (.int .i64 ((rd_T85 l0 x8_1).f1)) := by rw [ha]; exact putSel_on (e := (13, 41, .int .i64 ((rd_T85 l0 x8_1).f1))) 13 rfl rfl (hon 13 (by kernel_rfl)) rfl
        replace ha := m0 ha; have BK144 := m0 Q_BK144; have BK145 := m0 Q_BK145; have BK147 := m0 Q_BK147; have HB := m0 Q_HB; refine value_ (w1 := w') (v := .int .i64 (wrap64 (((rd_T85 l0 x8_1).f0) * ((rd_T85 l0 x8_1).f1)))) (by rfl) rfl ?_ ?_
        ·go_simp
         (try simp only [i64_w])
         try rfl
        refine hK.out _ _ ⟨(by rw [ha.out]; exact putSel_upk 14 hb_ rfl rfl rfl), Q_BK144, Q_BK145, Q_BK147, Q_HB⟩
       refine steps_cons ?_ ?_
       ·rintro b a w' ⟨ha, Q_BK144, Q_BK145, Q_BK147, Q_HB⟩ hb_ hon hoff; refine ⟨_, rfl, fun K hK => ?_⟩; have e37 : a.tmps[37]? = some (.int .i64 x146004_1) := by rw [ha]; exact putSel_on (e := (9, 37, .int .i64 x146004_1)) 9 rfl rfl (hon 9 (by kernel_rfl)) rfl
        have e42 : a.tmps[42]? = some (.int .i64 (wrap64 (((rd_T85 l0 x8_1).f0) * ((rd_T85 l0 x8_1).f1)))) := by rw [ha]; exact putSel_on (e := (14, 42, .int .i64 (wrap64 (((rd_T85 l0 x8_1).f0) * ((rd_T85 l0 x8_1).f1))))) 14 rfl rfl (hon 14 (by kernel_rfl)) rfl
        replace ha := m0 ha; have BK144 := m0 Q_BK144; have BK145 := m0 Q_BK145; have BK147 := m0 Q_BK147; have HB := m0 Q_HB; refine value_ (w1 := w') (v := .int .i64 (wrap64 (x146004_1 + (wrap64 (((rd_T85 l0 x8_1).f0) * ((rd_T85 l0 x8_1).f1)))))) (by rfl) rfl ?_ ?_
        ·go_simp
         (try simp only [i64_w])
         try rfl
        refine hK.out _ _ ⟨(by rw [ha.out]; exact putSel_upk 15 hb_ rfl rfl rfl), Q_BK144, Q_BK145, Q_BK147, Q_HB⟩
       refine steps_cons ?_ ?_
       ·rintro b a w' ⟨ha, Q_BK144, Q_BK145, Q_BK147, Q_HB⟩ hb_ hon hoff; refine ⟨_, rfl, fun K hK => ?_⟩; have e3 : a.tmps[3]? = some (.pointer (some ⟨gb145, 0, none⟩)) := by rw [ha]; exact (putSel_off rfl).trans rfl
        replace ha := m0 ha; have BK144 := m0 Q_BK144; have BK145 := m0 Q_BK145; have BK147 := m0 Q_BK147; have HB := m0 Q_HB; refine value_ (w1 := w') (v := .pointer (some ⟨gb145, 5, none⟩)) (by rfl) rfl ?_ ?_
        ·go_simp
         (try simp only [i64_w])
         try rfl
        refine hK.out _ _ ⟨(by rw [ha.out]; exact putSel_upk 16 hb_ rfl rfl rfl), Q_BK144, Q_BK145, Q_BK147, Q_HB⟩
       refine steps_cons ?_ ?_
       ·rintro b a w' ⟨ha, Q_BK144, Q_BK145, Q_BK147, Q_HB⟩ hb_ hon hoff; refine ⟨_, rfl, fun K hK => ?_⟩; have e44 : a.tmps[44]? = some (.pointer (some ⟨gb145, 5, none⟩)) := by rw [ha]; exact putSel_on (e := (16, 44, .pointer (some ⟨gb145, 5, none⟩))) 16 rfl rfl (hon 16 (by kernel_rfl)) rfl
        replace ha := m0 ha; have BK144 := m0 Q_BK144; have BK145 := m0 Q_BK145; have BK147 := m0 Q_BK147; have HB := m0 Q_HB; have hc5_ : w'.cell? ⟨gb145, 5, none⟩ = some (.int .i64 x146005_1) := (blk_cell BK145.out 5).trans (by show some (if b 29 = true then _ else _) = _; rw [hoff 29 (by kernel_rfl)]; rfl); refine value_ (w1 := w') (v := .int .i64 x146005_1) (by rfl) rfl ?_ ?_
        ·go_simp
         (try simp only [i64_w])
         try rfl
        refine hK.out _ _ ⟨(by rw [ha.out]; exact putSel_upk 17 hb_ rfl rfl rfl), Q_BK144, Q_BK145, Q_BK147, Q_HB⟩
       refine steps_cons ?_ ?_
       ·rintro b a w' ⟨ha, Q_BK144, Q_BK145, Q_BK147, Q_HB⟩ hb_ hon hoff; refine ⟨_, rfl, fun K hK => ?_⟩; have e5 : a.tmps[5]? = some (.pointer (some ⟨gb147, 0, none⟩)) := by rw [ha]; exact (putSel_off rfl).trans rfl
        replace ha := m0 ha; have BK144 := m0 Q_BK144; have BK145 := m0 Q_BK145; have BK147 := m0 Q_BK147; have HB := m0 Q_HB; refine value_ (w1 := w') (v := .pointer (some ⟨gb147, 1, none⟩)) (by rfl) rfl ?_ ?_
        ·go_simp
         (try simp only [i64_w])
         try rfl
        refine hK.out _ _ ⟨(by rw [ha.out]; exact putSel_upk 18 hb_ rfl rfl rfl), Q_BK144, Q_BK145, Q_BK147, Q_HB⟩
       refine steps_cons ?_ ?_
       ·rintro b a w' ⟨ha, Q_BK144, Q_BK145, Q_BK147, Q_HB⟩ hb_ hon hoff; refine ⟨_, rfl, fun K hK => ?_⟩; have e46 : a.tmps[46]? = some (.pointer (some ⟨gb147, 1, none⟩)) := by rw [ha]; exact putSel_on (e := (18, 46, .pointer (some ⟨gb147, 1, none⟩))) 18 rfl rfl (hon 18 (by kernel_rfl)) rfl
        replace ha := m0 ha; have BK144 := m0 Q_BK144; have BK145 := m0 Q_BK145; have BK147 := m0 Q_BK147; have HB := m0 Q_HB; have hc1_ : w'.cell? ⟨gb147, 1, none⟩ = some (.int .i64 ((rd_T85 l0 x8_1).f1)) := (blk_cell BK147.out 1).trans rfl; refine value_ (w1 := w') (v := .int .i64 ((rd_T85 l0 x8_1).f1)) (by rfl) rfl ?_ ?_
        ·go_simp
         (try simp only [i64_w])
         try rfl
        refine hK.out _ _ ⟨(by rw [ha.out]; exact putSel_upk 19 hb_ rfl rfl rfl), Q_BK144, Q_BK145, Q_BK147, Q_HB⟩
       refine steps_cons ?_ ?_
       ·rintro b a w' ⟨ha, Q_BK144, Q_BK145, Q_BK147, Q_HB⟩ hb_ hon hoff; refine ⟨_, rfl, fun K hK => ?_⟩; have e5 : a.tmps[5]? = some (.pointer (some ⟨gb147, 0, none⟩)) := by rw [ha]; exact (putSel_off rfl).trans rfl
        replace ha := m0 ha; have BK144 := m0 Q_BK144; have BK145 := m0 Q_BK145; have BK147 := m0 Q_BK147; have HB := m0 Q_HB; refine value_ (w1 := w') (v := .pointer (some ⟨gb147, 1, none⟩)) (by rfl) rfl ?_ ?_
        ·go_simp
         (try simp only [i64_w])
         try rfl
        refine hK.out _ _ ⟨(by rw [ha.out]; exact putSel_upk 20 hb_ rfl rfl rfl), Q_BK144, Q_BK145, Q_BK147, Q_HB⟩
       refine steps_cons ?_ ?_
       ·rintro b a w' ⟨ha, Q_BK144, Q_BK145, Q_BK147, Q_HB⟩ hb_ hon hoff; refine ⟨_, rfl, fun K hK => ?_⟩; have e48 : a.tmps[48]? = some (.pointer (some ⟨gb147, 1, none⟩)) := by rw [ha]; exact putSel_on (e := (20, 48, .pointer (some ⟨gb147, 1, none⟩))) 20 rfl rfl (hon 20 (by kernel_rfl)) rfl
        replace ha := m0 ha; have BK144 := m0 Q_BK144; have BK145 := m0 Q_BK145; have BK147 := m0 Q_BK147; have HB := m0 Q_HB; have hc1_ : w'.cell? ⟨gb147, 1, none⟩ = some (.int .i64 ((rd_T85 l0 x8_1).f1)) := (blk_cell BK147.out 1).trans rfl; refine value_ (w1 := w') (v := .int .i64 ((rd_T85 l0 x8_1).f1)) (by rfl) rfl ?_ ?_
        ·go_simp
         (try simp only [i64_w])
         try rfl
        refine hK.out _ _ ⟨(by rw [ha.out]; exact putSel_upk 21 hb_ rfl rfl rfl), Q_BK144, Q_BK145, Q_BK147, Q_HB⟩
       refine steps_cons ?_ ?_
       ·rintro b a w' ⟨ha, Q_BK144, Q_BK145, Q_BK147, Q_HB⟩ hb_ hon hoff; refine ⟨_, rfl, fun K hK => ?_⟩; have e47 : a.tmps[47]? = some (.int .i64 ((rd_T85 l0 x8_1).f1)) := by rw [ha]; exact putSel_on (e := (19, 47, .int .i64 ((rd_T85 l0 x8_1).f1))) 19 rfl rfl (hon 19 (by kernel_rfl)) rfl
        have e49 : a.tmps[49]? = some (.int .i64 ((rd_T85 l0 x8_1).f1)) := by rw [ha]; exact putSel_on (e := (21, 49, .int .i64 ((rd_T85 l0 x8_1).f1))) 21 rfl rfl (hon 21 (by kernel_rfl)) rfl
        replace ha := m0 ha; have BK144 := m0 Q_BK144; have BK145 := m0 Q_BK145; have BK147 := m0 Q_BK147; have HB := m0 Q_HB; refine value_ (w1 := w') (v := .int .i64 (wrap64 (((rd_T85 l0 x8_1).f1) * ((rd_T85 l0 x8_1).f1)))) (by rfl) rfl ?_ ?_
        ·go_simp
         (try simp only [i64_w])
         try rfl
        refine hK.out _ _ ⟨(by rw [ha.out]; exact putSel_upk 22 hb_ rfl rfl rfl), Q_BK144, Q_BK145, Q_BK147, Q_HB⟩
       refine steps_cons ?_ ?_
       ·rintro b a w' ⟨ha, Q_BK144, Q_BK145, Q_BK147, Q_HB⟩ hb_ hon hoff; refine ⟨_, rfl, fun K hK => ?_⟩; have e45 : a.tmps[45]? = some (.int .i64 x146005_1) := by rw [ha]; exact putSel_on (e := (17, 45, .int .i64 x146005_1)) 17 rfl rfl (hon 17 (by kernel_rfl)) rfl
        have e50 : a.tmps[50]? = some (.int .i64 (wrap64 (((rd_T85 l0 x8_1).f1) * ((rd_T85 l0 x8_1).f1)))) := by rw [ha]; exact putSel_on (e := (22, 50, .int .i64 (wrap64 (((rd_T85 l0 x8_1).f1) * ((rd_T85 l0 x8_1).f1))))) 22 rfl rfl (hon 22 (by kernel_rfl)) rfl
        replace ha := m0 ha; have BK144 := m0 Q_BK144; have BK145 := m0 Q_BK145; have BK147 := m0 Q_BK147; have HB := m0 Q_HB; refine value_ (w1 := w') (v := .int .i64 (wrap64 (x146005_1 + (wrap64 (((rd_T85 l0 x8_1).f1) * ((rd_T85 l0 x8_1).f1)))))) (by rfl) rfl ?_ ?_
        ·go_simp
         (try simp only [i64_w])
         try rfl
        refine hK.out _ _ ⟨(by rw [ha.out]; exact putSel_upk 23 hb_ rfl rfl rfl), Q_BK144, Q_BK145, Q_BK147, Q_HB⟩
       refine steps_cons ?_ ?_
       ·rintro b a w' ⟨ha, Q_BK144, Q_BK145, Q_BK147, Q_HB⟩ hb_ hon hoff; refine ⟨_, rfl, fun K hK => ?_⟩; have e3 : a.tmps[3]? = some (.pointer (some ⟨gb145, 0, none⟩)) := by rw [ha]; exact (putSel_off rfl).trans rfl
        replace ha := m0 ha; have BK144 := m0 Q_BK144; have BK145 := m0 Q_BK145; have BK147 := m0 Q_BK147; have HB := m0 Q_HB; refine value_ (w1 := w') (v := .pointer (some ⟨gb145, 3, none⟩)) (by rfl) rfl ?_ ?_
        ·go_simp
         (try simp only [i64_w])
         try rfl
        refine hK.out _ _ ⟨(by rw [ha.out]; exact putSel_upk 24 hb_ rfl rfl rfl), Q_BK144, Q_BK145, Q_BK147, Q_HB⟩
       refine steps_cons ?_ ?_
       ·rintro b a w' ⟨ha, Q_BK144, Q_BK145, Q_BK147, Q_HB⟩ hb_ hon hoff; refine ⟨_, rfl, fun K hK => ?_⟩; have e52 : a.tmps[52]? = some (.pointer (some ⟨gb145, 3, none⟩)) := by rw [ha]; exact putSel_on (e := (24, 52, .pointer (some ⟨gb145, 3, none⟩))) 24 rfl rfl (hon 24 (by kernel_rfl)) rfl
        have e35 : a.tmps[35]? = some (.int .i64 (wrap64 (x146003_1 + (wrap64 (((rd_T85 l0 x8_1).f0) * ((rd_T85 l0 x8_1).f0)))))) := by rw [ha]; exact putSel_on (e := (7, 35, .int .i64 (wrap64 (x146003_1 + (wrap64 (((rd_T85 l0 x8_1).f0) * ((rd_T85 l0 x8_1).f0))))))) 7 rfl rfl (hon 7 (by kernel_rfl)) rfl
        replace ha := m0 ha; have BK144 := m0 Q_BK144; have BK145 := m0 Q_BK145; have BK147 := m0 Q_BK147; have HB := m0 Q_HB; have hz_ : w'.cell? ⟨gb145, 3, none⟩ = some ((if b 25 = true then (.int .i64 (wrap64 (x146003_1 + (wrap64 (((rd_T85 l0 x8_1).f0) * ((rd_T85 l0 x8_1).f0))))) : Value) else .int .i64 x146003_1)) := (blk_cell BK145.out 3).trans rfl; have hf_ := blk_frozen BK145.out 3; refine skip_ (w1 := ?_) (by rfl) rfl ?_ ?_; rotate_left
        ·go_simp
         rfl
        refine hK.out _ _ ⟨(by rw [ha.out]; exact putSel_none (v := undef) rfl), blk_far BK144.out NB144_145.out _, blk_put BK145.out 3 _ (by simp [up]), blk_far BK147.out NB147_145.out _, below_set HB.out GE145.out⟩
       refine steps_cons ?_ ?_
       ·rintro b a w' ⟨ha, Q_BK144, Q_BK145, Q_BK147, Q_HB⟩ hb_ hon hoff; refine ⟨_, rfl, fun K hK => ?_⟩; have e3 : a.tmps[3]? = some (.pointer (some ⟨gb145, 0, none⟩)) := by rw [ha]; exact (putSel_off rfl).trans rfl
        replace ha := m0 ha; have BK144 := m0 Q_BK144; have BK145 := m0 Q_BK145; have BK147 := m0 Q_BK147; have HB := m0 Q_HB; refine value_ (w1 := w') (v := .pointer (some ⟨gb145, 4, none⟩)) (by rfl) rfl ?_ ?_
        ·go_simp
         (try simp only [i64_w])
         try rfl
        refine hK.out _ _ ⟨(by rw [ha.out]; exact putSel_upk 25 hb_ rfl rfl rfl), Q_BK144, Q_BK145, Q_BK147, Q_HB⟩
       refine steps_cons ?_ ?_
       ·rintro b a w' ⟨ha, Q_BK144, Q_BK145, Q_BK147, Q_HB⟩ hb_ hon hoff; refine ⟨_, rfl, fun K hK => ?_⟩; have e53 : a.tmps[53]? = some (.pointer (some ⟨gb145, 4, none⟩)) := by rw [ha]; exact putSel_on (e := (26, 53, .pointer (some ⟨gb145, 4, none⟩))) 25 rfl rfl (hon 26 (by kernel_rfl)) rfl
        have e43 : a.tmps[43]? = some (.int .i64 (wrap64 (x146004_1 + (wrap64 (((rd_T85 l0 x8_1).f0) * ((rd_T85 l0 x8_1).f1)))))) := by rw [ha]; exact putSel_on (e := (15, 43, .int .i64 (wrap64 (x146004_1 + (wrap64 (((rd_T85 l0 x8_1).f0) * ((rd_T85 l0 x8_1).f1))))))) 15 rfl rfl (hon 15 (by kernel_rfl)) rfl
        replace ha := m0 ha; have BK144 := m0 Q_BK144; have BK145 := m0 Q_BK145; have BK147 := m0 Q_BK147; have HB := m0 Q_HB; have hz_ : w'.cell? ⟨gb145, 4, none⟩ = some ((if b 27 = true then (.int .i64 (wrap64 (x146004_1 + (wrap64 (((rd_T85 l0 x8_1).f0) * ((rd_T85 l0 x8_1).f1))))) : Value) else .int .i64 x146004_1)) := (blk_cell BK145.out 4).trans rfl; have hf_ := blk_frozen BK145.out 4; refine skip_ (w1 := ?_) (by rfl) rfl ?_ ?_; rotate_left
        ·go_simp
         rfl
        refine hK.out _ _ ⟨(by rw [ha.out]; exact putSel_none (v := undef) rfl), blk_far BK144.out NB144_145.out _, blk_put BK145.out 4 _ (by simp [up]), blk_far BK147.out NB147_145.out _, below_set HB.out GE145.out⟩
       refine steps_cons ?_ ?_
       ·rintro b a w' ⟨ha, Q_BK144, Q_BK145, Q_BK147, Q_HB⟩ hb_ hon hoff; refine ⟨_, rfl, fun K hK => ?_⟩; have e3 : a.tmps[3]? = some (.pointer (some ⟨gb145, 0, none⟩)) := by rw [ha]; exact (putSel_off rfl).trans rfl
        replace ha := m0 ha; have BK144 := m0 Q_BK144; have BK145 := m0 Q_BK145; have BK147 := m0 Q_BK147; have HB := m0 Q_HB; refine value_ (w1 := w') (v := .pointer (some ⟨gb145, 5, none⟩)) (by rfl) rfl ?_ ?_
        ·go_simp
         (try simp only [i64_w])
         try rfl
        refine hK.out _ _ ⟨(by rw [ha.out]; exact putSel_upk 26 hb_ rfl rfl rfl), Q_BK144, Q_BK145, Q_BK147, Q_HB⟩
       refine steps_cons ?_ ?_
       ·rintro b a w' ⟨ha, Q_BK144, Q_BK145, Q_BK147, Q_HB⟩ hb_ hon hoff; refine ⟨_, rfl, fun K hK => ?_⟩; have e54 : a.tmps[54]? = some (.pointer (some ⟨gb145, 5, none⟩)) := by rw [ha]; exact putSel_on (e := (28, 54, .pointer (some ⟨gb145, 5, none⟩))) 26 rfl rfl (hon 28 (by kernel_rfl)) rfl
        have e51 : a.tmps[51]? = some (.int .i64 (wrap64 (x146005_1 + (wrap64 (((rd_T85 l0 x8_1).f1) * ((rd_T85 l0 x8_1).f1)))))) := by rw [ha]; exact putSel_on (e := (23, 51, .int .i64 (wrap64 (x146005_1 + (wrap64 (((rd_T85 l0 x8_1).f1) * ((rd_T85 l0 x8_1).f1))))))) 23 rfl rfl (hon 23 (by kernel_rfl)) rfl
        replace ha := m0 ha; have BK144 := m0 Q_BK144; have BK145 := m0 Q_BK145; have BK147 := m0 Q_BK147; have HB := m0 Q_HB; have hz_ : w'.cell? ⟨gb145, 5, none⟩ = some ((if b 29 = true then (.int .i64 (wrap64 (x146005_1 + (wrap64 (((rd_T85 l0 x8_1).f1) * ((rd_T85 l0 x8_1).f1))))) : Value) else .int .i64 x146005_1)) := (blk_cell BK145.out 5).trans rfl; have hf_ := blk_frozen BK145.out 5; refine skip_ (w1 := ?_) (by rfl) rfl ?_ ?_; rotate_left
        ·go_simp
         rfl
        refine hK.out _ _ ⟨(by rw [ha.out]; exact putSel_none (v := undef) rfl), blk_far BK144.out NB144_145.out _, blk_put BK145.out 5 _ (by simp [up]), blk_far BK147.out NB147_145.out _, below_set HB.out GE145.out⟩
       exact steps_nil
      rintro b a w22 hall ⟨ha, Q_BK144, Q_BK145, Q_BK147, Q_HB⟩; clear BK144 BK145 BK147 HB; have hb0_ := hall 0 (by kernel_rfl); have hb1_ := hall 1 (by kernel_rfl); have hb2_ := hall 2 (by kernel_rfl); have hb3_ := hall 3 (by kernel_rfl); have hb4_ := hall 4 (by kernel_rfl); have hb5_ := hall 5 (by kernel_rfl); have hb6_ := hall 6 (by kernel_rfl); have hb7_ := hall 7 (by kernel_rfl); have hb8_ := hall 8 (by kernel_rfl); have hb9_ := hall 9 (by kernel_rfl); have hb10_ := hall 10 (by kernel_rfl); have hb11_ := hall 11 (by kernel_rfl); have hb12_ := hall 12 (by kernel_rfl); have hb13_ := hall 13 (by kernel_rfl); have hb14_ := hall 14 (by kernel_rfl); have hb15_ := hall 15 (by kernel_rfl); have hb16_ := hall 16 (by kernel_rfl); have hb17_ := hall 17 (by kernel_rfl); have hb18_ := hall 18 (by kernel_rfl); have hb19_ := hall 19 (by kernel_rfl); have hb20_ := hall 20 (by kernel_rfl); have hb21_ := hall 21 (by kernel_rfl); have hb22_ := hall 22 (by kernel_rfl); have hb23_ := hall 23 (by kernel_rfl); have hb24_ := hall 24 (by kernel_rfl); have hb25_ := hall 25 (by kernel_rfl); have hb26_ := hall 26 (by kernel_rfl); have hb27_ := hall 27 (by kernel_rfl); have hb28_ := hall 28 (by kernel_rfl); have hb29_ := hall 29 (by kernel_rfl); subst ha; simp only [putSel, hb0_, hb1_, hb2_, hb3_, hb4_, hb5_, hb6_, hb7_, hb8_, hb9_, hb10_, hb11_, hb12_, hb13_, hb14_, hb15_, hb16_, hb17_, hb18_, hb19_, hb20_, hb21_, hb22_, hb23_, hb24_, hb25_, hb26_, hb27_, hb28_, hb29_, if_true, Act.put, List.setIfInBounds_toArray, List.set_cons_zero, List.set_cons_succ]; have BK144 := m0 Q_BK144; clear Q_BK144; have BK145 := m0 Q_BK145; clear Q_BK145; have BK147 := m0 Q_BK147; clear Q_BK147; have HB := m0 Q_HB; clear Q_HB; simp only [hb25_, hb27_, hb29_, ↓reduceIte] at BK145; clear hall hb0_ hb1_ hb2_ hb3_ hb4_ hb5_ hb6_ hb7_ hb8_ hb9_ hb10_ hb11_ hb12_ hb13_ hb14_ hb15_ hb16_ hb17_ hb18_ hb19_ hb20_ hb21_ hb22_ hb23_ hb24_ hb25_ hb26_ hb27_ hb28_ hb29_
      try go_wp2
      go_roundg k1
      case measure => have := HK1.out; omega
      case rel => exact ⟨(wrap64 (x8_1 + 1)), (wrap64 (x146000_1 + 1)), (wrap64 (x146001_1 + ((rd_T85 l0 x8_1).f0))), (wrap64 (x146002_1 + ((rd_T85 l0 x8_1).f1))), (wrap64 (x146003_1 + (wrap64 (((rd_T85 l0 x8_1).f0) * ((rd_T85 l0 x8_1).f0))))), (wrap64 (x146004_1 + (wrap64 (((rd_T85 l0 x8_1).f0) * ((rd_T85 l0 x8_1).f1))))), (wrap64 (x146005_1 + (wrap64 (((rd_T85 l0 x8_1).f1) * ((rd_T85 l0 x8_1).f1))))), rz, H', ⟨by have := HK1.out; omega⟩, ⟨bk BK144.out⟩, ⟨bk BK145.out⟩, ⟨bz⟩⟩
     ·rw [if_neg c6] at H; exact absurd H (by simp)
    ·rw [if_neg c5] at H; exact absurd H (by simp)
   ·rw [if_neg c4] at H; have c4b0 := decide_eq_false c4; clear c4; simp only [Option.some.injEq, Prod.mk.injEq] at H; obtain ⟨rfl, rfl, rfl, rfl, rfl, rfl⟩ := H; have hnb23 := NB145_144.out; have hnc23 := NB144_145.out; obtain ⟨_, _, _, _, _, _, _, _, _, _, _, _⟩ := b6 BK145; obtain ⟨_, _, _, _, _, _, _, _, _, _, _, _⟩ := b6 BK144
    go_wp2
    refine bodyPost_ret (results_cell_row rfl _ _ gb144 149 #[.int .i64 x146000_1, .int .i64 x146001_1, .int .i64 x146002_1, .int .i64 x146003_1, .int .i64 x146004_1, .int .i64 x146005_1] (0, 0) _ rfl (bq BK144.out) Try.underlying149 rfl (by kernel_rfl)) rfl ?_; exact ez
end
section
def L_open.f (k : Nat) (l0 : List (S85)) : Option (Int × Int × Int × Int × Int × Int × Int) := (L_readingsErr.f k l0).bind fun t149 => (if t149 = 0 then ((L_sumsOf.f k l0).bind fun bt150 => ((L_sums_spread.f bt150.1 bt150.2.1 bt150.2.2.1 bt150.2.2.2.1 bt150.2.2.2.2.1 bt150.2.2.2.2.2).bind fun t157 => ((L_unless.f (t157 != 0) 11).bind fun t158 => (some (bt150.1, bt150.2.1, bt150.2.2.1, bt150.2.2.2.1, bt150.2.2.2.2.1, bt150.2.2.2.2.2, t158))))) else (some (0, 0, 0, 0, 0, 0, t149)))
theorem L_open.mono : ∀ a0 k, LeO (L_open.f k a0) (L_open.f (k + 1) a0) := by
 intro a0 k; unfold L_open.f
 repeat' with_reducible first
  | exact L_readingsErr.mono ..
  | exact L_sumsOf.mono ..
  | exact LeO.refl ..
  | exact LeO.none ..
  | refine LeO.ite ?_ ?_
  | refine LeO.bind ?_ (fun _ => ?_)
theorem L_open.calls (k : Nat) (A0 : Option Addr) (c0 : Nat) (l0 : List (S85)) (r1 : Int) (r2 : Int) (r3 : Int) (r4 : Int) (r5 : Int) (r6 : Int) (r7 : Int) (w : World) (hr0 : Kd.C k85 w A0 l0.length l0) (hc0 : l0.length ≤ c0) (H : L_open.f k l0 = some (r1, r2, r3, r4, r5, r6, r7)) :
  Calls Try.prog 94 #[.slice A0 l0.length c0] w fun e w' => e = .returned (.tuple #[.agg #[.int .i64 r1, .int .i64 r2, .int .i64 r3, .int .i64 r4, .int .i64 r5, .int .i64 r6], .int .i64 r7]) ∧ Below w.heap.size w w' := by
 have hu149 := Try.underlying149; have HR0 := m0 hr0; have HC0 := m0 hc0; clear hr0 hc0; have HB := m0 (Below.refl w.heap.size w); unfold L_open.f at H; replace H := oa H; obtain ⟨t149, A2, H⟩ := H; (try dsimp only at H)
 by_cases c3 : t149 = 0
 ·rw [if_pos c3] at H; have c3b0 := beq_iff_eq.mpr c3; have c3b1 := bne_eq_false_iff_eq.mpr c3; clear c3; replace H := oa H; obtain ⟨⟨t150, t151, t152, t153, t154, t155⟩, A4, H⟩ := H; (try dsimp only at H); replace H := oa H; obtain ⟨t157, A5, H⟩ := H; (try dsimp only at H); replace H := oa H; obtain ⟨t158, A6, H⟩ := H; (try dsimp only at H); simp only [Option.some.injEq, Prod.mk.injEq] at H; obtain ⟨rfl, rfl, rfl, rfl, rfl, rfl, rfl⟩ := H; go_enter Try.func94, Try.ntmps94
  try go_wp2_with (first | ((with_reducible refine ga 2 rfl ?_); refine be 2 149 #[.int .i64 0, .int .i64 0, .int .i64 0, .int .i64 0, .int .i64 0, .int .i64 0] ?_; intro gb148 hg w7 hbox hb; have BK148 := m0 hbox; have GE148 := gw w hg; replace HB := sb HB hb; clear hb hbox hg) | ((with_reducible refine gc 112 rfl ?_); refine gl (some 7) Try.func112 #[.slice A0 l0.length c0] ?_; (with_reducible refine (L_readingsErr.calls k _ _ l0 t149 _ ?side1 ?side2 A2.out).mono ?_); (case side1 => exact cb HR0 HB); (case side2 => exact HC0.out); rintro e w8 ⟨rfl, hb⟩; refine ⟨_, rfl, ?_⟩; replace BK148 := bb BK148 hb; replace HB := sb HB hb; (try clear hb)) | ((with_reducible refine gc 134 rfl ?_); refine gl (some 13) Try.func134 #[.slice A0 l0.length c0] ?_; (with_reducible refine (L_sumsOf.calls k _ _ l0 t150 t151 t152 t153 t154 t155 _ ?side1 ?side2 A4.out).mono ?_); (case side1 => exact cb HR0 HB); (case side2 => exact HC0.out); rintro e w9 ⟨rfl, hb⟩; refine ⟨_, rfl, ?_⟩; replace BK148 := bb BK148 hb; replace HB := sb HB hb; (try clear hb)) | ((with_reducible refine ga 5 rfl ?_); refine be 5 149 #[.int .i64 0, .int .i64 0, .int .i64 0, .int .i64 0, .int .i64 0, .int .i64 0] ?_; intro gb156 hg w10 hbox hb; have BK156 := m0 hbox; have GE156 := gw w hg; replace HB := sb HB hb; have NB148_156 := nl BK148 hg; have NB156_148 := ng (nl BK148 hg); replace BK148 := bb BK148 hb; clear hb hbox hg; have hnb11 := NB156_148.out; have hnc11 := NB148_156.out; obtain ⟨_, _, _, _, _, _, _, _, _, _, _, _⟩ := b6 BK156))
  replace BK148 : Aside0 (((((((w10.setCell ⟨gb156, 0, none⟩ (.int .i64 t150)).setCell ⟨gb156, 1, none⟩ (.int .i64 t151)).setCell ⟨gb156, 2, none⟩ (.int .i64 t152)).setCell ⟨gb156, 3, none⟩ (.int .i64 t153)).setCell ⟨gb156, 4, none⟩ (.int .i64 t154)).setCell ⟨gb156, 5, none⟩ (.int .i64 t155)).heap[gb148]? = some (.cells #[.int .i64 0, .int .i64 0, .int .i64 0, .int .i64 0, .int .i64 0, .int .i64 0] 149 (0, 0))) := ⟨bq BK148.out⟩; replace BK156 : Aside0 (((((((w10.setCell ⟨gb156, 0, none⟩ (.int .i64 t150)).setCell ⟨gb156, 1, none⟩ (.int .i64 t151)).setCell ⟨gb156, 2, none⟩ (.int .i64 t152)).setCell ⟨gb156, 3, none⟩ (.int .i64 t153)).setCell ⟨gb156, 4, none⟩ (.int .i64 t154)).setCell ⟨gb156, 5, none⟩ (.int .i64 t155)).heap[gb156]? = some (.cells #[.int .i64 t150, .int .i64 t151, .int .i64 t152, .int .i64 t153, .int .i64 t154, .int .i64 t155] 149 (0, 0))) := ⟨bq BK156.out⟩; replace HB : Aside0 (Below w.heap.size w ((((((w10.setCell ⟨gb156, 0, none⟩ (.int .i64 t150)).setCell ⟨gb156, 1, none⟩ (.int .i64 t151)).setCell ⟨gb156, 2, none⟩ (.int .i64 t152)).setCell ⟨gb156, 3, none⟩ (.int .i64 t153)).setCell ⟨gb156, 4, none⟩ (.int .i64 t154)).setCell ⟨gb156, 5, none⟩ (.int .i64 t155))) := ⟨bz⟩; generalize ((((((w10.setCell ⟨gb156, 0, none⟩ (.int .i64 t150)).setCell ⟨gb156, 1, none⟩ (.int .i64 t151)).setCell ⟨gb156, 2, none⟩ (.int .i64 t152)).setCell ⟨gb156, 3, none⟩ (.int .i64 t153)).setCell ⟨gb156, 4, none⟩ (.int .i64 t154)).setCell ⟨gb156, 5, none⟩ (.int .i64 t155)) = w13 at BK148 BK156 HB ⊢; replace BK148 := bd BK148; replace BK156 := bd BK156; replace HB := sd HB; refine start_ (n := 7) (S := fun w' => w'.cell? ⟨gb156, 0, none⟩ = some (.int .i64 t150) ∧ w'.cell? ⟨gb156, 1, none⟩ = some (.int .i64 t151) ∧ w'.cell? ⟨gb156, 2, none⟩ = some (.int .i64 t152) ∧ w'.cell? ⟨gb156, 3, none⟩ = some (.int .i64 t153) ∧ w'.cell? ⟨gb156, 4, none⟩ = some (.int .i64 t154) ∧ w'.cell? ⟨gb156, 5, none⟩ = some (.int .i64 t155)) (ds := []) _ (by kernel_rfl) rfl rfl cz (fun hH => ?_); generalize w13.drew = w14 at BK148 BK156 HB hH ⊢; refine takeZ 0 (some 14) #[true, false, false, false, false, false, false] (by kernel_rfl) hH ?_; refine takeZ 1 (some 15) #[true, true, false, false, false, false, false] (by kernel_rfl) hH ?_; refine oneZ 2 (some 16) #[true, true, true, false, false, false, false] (by kernel_rfl) fun K hK => ?_; refine gz Try.func96 #[.agg #[.int .i64 t150, .int .i64 t151, .int .i64 t152, .int .i64 t153, .int .i64 t154, .int .i64 t155]] ?_
  with_reducible refine (L_sums_spread.calls t150 t151 t152 t153 t154 t155 t157 _ A5.out).mono ?_
  rintro e w15 ⟨rfl, hb⟩; refine ⟨_, rfl, ?_⟩; replace BK148 := bb BK148 hb; replace BK156 := bb BK156 hb; replace HB := sb HB hb; (try clear hb); refine hK.out _ _ cz (fun hH => ?_); clear hK K; refine nz 16 ?_; refine pure_ (i := 3) (N := some 17) (v := ?_) (a' := ?_) #[true, true, true, true, false, false, false] rfl rfl (by kernel_rfl) (fun _ _ _ h => h) (Or.inl ⟨by rfl, ?_⟩) ?_ ?_; rotate_left
  ·intro w'
   go_simp
   with_reducible rfl
  rotate_left
  ·exact pz
  refine oneZ 4 (some 18) #[true, true, true, true, true, false, false] (by kernel_rfl) fun K hK => ?_; refine gz Try.func76 #[.bool (t157 != 0), .int .i64 11] ?_
  with_reducible refine (L_unless.calls (t157 != 0) 11 t158 _ A6.out).mono ?_
  rintro e w' ⟨rfl, ⟨nd, rfl⟩⟩; refine ⟨_, rfl, ?_⟩; refine hK.out _ _ cz (fun hH => ?_); clear hK K; refine nz 18 ?_; refine oneZ 5 (none) #[true, true, true, true, true, true, false] (by kernel_rfl) fun K hK => ?_; obtain ⟨hs16, hfs16⟩ := q0 BK148; obtain ⟨hs17, hfs17⟩ := q1 BK148; obtain ⟨hs18, hfs18⟩ := q2 BK148; obtain ⟨hs19, hfs19⟩ := q3 BK148; obtain ⟨hs20, hfs20⟩ := q4 BK148; obtain ⟨hs21, hfs21⟩ := q5 BK148; refine skip_ (w1 := ?_) (by rfl) rfl ?_ ?_; rotate_left
  ·go_simp
   rfl
  refine hK.out _ _ (cf hH) (fun hH => ?_); clear hK K; refine pure_ (i := 6) (N := some 3) (v := ?_) (a' := ?_) #[true, true, true, true, true, true, true] rfl rfl (by kernel_rfl) (fun _ _ _ h => h) (Or.inl ⟨by rfl, ?_⟩) ?_ ?_; rotate_left
  ·intro w'
   go_simp
   with_reducible rfl
  rotate_left
  ·exact pz
  refine done_ (by kernel_rfl) ?_
  try go_wp2
  refine bodyPost_ret (results_ct rfl _ _ gb148 149 #[.int .i64 t150, .int .i64 t151, .int .i64 t152, .int .i64 t153, .int .i64 t154, .int .i64 t155] (0, 0) _ rfl (bq BK148.out) Try.underlying149 rfl (by kernel_rfl)) rfl ?_; exact ez
 ·rw [if_neg c3] at H; have c3b0 := beq_eq_false_iff_ne.mpr c3; have c3b1 := bne_iff_ne.mpr c3; simp only [Option.some.injEq, Prod.mk.injEq] at H; obtain ⟨rfl, rfl, rfl, rfl, rfl, rfl, rfl⟩ := H; go_enter Try.func94, Try.ntmps94
  go_wp2_with (first | ((with_reducible refine ga 2 rfl ?_); refine be 2 149 #[.int .i64 0, .int .i64 0, .int .i64 0, .int .i64 0, .int .i64 0, .int .i64 0] ?_; intro gb148 hg w22 hbox hb; have BK148 := m0 hbox; have GE148 := gw w hg; replace HB := sb HB hb; clear hb hbox hg) | ((with_reducible refine gc 112 rfl ?_); refine gl (some 7) Try.func112 #[.slice A0 l0.length c0] ?_; (with_reducible refine (L_readingsErr.calls k _ _ l0 t149 _ ?side1 ?side2 A2.out).mono ?_); (case side1 => exact cb HR0 HB); (case side2 => exact HC0.out); rintro e w23 ⟨rfl, hb⟩; refine ⟨_, rfl, ?_⟩; replace BK148 := bb BK148 hb; replace HB := sb HB hb; (try clear hb); obtain ⟨_, _, _, _, _, _, _, _, _, _, _, _⟩ := b6 BK148))
  refine bodyPost_ret (results_ct rfl _ _ gb148 149 #[.int .i64 0, .int .i64 0, .int .i64 0, .int .i64 0, .int .i64 0, .int .i64 0] (0, 0) _ rfl (bq BK148.out) Try.underlying149 rfl (by kernel_rfl)) rfl ?_; exact ez
end
section
def L_sums_shared.f (a0_0 : Int) (a0_1 : Int) (a0_2 : Int) (a0_3 : Int) (a0_4 : Int) (a0_5 : Int) : Option (Int) := some (wrap64 ((wrap64 (a0_0 * a0_4)) - (wrap64 (a0_1 * a0_2))))
theorem L_sums_shared.calls (a0_0 : Int) (a0_1 : Int) (a0_2 : Int) (a0_3 : Int) (a0_4 : Int) (a0_5 : Int) (r : Int) (w : World) (H : L_sums_shared.f a0_0 a0_1 a0_2 a0_3 a0_4 a0_5 = some r) :
  Calls Try.prog 95 #[.agg #[.int .i64 a0_0, .int .i64 a0_1, .int .i64 a0_2, .int .i64 a0_3, .int .i64 a0_4, .int .i64 a0_5]] w fun e w' => e = .returned (.int .i64 r) ∧ Below w.heap.size w w' := by
 have hu149 := Try.underlying149; have HB := m0 (Below.refl w.heap.size w); unfold L_sums_shared.f at H; obtain rfl := Option.some.inj H; go_enter Try.func95, Try.ntmps95
 go_wp2_with (first | ((with_reducible refine ga 1 rfl ?_); refine be 1 149 #[.int .i64 a0_0, .int .i64 a0_1, .int .i64 a0_2, .int .i64 a0_3, .int .i64 a0_4, .int .i64 a0_5] ?_; intro gb159 hg w2 hbox hb; have BK159 := m0 hbox; have GE159 := gw w hg; replace HB := sb HB hb; clear hb hbox hg; obtain ⟨_, _, _, _, _, _, _, _, _, _, _, _⟩ := b6 BK159))
 go_ret
 exact ez
end
end Go.Proofs.Ytibhfahbabgbaaa.A
