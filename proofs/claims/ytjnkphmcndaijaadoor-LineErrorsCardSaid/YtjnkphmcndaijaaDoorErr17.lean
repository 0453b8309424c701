/- Walks of the program's functions (printed, made shorter), each with what it computes. -/
import Derived.Test.YtjnkphmcndaijaaDoorErr04
import Derived.Test.YtjnkphmcndaijaaDoorErr14
import Derived.Test.YtjnkphmcndaijaaDoorErr16
import Derived.Test.YtjnkphmcndaijaaDoorErr03
import Derived.Test.YtjnkphmcndaijaaDoorErr10
import Derived.Test.YtjnkphmcndaijaaDoorErr15
namespace Go.Proofs.YtjnkphmcndaijaaDoor.A
open Go.RowKit Go.Proofs.YtjnkphmcndaijaaDoorW.PrintWords Go.Proofs.YtjnkphmcndaijaaDoorW.PrintLast Go.Proofs.YtjnkphmcndaijaaDoorW.PrintMore
attribute [local go_sem] max2_int min2_int max_two min_two max_three min_three max_four min_four
set_option linter.unusedVariables false
set_option linter.unusedSimpArgs false
section
def glidepathref02_Worst.l0 : Nat → Int → Int → List Int → List Int → Int → Int → Int → Int → Int → Option (Int × Int × Int)
 | 0, _, _, _, _, _, _, _, _, _ => none
 | k + 1, x1, x6, x526000, x526001, x526002, x526003, x530000, x530001, x530002 => (glidepathref02_Cases.f k x526001 (x526000.length : Int)).bind fun t530 => (if x6 < t530 then ((glidepathref02_Off.f k x526000 x526001 x526002 x526003 x1 x6).bind fun bt531 => ((glidepathbase_Cmp.f bt531.1 bt531.2 x530000 x530001).bind fun t534 => (if t534 > 0 then (glidepathref02_Worst.l0 k x1 (wrap64 (x6 + 1)) x526000 x526001 x526002 x526003 bt531.1 bt531.2 x6) else (glidepathref02_Worst.l0 k x1 (wrap64 (x6 + 1)) x526000 x526001 x526002 x526003 x530000 x530001 x530002)))) else (some (x530000, x530001, x530002)))
def glidepathref02_Worst.f (k : Nat) (l0_0 : List Int) (l0_1 : List Int) (a0_2 : Int) (a0_3 : Int) (a1 : Int) : Option (Int × Int × Int) := (glidepathref02_Off.f k l0_0 l0_1 a0_2 a0_3 a1 0).bind fun bt527 => (glidepathref02_Worst.l0 k a1 0 l0_0 l0_1 a0_2 a0_3 bt527.1 bt527.2 0)
theorem glidepathref02_Worst.mono_l : ∀ k, (∀ y0 y1 y2 y3 y4 y5 y6 y7 y8, LeO (glidepathref02_Worst.l0 k y0 y1 y2 y3 y4 y5 y6 y7 y8) (glidepathref02_Worst.l0 (k + 1) y0 y1 y2 y3 y4 y5 y6 y7 y8))
 | 0 => fun _ _ _ _ _ _ _ _ _ r h => by simp [glidepathref02_Worst.l0] at h
 | k + 1 => by
  have ih0 := glidepathref02_Worst.mono_l k
  ·intro y0 y1 y2 y3 y4 y5 y6 y7 y8
   unfold glidepathref02_Worst.l0
   repeat' first
   | (with_reducible exact ih0 _ _ _ _ _ _ _ _ _)
   | (with_reducible exact glidepathref02_Cases.mono _ _ _)
   | (with_reducible exact glidepathref02_Off.mono _ _ _ _ _ _ _)
   | (with_reducible exact LeO.refl _)
   | (with_reducible exact LeO.none _)
   | (with_reducible refine LeO.ite ?_ ?_)
   | (with_reducible refine LeO.bind ?_ (fun _ => ?_))
   | exact ih0 _ _ _ _ _ _ _ _ _
   | exact glidepathref02_Cases.mono _ _ _
   | exact glidepathref02_Off.mono _ _ _ _ _ _ _
   | exact LeO.none _
   | refine LeO.ite ?_ ?_
   | refine LeO.bind ?_ (fun _ => ?_)
theorem glidepathref02_Worst.mono : ∀ a0 a1 a2 a3 a4 k, LeO (glidepathref02_Worst.f k a0 a1 a2 a3 a4) (glidepathref02_Worst.f (k + 1) a0 a1 a2 a3 a4) := by
 intro a0 a1 a2 a3 a4 k
 have ih0 := glidepathref02_Worst.mono_l k
 unfold glidepathref02_Worst.f
 repeat' first
   | (with_reducible exact ih0 _ _ _ _ _ _ _ _ _)
   | (with_reducible exact glidepathref02_Cases.mono _ _ _)
   | (with_reducible exact glidepathref02_Off.mono _ _ _ _ _ _ _)
   | (with_reducible exact LeO.refl _)
   | (with_reducible exact LeO.none _)
   | (with_reducible refine LeO.ite ?_ ?_)
   | (with_reducible refine LeO.bind ?_ (fun _ => ?_))
   | exact ih0 _ _ _ _ _ _ _ _ _
   | exact glidepathref02_Cases.mono _ _ _
   | exact glidepathref02_Off.mono _ _ _ _ _ _ _
   | exact LeO.none _
   | refine LeO.ite ?_ ?_
   | refine LeO.bind ?_ (fun _ => ?_)
set_option maxHeartbeats 8000000 in
set_option maxRecDepth 100000 in
theorem glidepathref02_Worst.calls (k : Nat) (A0_0 : Option Addr) (c0_0 : Nat) (l0_0 : List Int) (A0_1 : Option Addr) (c0_1 : Nat) (l0_1 : List Int) (a0_2 : Int) (a0_3 : Int) (a1 : Int) (r1 : Int) (r2 : Int) (r3 : Int) (w : World) (hr0_0 : Kd.C (Kd.int .i64) w A0_0 l0_0.length l0_0) (hc0_0 : l0_0.length ≤ c0_0) (hr0_1 : Kd.C (Kd.int .i64) w A0_1 l0_1.length l0_1) (hc0_1 : l0_1.length ≤ c0_1) (h : glidepathref02_Worst.f k l0_0 l0_1 a0_2 a0_3 a1 = some (r1, r2, r3)) :
  Calls Tryd.prog 25 #[.agg #[.slice A0_0 l0_0.length c0_0, .slice A0_1 l0_1.length c0_1, .int .i64 a0_2, .int .i64 a0_3], .int .i64 a1] w fun e w' => e = .returned (.agg #[.int .i64 r1, .int .i64 r2, .int .i64 r3]) ∧ Below w.heap.size w w' := by
 have hu28 := Tryd.underlying28
 have hu36 := Tryd.underlying36
 have hu24 := Tryd.underlying24
 have hu26 := Tryd.underlying26
 have HR0_0 := Aside0.mk hr0_0
 have HC0_0 := Aside0.mk hc0_0
 clear hr0_0 hc0_0
 have HR0_1 := Aside0.mk hr0_1
 have HC0_1 := Aside0.mk hc0_1
 clear hr0_1 hc0_1
 have HB := Aside0.mk (Below.refl w.heap.size w)
 have H : ((glidepathref02_Off.f k l0_0 l0_1 a0_2 a0_3 a1 0).bind fun bt527 => (glidepathref02_Worst.l0 k a1 0 l0_0 l0_1 a0_2 a0_3 bt527.1 bt527.2 0)) = some (r1, r2, r3) := h
 clear h
 replace H := Option.bind_eq_some_iff.mp H
 obtain ⟨⟨t527, t528⟩, A30, H⟩ := H
 (try dsimp only at H)
 have A3 := Aside0.mk A30
 clear A30
 have H' := Aside0.mk H
 clear H
 go_enter Tryd.func25, Tryd.ntmps25
 go_wp2_with (first | ((with_reducible refine gate_dst (N := 2) rfl ?_); refine be 2 28 #[.slice A0_0 l0_0.length c0_0, .slice A0_1 l0_1.length c0_1, .int .i64 a0_2, .int .i64 a0_3] ?_; intro gb525 hg w4 hbox hb; have BK525 := Aside0.mk hbox; have GW525 := Aside0.mk (bg (n := w.heap.size) hg); have GE525 := Aside0.mk (bg (n := w.heap.size) hg); replace HB := sb HB hb; clear hb hbox hg) | ((with_reducible refine gate_dst (N := 4) rfl ?_); refine be 4 36 #[.int .i64 0, .int .i64 0, .int .i64 0] ?_; intro gb526 hg w5 hbox hb; have BK526 := Aside0.mk hbox; have GW526 := Aside0.mk (bg (n := w.heap.size) hg); have GE526 := Aside0.mk (bg (n := w.heap.size) hg); replace HB := sb HB hb; have NB525_526 := nl BK525 hg; have NB526_525 := ng (nl BK525 hg); replace BK525 := bb BK525 hb; clear hb hbox hg; have hnb6 := NB525_526.out; have hnc6 := NB526_525.out; obtain ⟨hcz7_0, hcz7_1, hcz7_2, hcz7_3, hfz7_0, hfz7_1, hfz7_2, hfz7_3⟩ := b4 BK525) | ((with_reducible refine gate_callee (f := 99) rfl ?_); refine gl (some 10) Tryd.func99 #[.agg #[.slice A0_0 l0_0.length c0_0, .slice A0_1 l0_1.length c0_1, .int .i64 a0_2, .int .i64 a0_3], .int .i64 a1, .int .i64 0] ?_; (with_reducible refine (glidepathref02_Off.calls k _ _ l0_0 _ _ l0_1 a0_2 a0_3 a1 0 t527 t528 _ ?side1 ?side2 ?side3 ?side4 A3.out).mono ?_); (case side1 => exact bc (Kd.C_below HR0_0.out HB.out)); (case side2 => exact HC0_0.out); (case side3 => exact bc (Kd.C_below HR0_1.out HB.out)); (case side4 => exact HC0_1.out); rintro e w8 ⟨rfl, hb⟩; refine ⟨_, rfl, ?_⟩; replace BK525 := bb BK525 hb; replace BK526 := bb BK526 hb; replace HB := sb HB hb; (try clear hb)) | ((with_reducible refine gate_dst (N := 5) rfl ?_); refine be 5 36 #[.int .i64 0, .int .i64 0, .int .i64 0] ?_; intro gb529 hg w9 hbox hb; have BK529 := Aside0.mk hbox; have GW529 := Aside0.mk (bg (n := w.heap.size) hg); have GE529 := Aside0.mk (bg (n := w.heap.size) hg); replace HB := sb HB hb; have NB525_529 := nl BK525 hg; have NB529_525 := ng (nl BK525 hg); replace BK525 := bb BK525 hb; have NB526_529 := nl BK526 hg; have NB529_526 := ng (nl BK526 hg); replace BK526 := bb BK526 hb; clear hb hbox hg; have hnb10 := NB529_525.out; have hnc10 := NB525_529.out; have hnb11 := NB529_526.out; have hnc11 := NB526_529.out; obtain ⟨hcz12_0, hcz12_1, hcz12_2, hfz12_0, hfz12_1, hfz12_2⟩ := b3 BK529))
 go_loopg [6] k (fun kq v6 w' => ∃ (x6_1 : Int) (x530000_1 : Int) (x530001_1 : Int) (x530002_1 : Int), v6 = .int .i64 x6_1 ∧ Aside0 (glidepathref02_Worst.l0 kq a1 x6_1 l0_0 l0_1 a0_2 a0_3 x530000_1 x530001_1 x530002_1 = some (r1, r2, r3)) ∧ Aside0 (kq ≤ k) ∧ Aside0 (w'.heap[gb525]? = some (.cells #[(.slice A0_0 l0_0.length c0_0), (.slice A0_1 l0_1.length c0_1), .int .i64 a0_2, .int .i64 a0_3] 28 (0, 0))) ∧ Aside0 (w'.heap[gb526]? = some (.cells #[.int .i64 0, .int .i64 0, .int .i64 0] 36 (0, 0))) ∧ Aside0 (w'.heap[gb529]? = some (.cells #[.int .i64 x530000_1, .int .i64 x530001_1, .int .i64 x530002_1] 36 (0, 0))) ∧ Aside0 (Below w.heap.size w w'))
 case atStart => exact ⟨(0), (t527), (t528), (0), (by first | rfl | (simp; done) | (simp [*]; done)), H', ⟨Nat.le_refl _⟩, ⟨by (with_reducible repeat (first | refine blk_drewN ?_ _ | refine blk_drew ?_ | refine blk_alloc ?_ _)); refine blk_far ?_ NB525_529.out _; (with_reducible repeat (first | refine blk_drewN ?_ _ | refine blk_drew ?_ | refine blk_alloc ?_ _)); refine blk_far ?_ NB525_529.out _; (with_reducible repeat (first | refine blk_drewN ?_ _ | refine blk_drew ?_ | refine blk_alloc ?_ _)); refine blk_far ?_ NB525_529.out _; (with_reducible repeat (first | refine blk_drewN ?_ _ | refine blk_drew ?_ | refine blk_alloc ?_ _)); exact BK525.out⟩, ⟨by (with_reducible repeat (first | refine blk_drewN ?_ _ | refine blk_drew ?_ | refine blk_alloc ?_ _)); refine blk_far ?_ NB526_529.out _; (with_reducible repeat (first | refine blk_drewN ?_ _ | refine blk_drew ?_ | refine blk_alloc ?_ _)); refine blk_far ?_ NB526_529.out _; (with_reducible repeat (first | refine blk_drewN ?_ _ | refine blk_drew ?_ | refine blk_alloc ?_ _)); refine blk_far ?_ NB526_529.out _; (with_reducible repeat (first | refine blk_drewN ?_ _ | refine blk_drew ?_ | refine blk_alloc ?_ _)); exact BK526.out⟩, ⟨by (with_reducible repeat (first | refine blk_drewN ?_ _ | refine blk_drew ?_ | refine blk_alloc ?_ _)); refine blk_put (cs := #[.int .i64 t527, .int .i64 t528, .int .i64 0]) ?_ 2 _ rfl; (with_reducible repeat (first | refine blk_drewN ?_ _ | refine blk_drew ?_ | refine blk_alloc ?_ _)); refine blk_put (cs := #[.int .i64 t527, .int .i64 0, .int .i64 0]) ?_ 1 _ rfl; (with_reducible repeat (first | refine blk_drewN ?_ _ | refine blk_drew ?_ | refine blk_alloc ?_ _)); refine blk_put (cs := #[.int .i64 0, .int .i64 0, .int .i64 0]) ?_ 0 _ rfl; (with_reducible repeat (first | refine blk_drewN ?_ _ | refine blk_drew ?_ | refine blk_alloc ?_ _)); exact BK529.out⟩, ⟨by repeat (first | (with_reducible first | exact HB.out | apply below_alloc | apply pw_below_drewN | apply below_drew1 | refine below_set ?_ GE525.out | refine below_set ?_ GE526.out | refine below_set ?_ GE529.out) | exact HB.out)⟩⟩
 case round =>
  clear H'
  try clear c1
  try clear c2
  try clear p2
  try clear c6
  try clear c9
  try clear c10
  try clear c11
  try clear hcz12_0
  try clear hcz12_1
  try clear hcz12_2
  try clear hcz7_0
  try clear hcz7_1
  try clear hcz7_2
  try clear hcz7_3
  try clear hfz12_0
  try clear hfz12_1
  try clear hfz12_2
  try clear hfz7_0
  try clear hfz7_1
  try clear hfz7_2
  try clear hfz7_3
  obtain ⟨x6_1, x530000_1, x530001_1, x530002_1, rfl, HA, HK1, BK525, BK526, BK529, HB⟩ := hrel
  cases gk with
  | zero => exact absurd HA.out (by simp [glidepathref02_Worst.l0])
  | succ k1 =>
   have H := HA.out
   clear HA
   simp only [glidepathref02_Worst.l0] at H
   replace H := Option.bind_eq_some_iff.mp H
   obtain ⟨t530, A130, H⟩ := H
   (try dsimp only at H)
   have A13 := Aside0.mk A130
   clear A130
   by_cases c14 : x6_1 < t530
   ·rw [if_pos c14] at H
    have c14b0 := decide_eq_true c14
    clear c14
    replace H := Option.bind_eq_some_iff.mp H
    obtain ⟨⟨t531, t532⟩, A150, H⟩ := H
    (try dsimp only at H)
    have A15 := Aside0.mk A150
    clear A150
    replace H := Option.bind_eq_some_iff.mp H
    obtain ⟨t534, A160, H⟩ := H
    (try dsimp only at H)
    have A16 := Aside0.mk A160
    clear A160
    by_cases c17 : t534 > 0
    ·rw [if_pos c17] at H
     have c17b0 := decide_eq_true c17
     clear c17
     have H' := Aside0.mk H
     clear H
     have hnb18 := NB525_526.out
     have hnc18 := NB526_525.out
     have hnb19 := NB525_529.out
     have hnc19 := NB529_525.out
     obtain ⟨_, _, _, _, _, _, _, _⟩ := b4 BK525
     go_wp2_with (first | ((with_reducible refine gate_callee (f := 56) rfl ?_); refine gl (some 18) Tryd.func56 #[.agg #[.slice A0_1 l0_1.length c0_1], .int .i64 (l0_0.length : Int)] ?_; (with_reducible refine (glidepathref02_Cases.calls k1 _ _ l0_1 (l0_0.length : Int) t530 _ ?side1 ?side2 A13.out).mono ?_); (case side1 => exact bc (Kd.C_below HR0_1.out HB.out)); (case side2 => exact HC0_1.out); rintro e w21 ⟨rfl, hb⟩; refine ⟨_, rfl, ?_⟩; replace BK525 := bb BK525 hb; replace BK526 := bb BK526 hb; replace BK529 := bb BK529 hb; replace HB := sb HB hb; (try clear hb); obtain ⟨_, _, _, _, _, _, _, _⟩ := b4 BK525) | ((with_reducible refine gate_callee (f := 99) rfl ?_); refine gl (some 25) Tryd.func99 #[.agg #[.slice A0_0 l0_0.length c0_0, .slice A0_1 l0_1.length c0_1, .int .i64 a0_2, .int .i64 a0_3], .int .i64 a1, .int .i64 x6_1] ?_; (with_reducible refine (glidepathref02_Off.calls k1 _ _ l0_0 _ _ l0_1 a0_2 a0_3 a1 x6_1 t531 t532 _ ?side1 ?side2 ?side3 ?side4 A15.out).mono ?_); (case side1 => exact bc (Kd.C_below HR0_0.out HB.out)); (case side2 => exact HC0_0.out); (case side3 => exact bc (Kd.C_below HR0_1.out HB.out)); (case side4 => exact HC0_1.out); rintro e w23 ⟨rfl, hb⟩; refine ⟨_, rfl, ?_⟩; replace BK525 := bb BK525 hb; replace BK526 := bb BK526 hb; replace BK529 := bb BK529 hb; replace HB := sb HB hb; (try clear hb)) | ((with_reducible refine gate_dst (N := 7) rfl ?_); refine be 7 26 #[.int .i64 0, .int .i64 0] ?_; intro gb533 hg w24 hbox hb; have BK533 := Aside0.mk hbox; have GW533 := Aside0.mk (bg (n := w.heap.size) hg); have GE533 := Aside0.mk (bg (n := w.heap.size) hg); replace HB := sb HB hb; have NB525_533 := nl BK525 hg; have NB533_525 := ng (nl BK525 hg); replace BK525 := bb BK525 hb; have NB526_533 := nl BK526 hg; have NB533_526 := ng (nl BK526 hg); replace BK526 := bb BK526 hb; have NB529_533 := nl BK529 hg; have NB533_529 := ng (nl BK529 hg); replace BK529 := bb BK529 hb; clear hb hbox hg; have hnb25 := NB533_525.out; have hnc25 := NB525_533.out; have hnb26 := NB533_526.out; have hnc26 := NB526_533.out; have hnb27 := NB533_529.out; have hnc27 := NB529_533.out; obtain ⟨_, _, _, _⟩ := b2 BK533; have hnb29 := NB529_526.out; have hnc29 := NB526_529.out; obtain ⟨_, _, _, _, _, _⟩ := b3 BK529) | ((with_reducible refine gate_callee (f := 37) rfl ?_); refine gl (some 29) Tryd.func37 #[.agg #[.int .i64 t531, .int .i64 t532], .agg #[.int .i64 x530000_1, .int .i64 x530001_1]] ?_; (with_reducible refine (glidepathbase_Cmp.calls t531 t532 x530000_1 x530001_1 t534 _ A16.out).mono ?_); rintro e w31 ⟨rfl, hb⟩; refine ⟨_, rfl, ?_⟩; replace BK525 := Aside0.mk (blk_below (g := gb525) (o := .cells #[.slice A0_0 l0_0.length c0_0, .slice A0_1 l0_1.length c0_1, .int .i64 a0_2, .int .i64 a0_3] 28 (0, 0)) (by (with_reducible repeat (first | refine blk_drewN ?_ _ | refine blk_drew ?_ | refine blk_alloc ?_ _)); refine blk_far ?_ NB525_533.out _; (with_reducible repeat (first | refine blk_drewN ?_ _ | refine blk_drew ?_ | refine blk_alloc ?_ _)); refine blk_far ?_ NB525_533.out _; (with_reducible repeat (first | refine blk_drewN ?_ _ | refine blk_drew ?_ | refine blk_alloc ?_ _)); exact BK525.out) hb); replace BK526 := Aside0.mk (blk_below (g := gb526) (o := .cells #[.int .i64 0, .int .i64 0, .int .i64 0] 36 (0, 0)) (by (with_reducible repeat (first | refine blk_drewN ?_ _ | refine blk_drew ?_ | refine blk_alloc ?_ _)); refine blk_far ?_ NB526_533.out _; (with_reducible repeat (first | refine blk_drewN ?_ _ | refine blk_drew ?_ | refine blk_alloc ?_ _)); refine blk_far ?_ NB526_533.out _; (with_reducible repeat (first | refine blk_drewN ?_ _ | refine blk_drew ?_ | refine blk_alloc ?_ _)); exact BK526.out) hb); replace BK529 := Aside0.mk (blk_below (g := gb529) (o := .cells #[.int .i64 x530000_1, .int .i64 x530001_1, .int .i64 x530002_1] 36 (0, 0)) (by (with_reducible repeat (first | refine blk_drewN ?_ _ | refine blk_drew ?_ | refine blk_alloc ?_ _)); refine blk_far ?_ NB529_533.out _; (with_reducible repeat (first | refine blk_drewN ?_ _ | refine blk_drew ?_ | refine blk_alloc ?_ _)); refine blk_far ?_ NB529_533.out _; (with_reducible repeat (first | refine blk_drewN ?_ _ | refine blk_drew ?_ | refine blk_alloc ?_ _)); exact BK529.out) hb); replace BK533 := Aside0.mk (blk_below (g := gb533) (o := .cells #[.int .i64 t531, .int .i64 t532] 26 (0, 0)) (by (with_reducible repeat (first | refine blk_drewN ?_ _ | refine blk_drew ?_ | refine blk_alloc ?_ _)); refine blk_put (cs := #[.int .i64 t531, .int .i64 0]) ?_ 1 _ rfl; (with_reducible repeat (first | refine blk_drewN ?_ _ | refine blk_drew ?_ | refine blk_alloc ?_ _)); refine blk_put (cs := #[.int .i64 0, .int .i64 0]) ?_ 0 _ rfl; (with_reducible repeat (first | refine blk_drewN ?_ _ | refine blk_drew ?_ | refine blk_alloc ?_ _)); exact BK533.out) hb); replace HB := sb HB hb; (try clear hb); obtain ⟨_, _, _, _⟩ := b2 BK533; obtain ⟨_, _, _, _, _, _⟩ := b3 BK529))
     go_roundg k1
     case measure => have := HK1.out; omega
     case rel => exact ⟨(wrap64 (x6_1 + 1)), (t531), (t532), (x6_1), (by first | rfl | (simp; done) | (simp [*]; done)), H', ⟨by have := HK1.out; omega⟩, ⟨by (with_reducible repeat (first | refine blk_drewN ?_ _ | refine blk_drew ?_ | refine blk_alloc ?_ _)); refine blk_far ?_ NB525_529.out _; (with_reducible repeat (first | refine blk_drewN ?_ _ | refine blk_drew ?_ | refine blk_alloc ?_ _)); refine blk_far ?_ NB525_529.out _; (with_reducible repeat (first | refine blk_drewN ?_ _ | refine blk_drew ?_ | refine blk_alloc ?_ _)); refine blk_far ?_ NB525_529.out _; (with_reducible repeat (first | refine blk_drewN ?_ _ | refine blk_drew ?_ | refine blk_alloc ?_ _)); exact BK525.out⟩, ⟨by (with_reducible repeat (first | refine blk_drewN ?_ _ | refine blk_drew ?_ | refine blk_alloc ?_ _)); refine blk_far ?_ NB526_529.out _; (with_reducible repeat (first | refine blk_drewN ?_ _ | refine blk_drew ?_ | refine blk_alloc ?_ _)); refine blk_far ?_ NB526_529.out _; (with_reducible repeat (first | refine blk_drewN ?_ _ | refine blk_drew ?_ | refine blk_alloc ?_ _)); refine blk_far ?_ NB526_529.out _; (with_reducible repeat (first | refine blk_drewN ?_ _ | refine blk_drew ?_ | refine blk_alloc ?_ _)); exact BK526.out⟩, ⟨by (with_reducible repeat (first | refine blk_drewN ?_ _ | refine blk_drew ?_ | refine blk_alloc ?_ _)); refine blk_put (cs := #[.int .i64 t531, .int .i64 t532, .int .i64 x530002_1]) ?_ 2 _ rfl; (with_reducible repeat (first | refine blk_drewN ?_ _ | refine blk_drew ?_ | refine blk_alloc ?_ _)); refine blk_put (cs := #[.int .i64 t531, .int .i64 x530001_1, .int .i64 x530002_1]) ?_ 1 _ rfl; (with_reducible repeat (first | refine blk_drewN ?_ _ | refine blk_drew ?_ | refine blk_alloc ?_ _)); refine blk_put (cs := #[.int .i64 x530000_1, .int .i64 x530001_1, .int .i64 x530002_1]) ?_ 0 _ rfl; (with_reducible repeat (first | refine blk_drewN ?_ _ | refine blk_drew ?_ | refine blk_alloc ?_ _)); exact BK529.out⟩, ⟨by repeat (first | (with_reducible first | exact HB.out | apply below_alloc | apply pw_below_drewN | apply below_drew1 | refine below_set ?_ GE525.out | refine below_set ?_ GE526.out | refine below_set ?_ GE529.out | refine below_set ?_ GE533.out) | exact HB.out)⟩⟩
    ·rw [if_neg c17] at H
     have c17b0 := decide_eq_false c17
     clear c17
     have H' := Aside0.mk H
     clear H
     have hnb34 := NB525_526.out
     have hnc34 := NB526_525.out
     have hnb35 := NB525_529.out
     have hnc35 := NB529_525.out
     obtain ⟨_, _, _, _, _, _, _, _⟩ := b4 BK525
     go_wp2_with (first | ((with_reducible refine gate_callee (f := 56) rfl ?_); refine gl (some 18) Tryd.func56 #[.agg #[.slice A0_1 l0_1.length c0_1], .int .i64 (l0_0.length : Int)] ?_; (with_reducible refine (glidepathref02_Cases.calls k1 _ _ l0_1 (l0_0.length : Int) t530 _ ?side1 ?side2 A13.out).mono ?_); (case side1 => exact bc (Kd.C_below HR0_1.out HB.out)); (case side2 => exact HC0_1.out); rintro e w37 ⟨rfl, hb⟩; refine ⟨_, rfl, ?_⟩; replace BK525 := bb BK525 hb; replace BK526 := bb BK526 hb; replace BK529 := bb BK529 hb; replace HB := sb HB hb; (try clear hb); obtain ⟨_, _, _, _, _, _, _, _⟩ := b4 BK525) | ((with_reducible refine gate_callee (f := 99) rfl ?_); refine gl (some 25) Tryd.func99 #[.agg #[.slice A0_0 l0_0.length c0_0, .slice A0_1 l0_1.length c0_1, .int .i64 a0_2, .int .i64 a0_3], .int .i64 a1, .int .i64 x6_1] ?_; (with_reducible refine (glidepathref02_Off.calls k1 _ _ l0_0 _ _ l0_1 a0_2 a0_3 a1 x6_1 t531 t532 _ ?side1 ?side2 ?side3 ?side4 A15.out).mono ?_); (case side1 => exact bc (Kd.C_below HR0_0.out HB.out)); (case side2 => exact HC0_0.out); (case side3 => exact bc (Kd.C_below HR0_1.out HB.out)); (case side4 => exact HC0_1.out); rintro e w39 ⟨rfl, hb⟩; refine ⟨_, rfl, ?_⟩; replace BK525 := bb BK525 hb; replace BK526 := bb BK526 hb; replace BK529 := bb BK529 hb; replace HB := sb HB hb; (try clear hb)) | ((with_reducible refine gate_dst (N := 7) rfl ?_); refine be 7 26 #[.int .i64 0, .int .i64 0] ?_; intro gb533 hg w40 hbox hb; have BK533 := Aside0.mk hbox; have GW533 := Aside0.mk (bg (n := w.heap.size) hg); have GE533 := Aside0.mk (bg (n := w.heap.size) hg); replace HB := sb HB hb; have NB525_533 := nl BK525 hg; have NB533_525 := ng (nl BK525 hg); replace BK525 := bb BK525 hb; have NB526_533 := nl BK526 hg; have NB533_526 := ng (nl BK526 hg); replace BK526 := bb BK526 hb; have NB529_533 := nl BK529 hg; have NB533_529 := ng (nl BK529 hg); replace BK529 := bb BK529 hb; clear hb hbox hg; have hnb41 := NB533_525.out; have hnc41 := NB525_533.out; have hnb42 := NB533_526.out; have hnc42 := NB526_533.out; have hnb43 := NB533_529.out; have hnc43 := NB529_533.out; obtain ⟨_, _, _, _⟩ := b2 BK533; have hnb45 := NB529_526.out; have hnc45 := NB526_529.out; obtain ⟨_, _, _, _, _, _⟩ := b3 BK529) | ((with_reducible refine gate_callee (f := 37) rfl ?_); refine gl (some 29) Tryd.func37 #[.agg #[.int .i64 t531, .int .i64 t532], .agg #[.int .i64 x530000_1, .int .i64 x530001_1]] ?_; (with_reducible refine (glidepathbase_Cmp.calls t531 t532 x530000_1 x530001_1 t534 _ A16.out).mono ?_); rintro e w47 ⟨rfl, hb⟩; refine ⟨_, rfl, ?_⟩; replace BK525 := Aside0.mk (blk_below (g := gb525) (o := .cells #[.slice A0_0 l0_0.length c0_0, .slice A0_1 l0_1.length c0_1, .int .i64 a0_2, .int .i64 a0_3] 28 (0, 0)) (by (with_reducible repeat (first | refine blk_drewN ?_ _ | refine blk_drew ?_ | refine blk_alloc ?_ _)); refine blk_far ?_ NB525_533.out _; (with_reducible repeat (first | refine blk_drewN ?_ _ | refine blk_drew ?_ | refine blk_alloc ?_ _)); refine blk_far ?_ NB525_533.out _; (with_reducible repeat (first | refine blk_drewN ?_ _ | refine blk_drew ?_ | refine blk_alloc ?_ _)); exact BK525.out) hb); replace BK526 := Aside0.mk (blk_below (g := gb526) (o := .cells #[.int .i64 0, .int .i64 0, .int .i64 0] 36 (0, 0)) (by (with_reducible repeat (first | refine blk_drewN ?_ _ | refine blk_drew ?_ | refine blk_alloc ?_ _)); refine blk_far ?_ NB526_533.out _; (with_reducible repeat (first | refine blk_drewN ?_ _ | refine blk_drew ?_ | refine blk_alloc ?_ _)); refine blk_far ?_ NB526_533.out _; (with_reducible repeat (first | refine blk_drewN ?_ _ | refine blk_drew ?_ | refine blk_alloc ?_ _)); exact BK526.out) hb); replace BK529 := Aside0.mk (blk_below (g := gb529) (o := .cells #[.int .i64 x530000_1, .int .i64 x530001_1, .int .i64 x530002_1] 36 (0, 0)) (by (with_reducible repeat (first | refine blk_drewN ?_ _ | refine blk_drew ?_ | refine blk_alloc ?_ _)); refine blk_far ?_ NB529_533.out _; (with_reducible repeat (first | refine blk_drewN ?_ _ | refine blk_drew ?_ | refine blk_alloc ?_ _)); refine blk_far ?_ NB529_533.out _; (with_reducible repeat (first | refine blk_drewN ?_ _ | refine blk_drew ?_ | refine blk_alloc ?_ _)); exact BK529.out) hb); replace BK533 := Aside0.mk (blk_below (g := gb533) (o := .cells #[.int .i64 t531, .int .i64 t532] 26 (0, 0)) (by (with_reducible repeat (first | refine blk_drewN ?_ _ | refine blk_drew ?_ | refine blk_alloc ?_ _)); refine blk_put (cs := #[.int .i64 t531, .int .i64 0]) ?_ 1 _ rfl; (with_reducible repeat (first | refine blk_drewN ?_ _ | refine blk_drew ?_ | refine blk_alloc ?_ _)); refine blk_put (cs := #[.int .i64 0, .int .i64 0]) ?_ 0 _ rfl; (with_reducible repeat (first | refine blk_drewN ?_ _ | refine blk_drew ?_ | refine blk_alloc ?_ _)); exact BK533.out) hb); replace HB := sb HB hb; (try clear hb)))
     go_roundg k1
     case measure => have := HK1.out; omega
     case rel => exact ⟨(wrap64 (x6_1 + 1)), (x530000_1), (x530001_1), (x530002_1), (by first | rfl | (simp; done) | (simp [*]; done)), H', ⟨by have := HK1.out; omega⟩, ⟨by (with_reducible repeat (first | refine blk_drewN ?_ _ | refine blk_drew ?_ | refine blk_alloc ?_ _)); exact BK525.out⟩, ⟨by (with_reducible repeat (first | refine blk_drewN ?_ _ | refine blk_drew ?_ | refine blk_alloc ?_ _)); exact BK526.out⟩, ⟨by (with_reducible repeat (first | refine blk_drewN ?_ _ | refine blk_drew ?_ | refine blk_alloc ?_ _)); exact BK529.out⟩, ⟨by repeat (first | (with_reducible first | exact HB.out | apply below_alloc | apply pw_below_drewN | apply below_drew1 | refine below_set ?_ GE525.out | refine below_set ?_ GE526.out | refine below_set ?_ GE529.out | refine below_set ?_ GE533.out) | exact HB.out)⟩⟩
   ·rw [if_neg c14] at H
    have c14b0 := decide_eq_false c14
    clear c14
    simp only [Option.some.injEq, Prod.mk.injEq] at H
    obtain ⟨rfl, rfl, rfl⟩ := H
    have hnb48 := NB525_526.out
    have hnc48 := NB526_525.out
    have hnb49 := NB525_529.out
    have hnc49 := NB529_525.out
    obtain ⟨_, _, _, _, _, _, _, _⟩ := b4 BK525
    go_wp2_with (first | ((with_reducible refine gate_callee (f := 56) rfl ?_); refine gl (some 18) Tryd.func56 #[.agg #[.slice A0_1 l0_1.length c0_1], .int .i64 (l0_0.length : Int)] ?_; (with_reducible refine (glidepathref02_Cases.calls k1 _ _ l0_1 (l0_0.length : Int) t530 _ ?side1 ?side2 A13.out).mono ?_); (case side1 => exact bc (Kd.C_below HR0_1.out HB.out)); (case side2 => exact HC0_1.out); rintro e w51 ⟨rfl, hb⟩; refine ⟨_, rfl, ?_⟩; replace BK525 := bb BK525 hb; replace BK526 := bb BK526 hb; replace BK529 := bb BK529 hb; replace HB := sb HB hb; (try clear hb); have hnb52 := NB529_526.out; have hnc52 := NB526_529.out; obtain ⟨_, _, _, _, _, _⟩ := b3 BK529; obtain ⟨_, _, _, _, _, _⟩ := b3 BK526))
    refine bodyPost_ret (results_cell_row rfl _ _ gb526 36 #[.int .i64 x530000_1, .int .i64 x530001_1, .int .i64 x530002_1] (0, 0) _ rfl (by (with_reducible repeat (first | refine blk_drewN ?_ _ | refine blk_drew ?_ | refine blk_alloc ?_ _)); refine blk_put (cs := #[.int .i64 x530000_1, .int .i64 x530001_1, .int .i64 0]) ?_ 2 _ rfl; (with_reducible repeat (first | refine blk_drewN ?_ _ | refine blk_drew ?_ | refine blk_alloc ?_ _)); refine blk_put (cs := #[.int .i64 x530000_1, .int .i64 0, .int .i64 0]) ?_ 1 _ rfl; (with_reducible repeat (first | refine blk_drewN ?_ _ | refine blk_drew ?_ | refine blk_alloc ?_ _)); refine blk_put (cs := #[.int .i64 0, .int .i64 0, .int .i64 0]) ?_ 0 _ rfl; (with_reducible repeat (first | refine blk_drewN ?_ _ | refine blk_drew ?_ | refine blk_alloc ?_ _)); exact BK526.out) Tryd.underlying36 rfl (by kernel_rfl)) rfl ?_
    exact ez
end
section
def glidepathref02_Bias.l0 : Nat → Int → Int → Int → Int → List Int → List Int → Int → Int → Option (Int × Int)
 | 0, _, _, _, _, _, _, _, _ => none
 | k + 1, x1, x5, x6, x7, x536000, x536001, x536002, x536003 => if x7 < x5 then ((glidepathref02_Noisy.f k x536000 x536001 x7).bind fun t538 => ((glidepathref02_Estimate.f k t538 x1).bind fun bt541 => (glidepathref02_Bias.l0 k x1 x5 (wrap64 (x6 + bt541.1)) (wrap64 (x7 + 1)) x536000 x536001 x536002 x536003))) else ((glidepathbase_Lowest.f k (wrap64 ((wrap64 (x6 * x536003)) - (wrap64 (x536002 * x5)))) (wrap64 (x5 * x536003))).bind fun bt543 => (some (bt543.1, bt543.2)))
def glidepathref02_Bias.f (k : Nat) (l0_0 : List Int) (l0_1 : List Int) (a0_2 : Int) (a0_3 : Int) (a1 : Int) : Option (Int × Int) := (glidepathref02_Cases.f k l0_1 (l0_0.length : Int)).bind fun t537 => (glidepathref02_Bias.l0 k a1 t537 0 0 l0_0 l0_1 a0_2 a0_3)
theorem glidepathref02_Bias.mono_l : ∀ k, (∀ y0 y1 y2 y3 y4 y5 y6 y7, LeO (glidepathref02_Bias.l0 k y0 y1 y2 y3 y4 y5 y6 y7) (glidepathref02_Bias.l0 (k + 1) y0 y1 y2 y3 y4 y5 y6 y7))
 | 0 => fun _ _ _ _ _ _ _ _ r h => by simp [glidepathref02_Bias.l0] at h
 | k + 1 => by
  have ih0 := glidepathref02_Bias.mono_l k
  ·intro y0 y1 y2 y3 y4 y5 y6 y7
   unfold glidepathref02_Bias.l0
   repeat' first
   | (with_reducible exact ih0 _ _ _ _ _ _ _ _)
   | (with_reducible exact glidepathbase_Lowest.mono _ _ _)
   | (with_reducible exact glidepathref02_Cases.mono _ _ _)
   | (with_reducible exact glidepathref02_Estimate.mono _ _ _)
   | (with_reducible exact glidepathref02_Noisy.mono _ _ _ _)
   | (with_reducible exact LeO.refl _)
   | (with_reducible exact LeO.none _)
   | (with_reducible refine LeO.ite ?_ ?_)
   | (with_reducible refine LeO.bind ?_ (fun _ => ?_))
   | exact ih0 _ _ _ _ _ _ _ _
   | exact glidepathbase_Lowest.mono _ _ _
   | exact glidepathref02_Cases.mono _ _ _
   | exact glidepathref02_Estimate.mono _ _ _
   | exact glidepathref02_Noisy.mono _ _ _ _
   | exact LeO.none _
   | refine LeO.ite ?_ ?_
   | refine LeO.bind ?_ (fun _ => ?_)
theorem glidepathref02_Bias.mono : ∀ a0 a1 a2 a3 a4 k, LeO (glidepathref02_Bias.f k a0 a1 a2 a3 a4) (glidepathref02_Bias.f (k + 1) a0 a1 a2 a3 a4) := by
 intro a0 a1 a2 a3 a4 k
 have ih0 := glidepathref02_Bias.mono_l k
 unfold glidepathref02_Bias.f
 repeat' first
   | (with_reducible exact ih0 _ _ _ _ _ _ _ _)
   | (with_reducible exact glidepathbase_Lowest.mono _ _ _)
   | (with_reducible exact glidepathref02_Cases.mono _ _ _)
   | (with_reducible exact glidepathref02_Estimate.mono _ _ _)
   | (with_reducible exact glidepathref02_Noisy.mono _ _ _ _)
   | (with_reducible exact LeO.refl _)
   | (with_reducible exact LeO.none _)
   | (with_reducible refine LeO.ite ?_ ?_)
   | (with_reducible refine LeO.bind ?_ (fun _ => ?_))
   | exact ih0 _ _ _ _ _ _ _ _
   | exact glidepathbase_Lowest.mono _ _ _
   | exact glidepathref02_Cases.mono _ _ _
   | exact glidepathref02_Estimate.mono _ _ _
   | exact glidepathref02_Noisy.mono _ _ _ _
   | exact LeO.none _
   | refine LeO.ite ?_ ?_
   | refine LeO.bind ?_ (fun _ => ?_)
set_option maxHeartbeats 8000000 in
set_option maxRecDepth 100000 in
theorem glidepathref02_Bias.calls (k : Nat) (A0_0 : Option Addr) (c0_0 : Nat) (l0_0 : List Int) (A0_1 : Option Addr) (c0_1 : Nat) (l0_1 : List Int) (a0_2 : Int) (a0_3 : Int) (a1 : Int) (r1 : Int) (r2 : Int) (w : World) (hr0_0 : Kd.C (Kd.int .i64) w A0_0 l0_0.length l0_0) (hc0_0 : l0_0.length ≤ c0_0) (hr0_1 : Kd.C (Kd.int .i64) w A0_1 l0_1.length l0_1) (hc0_1 : l0_1.length ≤ c0_1) (h : glidepathref02_Bias.f k l0_0 l0_1 a0_2 a0_3 a1 = some (r1, r2)) :
  Calls Tryd.prog 26 #[.agg #[.slice A0_0 l0_0.length c0_0, .slice A0_1 l0_1.length c0_1, .int .i64 a0_2, .int .i64 a0_3], .int .i64 a1] w fun e w' => e = .returned (.agg #[.int .i64 r1, .int .i64 r2]) ∧ Below w.heap.size w w' := by
 have hu28 := Tryd.underlying28
 have hu26 := Tryd.underlying26
 have hu24 := Tryd.underlying24
 have hfd26_0 : ∀ (x0_ x1_ : Value) (W_ : World), (Instr.field 26 (.agg #[x0_, x1_]) 0).run Tryd.prog W_ = .ok (x0_) W_ := fun _ _ _ => by kernel_rfl
 have HR0_0 := Aside0.mk hr0_0
 have HC0_0 := Aside0.mk hc0_0
 clear hr0_0 hc0_0
 have HR0_1 := Aside0.mk hr0_1
 have HC0_1 := Aside0.mk hc0_1
 clear hr0_1 hc0_1
 have HB := Aside0.mk (Below.refl w.heap.size w)
 have H : ((glidepathref02_Cases.f k l0_1 (l0_0.length : Int)).bind fun t537 => (glidepathref02_Bias.l0 k a1 t537 0 0 l0_0 l0_1 a0_2 a0_3)) = some (r1, r2) := h
 clear h
 replace H := Option.bind_eq_some_iff.mp H
 obtain ⟨t537, A30, H⟩ := H
 (try dsimp only at H)
 have A3 := Aside0.mk A30
 clear A30
 have H' := Aside0.mk H
 clear H
 go_enter Tryd.func26, Tryd.ntmps26
 go_wp2_with (first | ((with_reducible refine gate_dst (N := 2) rfl ?_); refine be 2 28 #[.slice A0_0 l0_0.length c0_0, .slice A0_1 l0_1.length c0_1, .int .i64 a0_2, .int .i64 a0_3] ?_; intro gb535 hg w4 hbox hb; have BK535 := Aside0.mk hbox; have GW535 := Aside0.mk (bg (n := w.heap.size) hg); have GE535 := Aside0.mk (bg (n := w.heap.size) hg); replace HB := sb HB hb; clear hb hbox hg) | ((with_reducible refine gate_dst (N := 4) rfl ?_); refine be 4 26 #[.int .i64 0, .int .i64 0] ?_; intro gb536 hg w5 hbox hb; have BK536 := Aside0.mk hbox; have GW536 := Aside0.mk (bg (n := w.heap.size) hg); have GE536 := Aside0.mk (bg (n := w.heap.size) hg); replace HB := sb HB hb; have NB535_536 := nl BK535 hg; have NB536_535 := ng (nl BK535 hg); replace BK535 := bb BK535 hb; clear hb hbox hg; have hnb6 := NB535_536.out; have hnc6 := NB536_535.out; obtain ⟨hcz7_0, hcz7_1, hcz7_2, hcz7_3, hfz7_0, hfz7_1, hfz7_2, hfz7_3⟩ := b4 BK535) | ((with_reducible refine gate_callee (f := 56) rfl ?_); refine gl (some 13) Tryd.func56 #[.agg #[.slice A0_1 l0_1.length c0_1], .int .i64 (l0_0.length : Int)] ?_; (with_reducible refine (glidepathref02_Cases.calls k _ _ l0_1 (l0_0.length : Int) t537 _ ?side1 ?side2 A3.out).mono ?_); (case side1 => exact bc (Kd.C_below HR0_1.out HB.out)); (case side2 => exact HC0_1.out); rintro e w8 ⟨rfl, hb⟩; refine ⟨_, rfl, ?_⟩; replace BK535 := bb BK535 hb; replace BK536 := bb BK536 hb; replace HB := sb HB hb; (try clear hb)))
 go_loopg [6, 7] k (fun kq v6 v7 w' => ∃ (x6_1 : Int) (x7_1 : Int), v6 = .int .i64 x6_1 ∧ v7 = .int .i64 x7_1 ∧ Aside0 (glidepathref02_Bias.l0 kq a1 t537 x6_1 x7_1 l0_0 l0_1 a0_2 a0_3 = some (r1, r2)) ∧ Aside0 (kq ≤ k) ∧ Aside0 (w'.heap[gb535]? = some (.cells #[(.slice A0_0 l0_0.length c0_0), (.slice A0_1 l0_1.length c0_1), .int .i64 a0_2, .int .i64 a0_3] 28 (0, 0))) ∧ Aside0 (w'.heap[gb536]? = some (.cells #[.int .i64 0, .int .i64 0] 26 (0, 0))) ∧ Aside0 (Below w.heap.size w w'))
 case atStart => exact ⟨(0), (0), (by first | rfl | (simp; done) | (simp [*]; done)), (by first | rfl | (simp; done) | (simp [*]; done)), H', ⟨Nat.le_refl _⟩, ⟨by (with_reducible repeat (first | refine blk_drewN ?_ _ | refine blk_drew ?_ | refine blk_alloc ?_ _)); exact BK535.out⟩, ⟨by (with_reducible repeat (first | refine blk_drewN ?_ _ | refine blk_drew ?_ | refine blk_alloc ?_ _)); exact BK536.out⟩, ⟨by repeat (first | (with_reducible first | exact HB.out | apply below_alloc | apply pw_below_drewN | apply below_drew1 | refine below_set ?_ GE535.out | refine below_set ?_ GE536.out) | exact HB.out)⟩⟩
 case round =>
  clear H'
  try clear c2
  try clear p2
  try clear c5
  try clear c6
  try clear hcz7_0
  try clear hcz7_1
  try clear hcz7_2
  try clear hcz7_3
  try clear hfz7_0
  try clear hfz7_1
  try clear hfz7_2
  try clear hfz7_3
  obtain ⟨x6_1, x7_1, rfl, rfl, HA, HK1, BK535, BK536, HB⟩ := hrel
  cases gk with
  | zero => exact absurd HA.out (by simp [glidepathref02_Bias.l0])
  | succ k1 =>
   have H := HA.out
   clear HA
   simp only [glidepathref02_Bias.l0] at H
   by_cases c9 : x7_1 < t537
   ·rw [if_pos c9] at H
    have c9b0 := decide_eq_true c9
    clear c9
    replace H := Option.bind_eq_some_iff.mp H
    obtain ⟨t538, A100, H⟩ := H
    (try dsimp only at H)
    have A10 := Aside0.mk A100
    clear A100
    replace H := Option.bind_eq_some_iff.mp H
    obtain ⟨⟨t541, t542⟩, A110, H⟩ := H
    (try dsimp only at H)
    have A11 := Aside0.mk A110
    clear A110
    have H' := Aside0.mk H
    clear H
    have hnb12 := NB535_536.out
    have hnc12 := NB536_535.out
    obtain ⟨_, _, _, _, _, _, _, _⟩ := b4 BK535
    go_wp2_with (first | ((with_reducible refine gate_callee (f := 58) rfl ?_); refine gl (some 25) Tryd.func58 #[.slice A0_0 l0_0.length c0_0, .agg #[.slice A0_1 l0_1.length c0_1], .int .i64 x7_1] ?_; (with_reducible refine (glidepathref02_Noisy.calls k1 _ _ l0_0 _ _ l0_1 x7_1 t538 _ ?side1 ?side2 ?side3 ?side4 A10.out).mono ?_); (case side1 => exact bc (Kd.C_below HR0_0.out HB.out)); (case side2 => exact HC0_0.out); (case side3 => exact bc (Kd.C_below HR0_1.out HB.out)); (case side4 => exact HC0_1.out); rintro e w14 ⟨v539, rfl, ho0, hb⟩; refine ⟨_, rfl, ?_⟩; have HO540 := Aside0.mk (Kd.R_lower ho0 (below_size bz)); replace BK535 := bb BK535 hb; replace BK536 := bb BK536 hb; replace HB := sb HB hb; (try clear hb); (try clear ho0); obtain ⟨Ao15, co15, eo15⟩ := Kd.R_slice HO540.out; subst eo15) | ((with_reducible refine gate_callee (f := 62) rfl ?_); refine gl (some 27) Tryd.func62 #[.slice Ao15 t538.length co15, .int .i64 a1] ?_; (with_reducible refine (glidepathref02_Estimate.calls k1 _ _ t538 a1 t541 t542 _ ?side1 ?side2 A11.out).mono ?_); (case side1 => exact bc (Kd.R_reads' HO540.out).2.2); (case side2 => exact (Kd.R_reads' HO540.out).2.1); rintro e w16 ⟨rfl, hb⟩; refine ⟨_, rfl, ?_⟩; replace HO540 := rb HO540 hb; replace BK535 := bb BK535 hb; replace BK536 := bb BK536 hb; replace HB := sb HB hb; (try clear hb)))
    go_roundg k1
    case measure => have := HK1.out; omega
    case rel => exact ⟨(wrap64 (x6_1 + t541)), (wrap64 (x7_1 + 1)), (by first | rfl | (simp; done) | (simp [*]; done)), (by first | rfl | (simp; done) | (simp [*]; done)), H', ⟨by have := HK1.out; omega⟩, ⟨by (with_reducible repeat (first | refine blk_drewN ?_ _ | refine blk_drew ?_ | refine blk_alloc ?_ _)); exact BK535.out⟩, ⟨by (with_reducible repeat (first | refine blk_drewN ?_ _ | refine blk_drew ?_ | refine blk_alloc ?_ _)); exact BK536.out⟩, ⟨by repeat (first | (with_reducible first | exact HB.out | apply below_alloc | apply pw_below_drewN | apply below_drew1 | refine below_set ?_ GE535.out | refine below_set ?_ GE536.out) | exact HB.out)⟩⟩
   ·rw [if_neg c9] at H
    have c9b0 := decide_eq_false c9
    clear c9
    replace H := Option.bind_eq_some_iff.mp H
    obtain ⟨⟨t543, t544⟩, A170, H⟩ := H
    (try dsimp only at H)
    have A17 := Aside0.mk A170
    clear A170
    simp only [Option.some.injEq, Prod.mk.injEq] at H
    obtain ⟨rfl, rfl⟩ := H
    have hnb18 := NB535_536.out
    have hnc18 := NB536_535.out
    obtain ⟨_, _, _, _, _, _, _, _⟩ := b4 BK535
    go_wp2_with (first | ((with_reducible refine gate_callee (f := 41) rfl ?_); refine gl (some 46) Tryd.func41 #[.int .i64 (wrap64 ((wrap64 (x6_1 * a0_3)) - (wrap64 (a0_2 * t537)))), .int .i64 (wrap64 (t537 * a0_3))] ?_; (with_reducible refine (glidepathbase_Lowest.calls k1 (wrap64 ((wrap64 (x6_1 * a0_3)) - (wrap64 (a0_2 * t537)))) (wrap64 (t537 * a0_3)) t543 t544 _ A17.out).mono ?_); rintro e w20 ⟨rfl, hb⟩; refine ⟨_, rfl, ?_⟩; replace BK535 := bb BK535 hb; replace BK536 := bb BK536 hb; replace HB := sb HB hb; (try clear hb); obtain ⟨_, _, _, _⟩ := b2 BK536))
    refine bodyPost_ret (results_cell_row rfl _ _ gb536 26 #[.int .i64 t543, .int .i64 t544] (0, 0) _ rfl (by (with_reducible repeat (first | refine blk_drewN ?_ _ | refine blk_drew ?_ | refine blk_alloc ?_ _)); refine blk_put (cs := #[.int .i64 t543, .int .i64 0]) ?_ 1 _ rfl; (with_reducible repeat (first | refine blk_drewN ?_ _ | refine blk_drew ?_ | refine blk_alloc ?_ _)); refine blk_put (cs := #[.int .i64 0, .int .i64 0]) ?_ 0 _ rfl; (with_reducible repeat (first | refine blk_drewN ?_ _ | refine blk_drew ?_ | refine blk_alloc ?_ _)); exact BK536.out) Tryd.underlying26 rfl (by kernel_rfl)) rfl ?_
    exact ez
end
end Go.Proofs.YtjnkphmcndaijaaDoor.A
