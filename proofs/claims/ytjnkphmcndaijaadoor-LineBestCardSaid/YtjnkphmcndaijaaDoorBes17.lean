/- Walks of the program's functions (printed, made shorter), each with what it computes. -/
import Derived.Test.YtjnkphmcndaijaaDoorBes04
import Derived.Test.YtjnkphmcndaijaaDoorBes13
import Derived.Test.YtjnkphmcndaijaaDoorBes14
import Derived.Test.YtjnkphmcndaijaaDoorBes16
import Derived.Test.YtjnkphmcndaijaaDoorBes03
import Derived.Test.YtjnkphmcndaijaaDoorBes06
namespace Go.Proofs.YtjnkphmcndaijaaDoor.A
set_option maxHeartbeats 8000000
set_option maxRecDepth 100000
open Go.RowKit Go.Proofs.YtjnkphmcndaijaaDoorW.PrintWords Go.Proofs.YtjnkphmcndaijaaDoorW.PrintLast Go.Proofs.YtjnkphmcndaijaaDoorW.PrintMore
attribute [local go_sem] max2_int min2_int max_two min_two max_three min_three max_four min_four
set_option linter.unusedVariables false
set_option linter.unusedSimpArgs false
section
def Rf_Worst.l0 : Nat → Int → Int → List Int → List Int → Int → Int → Int → Int → Int → Option (Int × Int × Int)
 | 0, _, _, _, _, _, _, _, _, _ => none
 | k + 1, x1, x6, x526000, x526001, x526002, x526003, x530000, x530001, x530002 => (Rf_Cases.f k x526001 (x526000.length : Int)).bind fun t530 => (if x6 < t530 then ((Rf_Off.f k x526000 x526001 x526002 x526003 x1 x6).bind fun bt531 => ((Bs_Cmp.f bt531.1 bt531.2 x530000 x530001).bind fun t534 => (if t534 > 0 then (Rf_Worst.l0 k x1 (wrap64 (x6 + 1)) x526000 x526001 x526002 x526003 bt531.1 bt531.2 x6) else (Rf_Worst.l0 k x1 (wrap64 (x6 + 1)) x526000 x526001 x526002 x526003 x530000 x530001 x530002)))) else (some (x530000, x530001, x530002)))
def Rf_Worst.f (k : Nat) (l0_0 : List Int) (l0_1 : List Int) (a0_2 : Int) (a0_3 : Int) (a1 : Int) : Option (Int × Int × Int) := (Rf_Off.f k l0_0 l0_1 a0_2 a0_3 a1 0).bind fun bt527 => (Rf_Worst.l0 k a1 0 l0_0 l0_1 a0_2 a0_3 bt527.1 bt527.2 0)
theorem Rf_Worst.mono_l : ∀ k, (∀ y0 y1 y2 y3 y4 y5 y6 y7 y8, LeO (Rf_Worst.l0 k y0 y1 y2 y3 y4 y5 y6 y7 y8) (Rf_Worst.l0 (k + 1) y0 y1 y2 y3 y4 y5 y6 y7 y8))
 | 0 => fun _ _ _ _ _ _ _ _ _ r h => by simp [Rf_Worst.l0] at h
 | k + 1 => by
  have ih0 := Rf_Worst.mono_l k
  ·intro y0 y1 y2 y3 y4 y5 y6 y7 y8
   unfold Rf_Worst.l0
   repeat' first
   | (with_reducible exact ih0 _ _ _ _ _ _ _ _ _)
   | (with_reducible exact Rf_Cases.mono _ _ _)
   | (with_reducible exact Rf_Off.mono _ _ _ _ _ _ _)
   | (with_reducible exact LeO.refl _)
   | (with_reducible exact LeO.none _)
   | (with_reducible refine LeO.ite ?_ ?_)
   | (with_reducible refine LeO.bind ?_ (fun _ => ?_))
   | exact ih0 _ _ _ _ _ _ _ _ _
   | exact Rf_Cases.mono _ _ _
   | exact Rf_Off.mono _ _ _ _ _ _ _
   | exact LeO.none _
   | refine LeO.ite ?_ ?_
   | refine LeO.bind ?_ (fun _ => ?_)
theorem Rf_Worst.mono : ∀ a0 a1 a2 a3 a4 k, LeO (Rf_Worst.f k a0 a1 a2 a3 a4) (Rf_Worst.f (k + 1) a0 a1 a2 a3 a4) := by
 intro a0 a1 a2 a3 a4 k
 have ih0 := Rf_Worst.mono_l k
 unfold Rf_Worst.f
 repeat' first
   | (with_reducible exact ih0 _ _ _ _ _ _ _ _ _)
   | (with_reducible exact Rf_Cases.mono _ _ _)
   | (with_reducible exact Rf_Off.mono _ _ _ _ _ _ _)
   | (with_reducible exact LeO.refl _)
   | (with_reducible exact LeO.none _)
   | (with_reducible refine LeO.ite ?_ ?_)
   | (with_reducible refine LeO.bind ?_ (fun _ => ?_))
   | exact ih0 _ _ _ _ _ _ _ _ _
   | exact Rf_Cases.mono _ _ _
   | exact Rf_Off.mono _ _ _ _ _ _ _
   | exact LeO.none _
   | refine LeO.ite ?_ ?_
   | refine LeO.bind ?_ (fun _ => ?_)
theorem Rf_Worst.calls (k : Nat) (A0_0 : Option Addr) (c0_0 : Nat) (l0_0 : List Int) (A0_1 : Option Addr) (c0_1 : Nat) (l0_1 : List Int) (a0_2 : Int) (a0_3 : Int) (a1 : Int) (r1 : Int) (r2 : Int) (r3 : Int) (w : World) (hr0_0 : Kd.C (Kd.int .i64) w A0_0 l0_0.length l0_0) (hc0_0 : l0_0.length ≤ c0_0) (hr0_1 : Kd.C (Kd.int .i64) w A0_1 l0_1.length l0_1) (hc0_1 : l0_1.length ≤ c0_1) (h : Rf_Worst.f k l0_0 l0_1 a0_2 a0_3 a1 = some (r1, r2, r3)) :
  Calls Tryd.prog 25 #[.agg #[.slice A0_0 l0_0.length c0_0, .slice A0_1 l0_1.length c0_1, .int .i64 a0_2, .int .i64 a0_3], .int .i64 a1] w fun e w' => e = .returned (.agg #[.int .i64 r1, .int .i64 r2, .int .i64 r3]) ∧ Below w.heap.size w w' := by
 have hu28 := Tryd.underlying28
 have hu36 := Tryd.underlying36
 have hu24 := Tryd.underlying24
 have hu26 := Tryd.underlying26
 have HR0_0 := m0 hr0_0
 have HC0_0 := m0 hc0_0
 clear hr0_0 hc0_0
 have HR0_1 := m0 hr0_1
 have HC0_1 := m0 hc0_1
 clear hr0_1 hc0_1
 have HB := m0 (Below.refl w.heap.size w)
 have H : ((Rf_Off.f k l0_0 l0_1 a0_2 a0_3 a1 0).bind fun bt527 => (Rf_Worst.l0 k a1 0 l0_0 l0_1 a0_2 a0_3 bt527.1 bt527.2 0)) = some (r1, r2, r3) := h
 clear h
 replace H := ob H
 obtain ⟨⟨t527, t528⟩, A30, H⟩ := H
 (try dsimp only at H)
 have A3 := m0 A30
 clear A30
 have H' := m0 H
 clear H
 go_enter Tryd.func25, Tryd.ntmps25
 go_wp2_with (first | ((with_reducible refine gate_dst (N := 2) rfl ?_); refine be 2 28 #[.slice A0_0 l0_0.length c0_0, .slice A0_1 l0_1.length c0_1, .int .i64 a0_2, .int .i64 a0_3] ?_; intro gb525 hg w4 hbox hb; have BK525 := m0 hbox; have GW525 := m0 (bg (n := w.heap.size) hg); have GE525 := m0 (bg (n := w.heap.size) hg); replace HB := sb HB hb; clear hb hbox hg) | ((with_reducible refine gate_dst (N := 4) rfl ?_); refine be 4 36 #[.int .i64 0, .int .i64 0, .int .i64 0] ?_; intro gb526 hg w5 hbox hb; have BK526 := m0 hbox; have GW526 := m0 (bg (n := w.heap.size) hg); have GE526 := m0 (bg (n := w.heap.size) hg); replace HB := sb HB hb; have NB525_526 := nl BK525 hg; have NB526_525 := ng (nl BK525 hg); replace BK525 := bb BK525 hb; clear hb hbox hg; have hnb6 := NB525_526.out; have hnc6 := NB526_525.out; obtain ⟨hcz7_0, hcz7_1, hcz7_2, hcz7_3, hfz7_0, hfz7_1, hfz7_2, hfz7_3⟩ := b4 BK525) | ((with_reducible refine gate_callee (f := 99) rfl ?_); refine gl (some 10) Tryd.func99 #[.agg #[.slice A0_0 l0_0.length c0_0, .slice A0_1 l0_1.length c0_1, .int .i64 a0_2, .int .i64 a0_3], .int .i64 a1, .int .i64 0] ?_; (with_reducible refine (Rf_Off.calls k _ _ l0_0 _ _ l0_1 a0_2 a0_3 a1 0 t527 t528 _ ?side1 ?side2 ?side3 ?side4 A3.out).mono ?_); (case side1 => exact cb HR0_0 HB); (case side2 => exact HC0_0.out); (case side3 => exact cb HR0_1 HB); (case side4 => exact HC0_1.out); rintro e w8 ⟨rfl, hb⟩; refine ⟨_, rfl, ?_⟩; replace BK525 := bb BK525 hb; replace BK526 := bb BK526 hb; replace HB := sb HB hb; (try clear hb)) | ((with_reducible refine gate_dst (N := 5) rfl ?_); refine be 5 36 #[.int .i64 0, .int .i64 0, .int .i64 0] ?_; intro gb529 hg w9 hbox hb; have BK529 := m0 hbox; have GW529 := m0 (bg (n := w.heap.size) hg); have GE529 := m0 (bg (n := w.heap.size) hg); replace HB := sb HB hb; have NB525_529 := nl BK525 hg; have NB529_525 := ng (nl BK525 hg); replace BK525 := bb BK525 hb; have NB526_529 := nl BK526 hg; have NB529_526 := ng (nl BK526 hg); replace BK526 := bb BK526 hb; clear hb hbox hg; have hnb10 := NB529_525.out; have hnc10 := NB525_529.out; have hnb11 := NB529_526.out; have hnc11 := NB526_529.out; obtain ⟨hcz12_0, hcz12_1, hcz12_2, hfz12_0, hfz12_1, hfz12_2⟩ := b3 BK529))
 go_loopg [6] k (fun kq v6 w' => ∃ (x6_1 : Int) (x530000_1 : Int) (x530001_1 : Int) (x530002_1 : Int), v6 = .int .i64 x6_1 ∧ Aside0 (Rf_Worst.l0 kq a1 x6_1 l0_0 l0_1 a0_2 a0_3 x530000_1 x530001_1 x530002_1 = some (r1, r2, r3)) ∧ Aside0 (kq ≤ k) ∧ Aside0 (w'.heap[gb525]? = some (.cells #[(.slice A0_0 l0_0.length c0_0), (.slice A0_1 l0_1.length c0_1), .int .i64 a0_2, .int .i64 a0_3] 28 (0, 0))) ∧ Aside0 (w'.heap[gb526]? = some (.cells #[.int .i64 0, .int .i64 0, .int .i64 0] 36 (0, 0))) ∧ Aside0 (w'.heap[gb529]? = some (.cells #[.int .i64 x530000_1, .int .i64 x530001_1, .int .i64 x530002_1] 36 (0, 0))) ∧ Aside0 (Below w.heap.size w w'))
 case atStart => exact ⟨(0), (t527), (t528), (0), (by first | rfl | (simp; done) | (simp [*]; done)), H', ⟨Nat.le_refl _⟩, ⟨bq BK525.out⟩, ⟨bq BK526.out⟩, ⟨bq BK529.out⟩, ⟨bz⟩⟩
 case round =>
  clear H'
  try clear c1
  try clear c2
  try clear p2
  try clear c6
  try clear c9
  try clear c10
  try clear c11
  try clear hcz12_0
  try clear hcz12_1
  try clear hcz12_2
  try clear hcz7_0
  try clear hcz7_1
  try clear hcz7_2
  try clear hcz7_3
  try clear hfz12_0
  try clear hfz12_1
  try clear hfz12_2
  try clear hfz7_0
  try clear hfz7_1
  try clear hfz7_2
  try clear hfz7_3
  obtain ⟨x6_1, x530000_1, x530001_1, x530002_1, rfl, HA, HK1, BK525, BK526, BK529, HB⟩ := hrel
  cases gk with
  | zero => exact absurd HA.out (by simp [Rf_Worst.l0])
  | succ k1 =>
   have H := HA.out
   clear HA
   simp only [Rf_Worst.l0] at H
   replace H := ob H
   obtain ⟨t530, A130, H⟩ := H
   (try dsimp only at H)
   have A13 := m0 A130
   clear A130
   by_cases c14 : x6_1 < t530
   ·rw [if_pos c14] at H
    have c14b0 := decide_eq_true c14
    clear c14
    replace H := ob H
    obtain ⟨⟨t531, t532⟩, A150, H⟩ := H
    (try dsimp only at H)
    have A15 := m0 A150
    clear A150
    replace H := ob H
    obtain ⟨t534, A160, H⟩ := H
    (try dsimp only at H)
    have A16 := m0 A160
    clear A160
    by_cases c17 : t534 > 0
    ·rw [if_pos c17] at H
     have c17b0 := decide_eq_true c17
     clear c17
     have H' := m0 H
     clear H
     have hnb18 := NB525_526.out
     have hnc18 := NB526_525.out
     have hnb19 := NB525_529.out
     have hnc19 := NB529_525.out
     obtain ⟨_, _, _, _, _, _, _, _⟩ := b4 BK525
     go_wp2_with (first | ((with_reducible refine gate_callee (f := 56) rfl ?_); refine gl (some 18) Tryd.func56 #[.agg #[.slice A0_1 l0_1.length c0_1], .int .i64 (l0_0.length : Int)] ?_; (with_reducible refine (Rf_Cases.calls k1 _ _ l0_1 (l0_0.length : Int) t530 _ ?side1 ?side2 A13.out).mono ?_); (case side1 => exact cb HR0_1 HB); (case side2 => exact HC0_1.out); rintro e w21 ⟨rfl, hb⟩; refine ⟨_, rfl, ?_⟩; replace BK525 := bb BK525 hb; replace BK526 := bb BK526 hb; replace BK529 := bb BK529 hb; replace HB := sb HB hb; (try clear hb); obtain ⟨_, _, _, _, _, _, _, _⟩ := b4 BK525) | ((with_reducible refine gate_callee (f := 99) rfl ?_); refine gl (some 25) Tryd.func99 #[.agg #[.slice A0_0 l0_0.length c0_0, .slice A0_1 l0_1.length c0_1, .int .i64 a0_2, .int .i64 a0_3], .int .i64 a1, .int .i64 x6_1] ?_; (with_reducible refine (Rf_Off.calls k1 _ _ l0_0 _ _ l0_1 a0_2 a0_3 a1 x6_1 t531 t532 _ ?side1 ?side2 ?side3 ?side4 A15.out).mono ?_); (case side1 => exact cb HR0_0 HB); (case side2 => exact HC0_0.out); (case side3 => exact cb HR0_1 HB); (case side4 => exact HC0_1.out); rintro e w23 ⟨rfl, hb⟩; refine ⟨_, rfl, ?_⟩; replace BK525 := bb BK525 hb; replace BK526 := bb BK526 hb; replace BK529 := bb BK529 hb; replace HB := sb HB hb; (try clear hb)) | ((with_reducible refine gate_dst (N := 7) rfl ?_); refine be 7 26 #[.int .i64 0, .int .i64 0] ?_; intro gb533 hg w24 hbox hb; have BK533 := m0 hbox; have GW533 := m0 (bg (n := w.heap.size) hg); have GE533 := m0 (bg (n := w.heap.size) hg); replace HB := sb HB hb; have NB525_533 := nl BK525 hg; have NB533_525 := ng (nl BK525 hg); replace BK525 := bb BK525 hb; have NB526_533 := nl BK526 hg; have NB533_526 := ng (nl BK526 hg); replace BK526 := bb BK526 hb; have NB529_533 := nl BK529 hg; have NB533_529 := ng (nl BK529 hg); replace BK529 := bb BK529 hb; clear hb hbox hg; have hnb25 := NB533_525.out; have hnc25 := NB525_533.out; have hnb26 := NB533_526.out; have hnc26 := NB526_533.out; have hnb27 := NB533_529.out; have hnc27 := NB529_533.out; obtain ⟨_, _, _, _⟩ := b2 BK533; have hnb29 := NB529_526.out; have hnc29 := NB526_529.out; obtain ⟨_, _, _, _, _, _⟩ := b3 BK529) | ((with_reducible refine gate_callee (f := 37) rfl ?_); refine gl (some 29) Tryd.func37 #[.agg #[.int .i64 t531, .int .i64 t532], .agg #[.int .i64 x530000_1, .int .i64 x530001_1]] ?_; (with_reducible refine (Bs_Cmp.calls t531 t532 x530000_1 x530001_1 t534 _ A16.out).mono ?_); rintro e w31 ⟨rfl, hb⟩; refine ⟨_, rfl, ?_⟩; replace BK525 := m0 (blk_below (g := gb525) (o := .cells #[.slice A0_0 l0_0.length c0_0, .slice A0_1 l0_1.length c0_1, .int .i64 a0_2, .int .i64 a0_3] 28 (0, 0)) (bq BK525.out) hb); replace BK526 := m0 (blk_below (g := gb526) (o := .cells #[.int .i64 0, .int .i64 0, .int .i64 0] 36 (0, 0)) (bq BK526.out) hb); replace BK529 := m0 (blk_below (g := gb529) (o := .cells #[.int .i64 x530000_1, .int .i64 x530001_1, .int .i64 x530002_1] 36 (0, 0)) (bq BK529.out) hb); replace BK533 := m0 (blk_below (g := gb533) (o := .cells #[.int .i64 t531, .int .i64 t532] 26 (0, 0)) (bq BK533.out) hb); replace HB := sb HB hb; (try clear hb); obtain ⟨_, _, _, _⟩ := b2 BK533; obtain ⟨_, _, _, _, _, _⟩ := b3 BK529))
     go_roundg k1
     case measure => have := HK1.out; omega
     case rel => exact ⟨(wrap64 (x6_1 + 1)), (t531), (t532), (x6_1), (by first | rfl | (simp; done) | (simp [*]; done)), H', ⟨by have := HK1.out; omega⟩, ⟨bq BK525.out⟩, ⟨bq BK526.out⟩, ⟨bq BK529.out⟩, ⟨bz⟩⟩
    ·rw [if_neg c17] at H
     have c17b0 := decide_eq_false c17
     clear c17
     have H' := m0 H
     clear H
     have hnb34 := NB525_526.out
     have hnc34 := NB526_525.out
     have hnb35 := NB525_529.out
     have hnc35 := NB529_525.out
     obtain ⟨_, _, _, _, _, _, _, _⟩ := b4 BK525
     go_wp2_with (first | ((with_reducible refine gate_callee (f := 56) rfl ?_); refine gl (some 18) Tryd.func56 #[.agg #[.slice A0_1 l0_1.length c0_1], .int .i64 (l0_0.length : Int)] ?_; (with_reducible refine (Rf_Cases.calls k1 _ _ l0_1 (l0_0.length : Int) t530 _ ?side1 ?side2 A13.out).mono ?_); (case side1 => exact cb HR0_1 HB); (case side2 => exact HC0_1.out); rintro e w37 ⟨rfl, hb⟩; refine ⟨_, rfl, ?_⟩; replace BK525 := bb BK525 hb; replace BK526 := bb BK526 hb; replace BK529 := bb BK529 hb; replace HB := sb HB hb; (try clear hb); obtain ⟨_, _, _, _, _, _, _, _⟩ := b4 BK525) | ((with_reducible refine gate_callee (f := 99) rfl ?_); refine gl (some 25) Tryd.func99 #[.agg #[.slice A0_0 l0_0.length c0_0, .slice A0_1 l0_1.length c0_1, .int .i64 a0_2, .int .i64 a0_3], .int .i64 a1, .int .i64 x6_1] ?_; (with_reducible refine (Rf_Off.calls k1 _ _ l0_0 _ _ l0_1 a0_2 a0_3 a1 x6_1 t531 t532 _ ?side1 ?side2 ?side3 ?side4 A15.out).mono ?_); (case side1 => exact cb HR0_0 HB); (case side2 => exact HC0_0.out); (case side3 => exact cb HR0_1 HB); (case side4 => exact HC0_1.out); rintro e w39 ⟨rfl, hb⟩; refine ⟨_, rfl, ?_⟩; replace BK525 := bb BK525 hb; replace BK526 := bb BK526 hb; replace BK529 := bb BK529 hb; replace HB := sb HB hb; (try clear hb)) | ((with_reducible refine gate_dst (N := 7) rfl ?_); refine be 7 26 #[.int .i64 0, .int .i64 0] ?_; intro gb533 hg w40 hbox hb; have BK533 := m0 hbox; have GW533 := m0 (bg (n := w.heap.size) hg); have GE533 := m0 (bg (n := w.heap.size) hg); replace HB := sb HB hb; have NB525_533 := nl BK525 hg; have NB533_525 := ng (nl BK525 hg); replace BK525 := bb BK525 hb; have NB526_533 := nl BK526 hg; have NB533_526 := ng (nl BK526 hg); replace BK526 := bb BK526 hb; have NB529_533 := nl BK529 hg; have NB533_529 := ng (nl BK529 hg); replace BK529 := bb BK529 hb; clear hb hbox hg; have hnb41 := NB533_525.out; have hnc41 := NB525_533.out; have hnb42 := NB533_526.out; have hnc42 := NB526_533.out; have hnb43 := NB533_529.out; have hnc43 := NB529_533.out; obtain ⟨_, _, _, _⟩ := b2 BK533; have hnb45 := NB529_526.out; have hnc45 := NB526_529.out; obtain ⟨_, _, _, _, _, _⟩ := b3 BK529) | ((with_reducible refine gate_callee (f := 37) rfl ?_); refine gl (some 29) Tryd.func37 #[.agg #[.int .i64 t531, .int .i64 t532], .agg #[.int .i64 x530000_1, .int .i64 x530001_1]] ?_; (with_reducible refine (Bs_Cmp.calls t531 t532 x530000_1 x530001_1 t534 _ A16.out).mono ?_); rintro e w47 ⟨rfl, hb⟩; refine ⟨_, rfl, ?_⟩; replace BK525 := m0 (blk_below (g := gb525) (o := .cells #[.slice A0_0 l0_0.length c0_0, .slice A0_1 l0_1.length c0_1, .int .i64 a0_2, .int .i64 a0_3] 28 (0, 0)) (bq BK525.out) hb); replace BK526 := m0 (blk_below (g := gb526) (o := .cells #[.int .i64 0, .int .i64 0, .int .i64 0] 36 (0, 0)) (bq BK526.out) hb); replace BK529 := m0 (blk_below (g := gb529) (o := .cells #[.int .i64 x530000_1, .int .i64 x530001_1, .int .i64 x530002_1] 36 (0, 0)) (bq BK529.out) hb); replace BK533 := m0 (blk_below (g := gb533) (o := .cells #[.int .i64 t531, .int .i64 t532] 26 (0, 0)) (bq BK533.out) hb); replace HB := sb HB hb; (try clear hb)))
     go_roundg k1
     case measure => have := HK1.out; omega
     case rel => exact ⟨(wrap64 (x6_1 + 1)), (x530000_1), (x530001_1), (x530002_1), (by first | rfl | (simp; done) | (simp [*]; done)), H', ⟨by have := HK1.out; omega⟩, ⟨bk BK525.out⟩, ⟨bk BK526.out⟩, ⟨bk BK529.out⟩, ⟨bz⟩⟩
   ·rw [if_neg c14] at H
    have c14b0 := decide_eq_false c14
    clear c14
    simp only [Option.some.injEq, Prod.mk.injEq] at H
    obtain ⟨rfl, rfl, rfl⟩ := H
    have hnb48 := NB525_526.out
    have hnc48 := NB526_525.out
    have hnb49 := NB525_529.out
    have hnc49 := NB529_525.out
    obtain ⟨_, _, _, _, _, _, _, _⟩ := b4 BK525
    go_wp2_with (first | ((with_reducible refine gate_callee (f := 56) rfl ?_); refine gl (some 18) Tryd.func56 #[.agg #[.slice A0_1 l0_1.length c0_1], .int .i64 (l0_0.length : Int)] ?_; (with_reducible refine (Rf_Cases.calls k1 _ _ l0_1 (l0_0.length : Int) t530 _ ?side1 ?side2 A13.out).mono ?_); (case side1 => exact cb HR0_1 HB); (case side2 => exact HC0_1.out); rintro e w51 ⟨rfl, hb⟩; refine ⟨_, rfl, ?_⟩; replace BK525 := bb BK525 hb; replace BK526 := bb BK526 hb; replace BK529 := bb BK529 hb; replace HB := sb HB hb; (try clear hb); have hnb52 := NB529_526.out; have hnc52 := NB526_529.out; obtain ⟨_, _, _, _, _, _⟩ := b3 BK529; obtain ⟨_, _, _, _, _, _⟩ := b3 BK526))
    refine bodyPost_ret (results_cell_row rfl _ _ gb526 36 #[.int .i64 x530000_1, .int .i64 x530001_1, .int .i64 x530002_1] (0, 0) _ rfl (bq BK526.out) Tryd.underlying36 rfl (by kernel_rfl)) rfl ?_
    exact ez
end
section
def Rf_Best.l0 : Nat → List Int → Int → Int → List Int → List Int → Int → Int → Int → Int → Int → Option (Int × Int × Int × Int)
 | 0, _, _, _, _, _, _, _, _, _, _ => none
 | k + 1, x1, x6, x8, x1408000, x1408001, x1408002, x1408003, x1415000, x1415001, x1415002 => if x8 < (x1.length : Int) then (if 0 ≤ x8 then ((Rf_Worst.f k x1408000 x1408001 x1408002 x1408003 (rd x1 x8)).bind fun bt1416 => ((Bs_Cmp.f bt1416.1 bt1416.2.1 x1415000 x1415001).bind fun t1420 => (if t1420 < 0 then (Rf_Best.l0 k x1 (rd x1 x8) (wrap64 (x8 + 1)) x1408000 x1408001 x1408002 x1408003 bt1416.1 bt1416.2.1 bt1416.2.2) else (Rf_Best.l0 k x1 x6 (wrap64 (x8 + 1)) x1408000 x1408001 x1408002 x1408003 x1415000 x1415001 x1415002)))) else (none)) else (some (x6, x1415000, x1415001, x1415002))
def Rf_Best.f (k : Nat) (l0_0 : List Int) (l0_1 : List Int) (a0_2 : Int) (a0_3 : Int) (l1 : List Int) : Option (Int × Int × Int × Int) := if 0 < (l1.length : Int) then ((Rf_Worst.f k l0_0 l0_1 a0_2 a0_3 (rd l1 0)).bind fun bt1411 => (Rf_Best.l0 k l1 (rd l1 0) 1 l0_0 l0_1 a0_2 a0_3 bt1411.1 bt1411.2.1 bt1411.2.2)) else (none)
theorem Rf_Best.mono_l : ∀ k, (∀ y0 y1 y2 y3 y4 y5 y6 y7 y8 y9, LeO (Rf_Best.l0 k y0 y1 y2 y3 y4 y5 y6 y7 y8 y9) (Rf_Best.l0 (k + 1) y0 y1 y2 y3 y4 y5 y6 y7 y8 y9))
 | 0 => fun _ _ _ _ _ _ _ _ _ _ r h => by simp [Rf_Best.l0] at h
 | k + 1 => by
  have ih0 := Rf_Best.mono_l k
  ·intro y0 y1 y2 y3 y4 y5 y6 y7 y8 y9
   unfold Rf_Best.l0
   repeat' first
   | (with_reducible exact ih0 _ _ _ _ _ _ _ _ _ _)
   | (with_reducible exact Rf_Worst.mono _ _ _ _ _ _)
   | (with_reducible exact LeO.refl _)
   | (with_reducible exact LeO.none _)
   | (with_reducible refine LeO.ite ?_ ?_)
   | (with_reducible refine LeO.bind ?_ (fun _ => ?_))
   | exact ih0 _ _ _ _ _ _ _ _ _ _
   | exact Rf_Worst.mono _ _ _ _ _ _
   | exact LeO.none _
   | refine LeO.ite ?_ ?_
   | refine LeO.bind ?_ (fun _ => ?_)
theorem Rf_Best.mono : ∀ a0 a1 a2 a3 a4 k, LeO (Rf_Best.f k a0 a1 a2 a3 a4) (Rf_Best.f (k + 1) a0 a1 a2 a3 a4) := by
 intro a0 a1 a2 a3 a4 k
 have ih0 := Rf_Best.mono_l k
 unfold Rf_Best.f
 repeat' first
   | (with_reducible exact ih0 _ _ _ _ _ _ _ _ _ _)
   | (with_reducible exact Rf_Worst.mono _ _ _ _ _ _)
   | (with_reducible exact LeO.refl _)
   | (with_reducible exact LeO.none _)
   | (with_reducible refine LeO.ite ?_ ?_)
   | (with_reducible refine LeO.bind ?_ (fun _ => ?_))
   | exact ih0 _ _ _ _ _ _ _ _ _ _
   | exact Rf_Worst.mono _ _ _ _ _ _
   | exact LeO.none _
   | refine LeO.ite ?_ ?_
   | refine LeO.bind ?_ (fun _ => ?_)
def Rf_Best.T1 : Bool × List (List Nat × List Nat) := (true, [([], []), ([0], [0]), ([1], [1]), ([], []), ([], []), ([4], [4]), ([5], [5]), ([3, 6], [3, 6]), ([], []), ([2, 7, 0, 1, 2, 8], [2]), ([8, 7, 9, 0, 1, 2, 3, 4, 5, 6, 7, 8, 9], [7, 8])])
def Rf_Best.B1 : List Nat := [0, 1, 3, 0, 0, 16, 48, 120, 0, 511, 1023]
theorem Rf_Best.tab1 : rtab .any (opsOf Tryd.f68 1) = Rf_Best.T1 := by kernel_rfl
theorem Rf_Best.bits1 : waitsOk Rf_Best.T1.2 Rf_Best.B1 = true := by kernel_rfl
def Rf_Best.T5 : Bool × List (List Nat × List Nat) := (true, [([], []), ([], []), ([], []), ([1, 2], [1, 2]), ([3], [3]), ([0, 4], [0, 4]), ([], []), ([6, 5, 5, 0, 1, 2, 3, 4, 5, 6], [5, 6])])
def Rf_Best.B5 : List Nat := [0, 0, 0, 6, 14, 31, 0, 127]
theorem Rf_Best.tab5 : rtab .any (opsOf Tryd.f68 5) = Rf_Best.T5 := by kernel_rfl
theorem Rf_Best.bits5 : waitsOk Rf_Best.T5.2 Rf_Best.B5 = true := by kernel_rfl
theorem Rf_Best.calls (k : Nat) (A0_0 : Option Addr) (c0_0 : Nat) (l0_0 : List Int) (A0_1 : Option Addr) (c0_1 : Nat) (l0_1 : List Int) (a0_2 : Int) (a0_3 : Int) (A1 : Option Addr) (c1 : Nat) (l1 : List Int) (r1 : Int) (r2 : Int) (r3 : Int) (r4 : Int) (w : World) (hr0_0 : Kd.C (Kd.int .i64) w A0_0 l0_0.length l0_0) (hc0_0 : l0_0.length ≤ c0_0) (hr0_1 : Kd.C (Kd.int .i64) w A0_1 l0_1.length l0_1) (hc0_1 : l0_1.length ≤ c0_1) (hr1 : Kd.C (Kd.int .i64) w A1 l1.length l1) (hc1 : l1.length ≤ c1) (h : Rf_Best.f k l0_0 l0_1 a0_2 a0_3 l1 = some (r1, r2, r3, r4)) :
  Calls Tryd.prog 68 #[.agg #[.slice A0_0 l0_0.length c0_0, .slice A0_1 l0_1.length c0_1, .int .i64 a0_2, .int .i64 a0_3], .slice A1 l1.length c1] w fun e w' => e = .returned (.tuple #[.int .i64 r1, .agg #[.int .i64 r2, .int .i64 r3, .int .i64 r4]]) ∧ Below w.heap.size w w' := by
 have hu28 := Tryd.underlying28
 have hu36 := Tryd.underlying36
 have hu26 := Tryd.underlying26
 have HR0_0 := m0 hr0_0
 have HC0_0 := m0 hc0_0
 clear hr0_0 hc0_0
 have HR0_1 := m0 hr0_1
 have HC0_1 := m0 hc0_1
 clear hr0_1 hc0_1
 have HR1 := m0 hr1
 have HC1 := m0 hc1
 clear hr1 hc1
 have HB := m0 (Below.refl w.heap.size w)
 have H : (if 0 < (l1.length : Int) then ((Rf_Worst.f k l0_0 l0_1 a0_2 a0_3 (rd l1 0)).bind fun bt1411 => (Rf_Best.l0 k l1 (rd l1 0) 1 l0_0 l0_1 a0_2 a0_3 bt1411.1 bt1411.2.1 bt1411.2.2)) else (none)) = some (r1, r2, r3, r4) := h
 clear h
 by_cases c3 : 0 < (l1.length : Int)
 ·rw [if_pos c3] at H
  have c3b0 := decide_eq_true c3
  have c3b1 : decide (0 < l1.length) = true := decide_eq_true (by omega)
  clear c3
  replace H := ob H
  obtain ⟨⟨t1411, t1412, t1413⟩, A40, H⟩ := H
  (try dsimp only at H)
  have A4 := m0 A40
  clear A40
  have H' := m0 H
  clear H
  go_enter Tryd.func68, Tryd.ntmps68
  try go_wp2_with (first | ((with_reducible refine gate_dst (N := 2) rfl ?_); refine be 2 28 #[.slice A0_0 l0_0.length c0_0, .slice A0_1 l0_1.length c0_1, .int .i64 a0_2, .int .i64 a0_3] ?_; intro gb1407 hg w5 hbox hb; have BK1407 := m0 hbox; have GW1407 := m0 (bg (n := w.heap.size) hg); have GE1407 := m0 (bg (n := w.heap.size) hg); replace HB := sb HB hb; clear hb hbox hg) | ((with_reducible refine gate_dst (N := 5) rfl ?_); refine be 5 36 #[.int .i64 0, .int .i64 0, .int .i64 0] ?_; intro gb1408 hg w6 hbox hb; have BK1408 := m0 hbox; have GW1408 := m0 (bg (n := w.heap.size) hg); have GE1408 := m0 (bg (n := w.heap.size) hg); replace HB := sb HB hb; have NB1407_1408 := nl BK1407 hg; have NB1408_1407 := ng (nl BK1407 hg); replace BK1407 := bb BK1407 hb; clear hb hbox hg))
  replace BK1407 := bd BK1407; replace BK1408 := bd BK1408; replace HB := sd HB
  have p1409 : 0 ≤ (0 : Int) := (by omega)
  have q1409 : 0 < (l1.length : Int) := of_decide_eq_true (by first | (with_reducible assumption) | assumption)
  obtain ⟨ad1409, e1409, hx1409_0⟩ := Kd.at_int HR1.out 0 p1409 q1409
  have hw1409_0 := hx1409_0
  (try rw [show ((0 : Int)).toNat = 0 from rfl] at hw1409_0)
  (try rw [show 0 * 1 = 0 from rfl] at hw1409_0)
  (try rw [Addr.add_zero'] at hw1409_0)
  cases e1409
  have qi1409 : (0 < l1.length) = True := eq_true (by omega)
  (try rw [show ((0 : Int)).toNat = 0 from rfl] at hx1409_0)
  (try rw [Addr.add_zero'] at hx1409_0)
  replace hx1409_0 := (HB.out.cell (World.block_lt_of_cell? w _ hx1409_0)).trans hx1409_0
  replace p1409 := eq_true p1409
  replace q1409 := eq_true q1409
  have p1410 : 0 ≤ (0 : Int) := (by omega)
  have q1410 : 0 < (l1.length : Int) := of_decide_eq_true (by first | (with_reducible assumption) | assumption)
  obtain ⟨ad1410, e1410, hx1410_0⟩ := Kd.at_int HR1.out 0 p1410 q1410
  have hw1410_0 := hx1410_0
  (try rw [show ((0 : Int)).toNat = 0 from rfl] at hw1410_0)
  (try rw [show 0 * 1 = 0 from rfl] at hw1410_0)
  (try rw [Addr.add_zero'] at hw1410_0)
  obtain rfl : ad1409 = ad1410 := (by injection e1410)
  have qi1410 : (0 < l1.length) = True := eq_true (by omega)
  (try rw [show ((0 : Int)).toNat = 0 from rfl] at hx1410_0)
  (try rw [Addr.add_zero'] at hx1410_0)
  replace hx1410_0 := (HB.out.cell (World.block_lt_of_cell? w _ hx1410_0)).trans hx1410_0
  replace p1410 := eq_true p1410
  replace q1410 := eq_true q1410
  refine start_ (n := 11) (S := fun w' => w'.cell? ⟨gb1407, 0, none⟩ = some (.slice A0_0 l0_0.length c0_0) ∧ w'.cell? ⟨gb1407, 1, none⟩ = some (.slice A0_1 l0_1.length c0_1) ∧ w'.cell? ⟨gb1407, 2, none⟩ = some (.int .i64 a0_2) ∧ w'.cell? ⟨gb1407, 3, none⟩ = some (.int .i64 a0_3) ∧ w'.cell? ad1409 = some (.int .i64 (rd l1 0)) ∧ w'.cell? ad1409 = some (.int .i64 (rd l1 0))) (ds := []) #[false, false, false, false, false, false, false, false, false, false, false] (by kernel_rfl) rfl rfl ⟨(blk_cell BK1407.out 0).trans rfl, (blk_cell BK1407.out 1).trans rfl, (blk_cell BK1407.out 2).trans rfl, (blk_cell BK1407.out 3).trans rfl, ((HB.out.cell (World.block_lt_of_cell? w _ hw1409_0)).trans hw1409_0), ((HB.out.cell (World.block_lt_of_cell? w _ hw1410_0)).trans hw1410_0)⟩ (fun hHeld => ?_); refine with_tabW Rf_Best.tab1 Rf_Best.bits1 (fun HT_ HW_ => ?_)
  generalize w6.drew = w7 at BK1407 BK1408 HB hx1409_0 hx1410_0 hHeld ⊢
  refine pureZ (i := 0) (N := some 10) #[true, false, false, false, false, false, false, false, false, false, false] HT_ ?_
  refine pureZ (i := 1) (N := some 11) #[true, true, false, false, false, false, false, false, false, false, false] HT_ ?_
  refine pureZ (i := 4) (N := some 14) #[true, true, false, false, true, false, false, false, false, false, false] HT_ ?_
  refine pureZ (i := 5) (N := some 15) #[true, true, false, false, true, true, false, false, false, false, false] HT_ ?_
  refine takeZ 2 (some 12) #[true, true, true, false, true, true, false, false, false, false, false] (take_ofW HT_.out HW_.out (by kernel_rfl)) hHeld ?_
  refine takeZ 3 (some 13) #[true, true, true, true, true, true, false, false, false, false, false] (take_ofW HT_.out HW_.out (by kernel_rfl)) hHeld ?_
  refine takeZ 6 (some 16) #[true, true, true, true, true, true, true, false, false, false, false] (take_ofW HT_.out HW_.out (by kernel_rfl)) hHeld ?_
  refine join_ (σ := Nat) 2 #[true, true, true, true, true, true, true, true, true, false, false] (fun s_ => [(17, .agg #[.int .i64 t1411, .int .i64 t1412, .int .i64 t1413]), (7, .pointer (some ⟨s_, 0, none⟩))]) (fun s_ w' => (w'.cell? ⟨gb1407, 0, none⟩ = some (.slice A0_0 l0_0.length c0_0) ∧ w'.cell? ⟨gb1407, 1, none⟩ = some (.slice A0_1 l0_1.length c0_1) ∧ w'.cell? ⟨gb1407, 2, none⟩ = some (.int .i64 a0_2) ∧ w'.cell? ⟨gb1407, 3, none⟩ = some (.int .i64 a0_3) ∧ w'.cell? ad1409 = some (.int .i64 (rd l1 0)) ∧ w'.cell? ad1409 = some (.int .i64 (rd l1 0))) ∧ (w'.heap[gb1407]? = some (.cells #[.slice A0_0 l0_0.length c0_0, .slice A0_1 l0_1.length c0_1, .int .i64 a0_2, .int .i64 a0_3] 28 (0, 0))) ∧ (w'.heap[gb1408]? = some (.cells #[.int .i64 0, .int .i64 0, .int .i64 0] 36 (0, 0))) ∧ (w'.heap[s_]? = some (.cells #[.int .i64 0, .int .i64 0, .int .i64 0] 36 (0, 0))) ∧ (w.heap.size ≤ s_) ∧ (w.heap.size ≤ s_) ∧ (gb1407 ≠ s_) ∧ (s_ ≠ gb1407) ∧ (gb1408 ≠ s_) ∧ (s_ ≠ gb1408) ∧ (Below w.heap.size w w')) ?_ ?_
  rotate_left
  ·intro hCont
   refine two_ (i := 7) (j := 8) (Ni := some 17) (Nj := some 7) #[true, true, true, true, true, true, true, true, false, false, false] #[true, true, true, true, true, true, true, false, true, false, false] rfl rfl rfl rfl (two_of HT_.out (by kernel_rfl)) (by decide) (by decide) (fun K hK => ?_) (fun K hK => ?_)
   ·skip
    refine goes_ Tryd.func25 (by kernel_rfl) rfl #[.agg #[.slice A0_0 l0_0.length c0_0, .slice A0_1 l0_1.length c0_1, .int .i64 a0_2, .int .i64 a0_3], .int .i64 (rd l1 0)] (by rfl) rfl rfl mz ?_
    with_reducible refine (Rf_Worst.calls k _ _ l0_0 _ _ l0_1 a0_2 a0_3 (rd l1 0) t1411 t1412 t1413 _ ?side1 ?side2 ?side3 ?side4 A4.out).mono ?_
    (case side1 => exact cb HR0_0 HB)
    (case side2 => exact HC0_0.out)
    (case side3 => exact cb HR0_1 HB)
    (case side4 => exact HC0_1.out)
    rintro e w8 ⟨rfl, hb⟩
    refine ⟨_, rfl, ?_⟩
    replace BK1407 := bb BK1407 hb; replace BK1408 := bb BK1408 hb; replace HB := sb HB hb
    (try clear hb)
    refine hK.out _ _ ⟨(blk_cell BK1407.out 0).trans rfl, (blk_cell BK1407.out 1).trans rfl, (blk_cell BK1407.out 2).trans rfl, (blk_cell BK1407.out 3).trans rfl, ((HB.out.cell (World.block_lt_of_cell? w _ hw1409_0)).trans hw1409_0), ((HB.out.cell (World.block_lt_of_cell? w _ hw1410_0)).trans hw1410_0)⟩ (fun hHeld => ?_)
    clear hK K
    refine norm_ (a' := ?_) ?_ ?_
    rotate_left
    ·show Act.put _ (some 17) _ = _
     exact pz
    refine oneZ 8 (some 7) #[true, true, true, true, true, true, true, true, true, false, false] (one_of HT_.out (by kernel_rfl)) fun K hK => ?_
    refine box_step ?hg (N := 7) ?hd (cs := #[.int .i64 0, .int .i64 0, .int .i64 0]) (t := 36) ?hr ?_; (case hd => rfl); (case hg => rfl); (case hr => first | (go_simp; done) | (go_simp; rfl))
    intro gb1414 hg w9 hbox hb
    have BK1414 := m0 hbox; have GW1414 := m0 (bg (n := w.heap.size) hg); have GE1414 := m0 (bg (n := w.heap.size) hg); replace HB := sb HB hb; have NB1407_1414 := nl BK1407 hg; have NB1414_1407 := ng (nl BK1407 hg); replace BK1407 := bb BK1407 hb; have NB1408_1414 := nl BK1408 hg; have NB1414_1408 := ng (nl BK1408 hg); replace BK1408 := bb BK1408 hb
    clear hb hbox hg
    refine hK.out _ _ ⟨(blk_cell BK1407.out 0).trans rfl, (blk_cell BK1407.out 1).trans rfl, (blk_cell BK1407.out 2).trans rfl, (blk_cell BK1407.out 3).trans rfl, ((HB.out.cell (World.block_lt_of_cell? w _ hw1409_0)).trans hw1409_0), ((HB.out.cell (World.block_lt_of_cell? w _ hw1410_0)).trans hw1410_0)⟩ (fun hHeld => ?_)
    clear hK K
    refine norm_ (a' := ?_) ?_ ?_
    rotate_left
    ·show Act.put _ (some 7) _ = _
     exact pz
    exact norm_ (by simp only [putAll, Act.put, List.setIfInBounds_toArray, List.set_cons_zero, List.set_cons_succ]) (hCont (gb1414) _ ⟨hHeld, (bk BK1407.out), (bk BK1408.out), (bk BK1414.out), GW1414.out, GE1414.out, NB1407_1414.out, NB1414_1407.out, NB1408_1414.out, NB1414_1408.out, bz⟩)
   ·skip
    refine box_step ?hg (N := 7) ?hd (cs := #[.int .i64 0, .int .i64 0, .int .i64 0]) (t := 36) ?hr ?_; (case hd => rfl); (case hg => rfl); (case hr => first | (go_simp; done) | (go_simp; rfl))
    intro gb1414 hg w8 hbox hb
    have BK1414 := m0 hbox; have GW1414 := m0 (bg (n := w.heap.size) hg); have GE1414 := m0 (bg (n := w.heap.size) hg); replace HB := sb HB hb; have NB1407_1414 := nl BK1407 hg; have NB1414_1407 := ng (nl BK1407 hg); replace BK1407 := bb BK1407 hb; have NB1408_1414 := nl BK1408 hg; have NB1414_1408 := ng (nl BK1408 hg); replace BK1408 := bb BK1408 hb
    clear hb hbox hg
    refine hK.out _ _ ⟨(blk_cell BK1407.out 0).trans rfl, (blk_cell BK1407.out 1).trans rfl, (blk_cell BK1407.out 2).trans rfl, (blk_cell BK1407.out 3).trans rfl, ((HB.out.cell (World.block_lt_of_cell? w _ hw1409_0)).trans hw1409_0), ((HB.out.cell (World.block_lt_of_cell? w _ hw1410_0)).trans hw1410_0)⟩ (fun hHeld => ?_)
    clear hK K
    refine norm_ (a' := ?_) ?_ ?_
    rotate_left
    ·show Act.put _ (some 7) _ = _
     exact pz
    refine oneZ 7 (some 17) #[true, true, true, true, true, true, true, true, true, false, false] (one_of HT_.out (by kernel_rfl)) fun K hK => ?_
    refine goes_ Tryd.func25 (by kernel_rfl) rfl #[.agg #[.slice A0_0 l0_0.length c0_0, .slice A0_1 l0_1.length c0_1, .int .i64 a0_2, .int .i64 a0_3], .int .i64 (rd l1 0)] (by rfl) rfl rfl mz ?_
    with_reducible refine (Rf_Worst.calls k _ _ l0_0 _ _ l0_1 a0_2 a0_3 (rd l1 0) t1411 t1412 t1413 _ ?side1 ?side2 ?side3 ?side4 A4.out).mono ?_
    (case side1 => exact cb HR0_0 HB)
    (case side2 => exact HC0_0.out)
    (case side3 => exact cb HR0_1 HB)
    (case side4 => exact HC0_1.out)
    rintro e w9 ⟨rfl, hb⟩
    refine ⟨_, rfl, ?_⟩
    replace BK1407 := bb BK1407 hb; replace BK1408 := bb BK1408 hb; replace BK1414 := bb BK1414 hb; replace HB := sb HB hb
    (try clear hb)
    refine hK.out _ _ ⟨(blk_cell BK1407.out 0).trans rfl, (blk_cell BK1407.out 1).trans rfl, (blk_cell BK1407.out 2).trans rfl, (blk_cell BK1407.out 3).trans rfl, ((HB.out.cell (World.block_lt_of_cell? w _ hw1409_0)).trans hw1409_0), ((HB.out.cell (World.block_lt_of_cell? w _ hw1410_0)).trans hw1410_0)⟩ (fun hHeld => ?_)
    clear hK K
    refine norm_ (a' := ?_) ?_ ?_
    rotate_left
    ·show Act.put _ (some 17) _ = _
     exact pz
    exact norm_ (by simp only [putAll, Act.put, List.setIfInBounds_toArray, List.set_cons_zero, List.set_cons_succ]) (hCont (gb1414) _ ⟨hHeld, (bk BK1407.out), (bk BK1408.out), (bk BK1414.out), GW1414.out, GE1414.out, NB1407_1414.out, NB1414_1407.out, NB1408_1414.out, NB1414_1408.out, bz⟩)
  rintro gb1414 w10 ⟨hS_, h0_, h1_, h2_, h3_, h4_, h5_, h6_, h7_, h8_, h9_⟩
  have n0_ : Aside0 (w10.heap[gb1407]? = some (.cells #[.slice A0_0 l0_0.length c0_0, .slice A0_1 l0_1.length c0_1, .int .i64 a0_2, .int .i64 a0_3] 28 (0, 0))) := ⟨h0_⟩
  have n1_ : Aside0 (w10.heap[gb1408]? = some (.cells #[.int .i64 0, .int .i64 0, .int .i64 0] 36 (0, 0))) := ⟨h1_⟩
  have n2_ : Aside0 (w10.heap[gb1414]? = some (.cells #[.int .i64 0, .int .i64 0, .int .i64 0] 36 (0, 0))) := ⟨h2_⟩
  have n3_ : Aside0 (w.heap.size ≤ gb1414) := ⟨h3_⟩
  have n4_ : Aside0 (w.heap.size ≤ gb1414) := ⟨h4_⟩
  have n5_ : Aside0 (gb1407 ≠ gb1414) := ⟨h5_⟩
  have n6_ : Aside0 (gb1414 ≠ gb1407) := ⟨h6_⟩
  have n7_ : Aside0 (gb1408 ≠ gb1414) := ⟨h7_⟩
  have n8_ : Aside0 (gb1414 ≠ gb1408) := ⟨h8_⟩
  have n9_ : Aside0 (Below w.heap.size w w10) := ⟨h9_⟩
  clear BK1407
  clear BK1408
  clear HB
  clear h0_ h1_ h2_ h3_ h4_ h5_ h6_ h7_ h8_ h9_
  have BK1407 := n0_
  have BK1408 := n1_
  have BK1414 := n2_
  have GW1414 := n3_
  have GE1414 := n4_
  have NB1407_1414 := n5_
  have NB1414_1407 := n6_
  have NB1408_1414 := n7_
  have NB1414_1408 := n8_
  have HB := n9_
  clear n0_ n1_ n2_ n3_ n4_ n5_ n6_ n7_ n8_ n9_
  have hHeld : w10.cell? ⟨gb1407, 0, none⟩ = some (.slice A0_0 l0_0.length c0_0) ∧ w10.cell? ⟨gb1407, 1, none⟩ = some (.slice A0_1 l0_1.length c0_1) ∧ w10.cell? ⟨gb1407, 2, none⟩ = some (.int .i64 a0_2) ∧ w10.cell? ⟨gb1407, 3, none⟩ = some (.int .i64 a0_3) ∧ w10.cell? ad1409 = some (.int .i64 (rd l1 0)) ∧ w10.cell? ad1409 = some (.int .i64 (rd l1 0)) := hS_
  refine norm_ (a' := ?_) ?_ ?_
  rotate_left
  ·simp only [putAll, Act.put, List.setIfInBounds_toArray, List.set_cons_zero, List.set_cons_succ]
   rfl
  refine pureZ (i := 9) (N := some 6) #[true, true, true, true, true, true, true, true, true, true, false] HT_ ?_
  refine oneZ 10 (none) #[true, true, true, true, true, true, true, true, true, true, true] (one_of HT_.out (by kernel_rfl)) fun K hK => ?_
  have hs11 : w10.cell? ⟨gb1414, 0, none⟩ = some (.int .i64 0) := (blk_cell BK1414.out 0).trans rfl
  have hfs11 := blk_frozen BK1414.out 0
  have hns11_0 := NB1407_1414.out
  have hns11_1 := NB1408_1414.out
  have hms11_0 := NB1414_1407.out
  have hms11_1 := NB1414_1408.out
  have hs12 : w10.cell? ⟨gb1414, 1, none⟩ = some (.int .i64 0) := (blk_cell BK1414.out 1).trans rfl
  have hfs12 := blk_frozen BK1414.out 1
  have hns12_0 := NB1407_1414.out
  have hns12_1 := NB1408_1414.out
  have hms12_0 := NB1414_1407.out
  have hms12_1 := NB1414_1408.out
  have hs13 : w10.cell? ⟨gb1414, 2, none⟩ = some (.int .i64 0) := (blk_cell BK1414.out 2).trans rfl
  have hfs13 := blk_frozen BK1414.out 2
  have hns13_0 := NB1407_1414.out
  have hns13_1 := NB1408_1414.out
  have hms13_0 := NB1414_1407.out
  have hms13_1 := NB1414_1408.out
  refine skip_ (w1 := ?_) (by rfl) rfl ?_ ?_
  rotate_left
  ·go_simp
   rfl
  refine hK.out _ _ ⟨((cell_far (p := ⟨gb1414, _, none⟩) NB1407_1414.out _).trans (((cell_far (p := ⟨gb1414, _, none⟩) NB1407_1414.out _).trans (((cell_far (p := ⟨gb1414, _, none⟩) NB1407_1414.out _).trans (hHeld.1)))))), ((cell_far (p := ⟨gb1414, _, none⟩) NB1407_1414.out _).trans (((cell_far (p := ⟨gb1414, _, none⟩) NB1407_1414.out _).trans (((cell_far (p := ⟨gb1414, _, none⟩) NB1407_1414.out _).trans (hHeld.2.1)))))), ((cell_far (p := ⟨gb1414, _, none⟩) NB1407_1414.out _).trans (((cell_far (p := ⟨gb1414, _, none⟩) NB1407_1414.out _).trans (((cell_far (p := ⟨gb1414, _, none⟩) NB1407_1414.out _).trans (hHeld.2.2.1)))))), ((cell_far (p := ⟨gb1414, _, none⟩) NB1407_1414.out _).trans (((cell_far (p := ⟨gb1414, _, none⟩) NB1407_1414.out _).trans (((cell_far (p := ⟨gb1414, _, none⟩) NB1407_1414.out _).trans (hHeld.2.2.2.1)))))), ((cell_far (p := ⟨gb1414, _, none⟩) (by first | exact Nat.ne_of_lt (Nat.lt_of_lt_of_le (by have := World.block_lt_of_cell? _ _ hw1409_0; first | rwa [add_block] at this | exact this) GW1414.out) | (rw [add_block]; exact Nat.ne_of_lt (Nat.lt_of_lt_of_le (by have := World.block_lt_of_cell? _ _ hw1409_0; first | rwa [add_block] at this | exact this) GW1414.out)) | (show (Addr.add _ _).block ≠ _; rw [add_block]; exact Nat.ne_of_lt (Nat.lt_of_lt_of_le (by have := World.block_lt_of_cell? _ _ hw1409_0; first | rwa [add_block] at this | exact this) GW1414.out)) | (dsimp only; exact Nat.ne_of_lt (Nat.lt_of_lt_of_le (by have := World.block_lt_of_cell? _ _ hw1409_0; first | rwa [add_block] at this | exact this) GW1414.out))) _).trans (((cell_far (p := ⟨gb1414, _, none⟩) (by first | exact Nat.ne_of_lt (Nat.lt_of_lt_of_le (by have := World.block_lt_of_cell? _ _ hw1409_0; first | rwa [add_block] at this | exact this) GW1414.out) | (rw [add_block]; exact Nat.ne_of_lt (Nat.lt_of_lt_of_le (by have := World.block_lt_of_cell? _ _ hw1409_0; first | rwa [add_block] at this | exact this) GW1414.out)) | (show (Addr.add _ _).block ≠ _; rw [add_block]; exact Nat.ne_of_lt (Nat.lt_of_lt_of_le (by have := World.block_lt_of_cell? _ _ hw1409_0; first | rwa [add_block] at this | exact this) GW1414.out)) | (dsimp only; exact Nat.ne_of_lt (Nat.lt_of_lt_of_le (by have := World.block_lt_of_cell? _ _ hw1409_0; first | rwa [add_block] at this | exact this) GW1414.out))) _).trans (((cell_far (p := ⟨gb1414, _, none⟩) (by first | exact Nat.ne_of_lt (Nat.lt_of_lt_of_le (by have := World.block_lt_of_cell? _ _ hw1409_0; first | rwa [add_block] at this | exact this) GW1414.out) | (rw [add_block]; exact Nat.ne_of_lt (Nat.lt_of_lt_of_le (by have := World.block_lt_of_cell? _ _ hw1409_0; first | rwa [add_block] at this | exact this) GW1414.out)) | (show (Addr.add _ _).block ≠ _; rw [add_block]; exact Nat.ne_of_lt (Nat.lt_of_lt_of_le (by have := World.block_lt_of_cell? _ _ hw1409_0; first | rwa [add_block] at this | exact this) GW1414.out)) | (dsimp only; exact Nat.ne_of_lt (Nat.lt_of_lt_of_le (by have := World.block_lt_of_cell? _ _ hw1409_0; first | rwa [add_block] at this | exact this) GW1414.out))) _).trans (hHeld.2.2.2.2.1)))))), ((cell_far (p := ⟨gb1414, _, none⟩) (by first | exact Nat.ne_of_lt (Nat.lt_of_lt_of_le (by have := World.block_lt_of_cell? _ _ hw1410_0; first | rwa [add_block] at this | exact this) GW1414.out) | (rw [add_block]; exact Nat.ne_of_lt (Nat.lt_of_lt_of_le (by have := World.block_lt_of_cell? _ _ hw1410_0; first | rwa [add_block] at this | exact this) GW1414.out)) | (show (Addr.add _ _).block ≠ _; rw [add_block]; exact Nat.ne_of_lt (Nat.lt_of_lt_of_le (by have := World.block_lt_of_cell? _ _ hw1410_0; first | rwa [add_block] at this | exact this) GW1414.out)) | (dsimp only; exact Nat.ne_of_lt (Nat.lt_of_lt_of_le (by have := World.block_lt_of_cell? _ _ hw1410_0; first | rwa [add_block] at this | exact this) GW1414.out))) _).trans (((cell_far (p := ⟨gb1414, _, none⟩) (by first | exact Nat.ne_of_lt (Nat.lt_of_lt_of_le (by have := World.block_lt_of_cell? _ _ hw1410_0; first | rwa [add_block] at this | exact this) GW1414.out) | (rw [add_block]; exact Nat.ne_of_lt (Nat.lt_of_lt_of_le (by have := World.block_lt_of_cell? _ _ hw1410_0; first | rwa [add_block] at this | exact this) GW1414.out)) | (show (Addr.add _ _).block ≠ _; rw [add_block]; exact Nat.ne_of_lt (Nat.lt_of_lt_of_le (by have := World.block_lt_of_cell? _ _ hw1410_0; first | rwa [add_block] at this | exact this) GW1414.out)) | (dsimp only; exact Nat.ne_of_lt (Nat.lt_of_lt_of_le (by have := World.block_lt_of_cell? _ _ hw1410_0; first | rwa [add_block] at this | exact this) GW1414.out))) _).trans (((cell_far (p := ⟨gb1414, _, none⟩) (by first | exact Nat.ne_of_lt (Nat.lt_of_lt_of_le (by have := World.block_lt_of_cell? _ _ hw1410_0; first | rwa [add_block] at this | exact this) GW1414.out) | (rw [add_block]; exact Nat.ne_of_lt (Nat.lt_of_lt_of_le (by have := World.block_lt_of_cell? _ _ hw1410_0; first | rwa [add_block] at this | exact this) GW1414.out)) | (show (Addr.add _ _).block ≠ _; rw [add_block]; exact Nat.ne_of_lt (Nat.lt_of_lt_of_le (by have := World.block_lt_of_cell? _ _ hw1410_0; first | rwa [add_block] at this | exact this) GW1414.out)) | (dsimp only; exact Nat.ne_of_lt (Nat.lt_of_lt_of_le (by have := World.block_lt_of_cell? _ _ hw1410_0; first | rwa [add_block] at this | exact this) GW1414.out))) _).trans (hHeld.2.2.2.2.2))))))⟩ (fun hHeld => ?_)
  clear hK K
  refine done_ (done_of HT_.out (by kernel_rfl)) ?_
  try go_wp2
  go_loopg [6, 8] k (fun kq v6 v8 w' => ∃ (x6_1 : Int) (x8_1 : Int) (x1415000_1 : Int) (x1415001_1 : Int) (x1415002_1 : Int), v6 = .int .i64 x6_1 ∧ v8 = .int .i64 x8_1 ∧ Aside0 (Rf_Best.l0 kq l1 x6_1 x8_1 l0_0 l0_1 a0_2 a0_3 x1415000_1 x1415001_1 x1415002_1 = some (r1, r2, r3, r4)) ∧ Aside0 (kq ≤ k) ∧ Aside0 (w'.heap[gb1407]? = some (.cells #[(.slice A0_0 l0_0.length c0_0), (.slice A0_1 l0_1.length c0_1), .int .i64 a0_2, .int .i64 a0_3] 28 (0, 0))) ∧ Aside0 (w'.heap[gb1408]? = some (.cells #[.int .i64 0, .int .i64 0, .int .i64 0] 36 (0, 0))) ∧ Aside0 (w'.heap[gb1414]? = some (.cells #[.int .i64 x1415000_1, .int .i64 x1415001_1, .int .i64 x1415002_1] 36 (0, 0))) ∧ Aside0 (Below w.heap.size w w'))
  case atStart => exact ⟨(rd l1 0), (1), (t1411), (t1412), (t1413), (by first | rfl | (simp; done) | (simp [*]; done)), (by first | rfl | (simp; done) | (simp [*]; done)), H', ⟨Nat.le_refl _⟩, ⟨bq BK1407.out⟩, ⟨bq BK1408.out⟩, ⟨bq BK1414.out⟩, ⟨bz⟩⟩
  case round =>
   clear H'
   try clear c1
   try clear p1
   try clear q1
   try clear hx1
   try clear qi1
   try clear c2
   try clear p2
   try clear c3
   try clear c3b0
   try clear c3b1
   try clear c6
   try clear hx1409_0
   try clear hx1410_0
   try clear p1409
   try clear p1410
   try clear q1409
   try clear q1410
   obtain ⟨x6_1, x8_1, x1415000_1, x1415001_1, x1415002_1, rfl, rfl, HA, HK1, BK1407, BK1408, BK1414, HB⟩ := hrel
   cases gk with
   | zero => exact absurd HA.out (by simp [Rf_Best.l0])
   | succ k1 =>
    have H := HA.out
    clear HA
    simp only [Rf_Best.l0] at H
    by_cases c14 : x8_1 < (l1.length : Int)
    ·rw [if_pos c14] at H
     have c14b0 := decide_eq_true c14
     clear c14
     by_cases c15 : 0 ≤ x8_1
     ·rw [if_pos c15] at H
      have c15b0 := decide_eq_true c15
      clear c15
      replace H := ob H
      obtain ⟨⟨t1416, t1417, t1418⟩, A160, H⟩ := H
      (try dsimp only at H)
      have A16 := m0 A160
      clear A160
      replace H := ob H
      obtain ⟨t1420, A170, H⟩ := H
      (try dsimp only at H)
      have A17 := m0 A170
      clear A170
      by_cases c18 : t1420 < 0
      ·rw [if_pos c18] at H
       have c18b0 := decide_eq_true c18
       clear c18
       have H' := m0 H
       clear H
       try go_wp2
       replace BK1407 := bd BK1407; replace BK1408 := bd BK1408; replace BK1414 := bd BK1414; replace HB := sd HB
       have p1415 : 0 ≤ (x8_1 : Int) := of_decide_eq_true (by first | (with_reducible assumption) | assumption)
       have q1415 : x8_1 < (l1.length : Int) := of_decide_eq_true (by first | (with_reducible assumption) | assumption)
       obtain ⟨ad1415, e1415, hx1415_0⟩ := Kd.at_int HR1.out x8_1 p1415 q1415
       have hw1415_0 := hx1415_0
       obtain rfl : ad1409 = ad1415 := (by injection e1415)
       replace hx1415_0 := (HB.out.cell (World.block_lt_of_cell? w _ hx1415_0)).trans hx1415_0
       replace p1415 := eq_true p1415
       replace q1415 := eq_true q1415
       refine start_ (n := 8) (S := fun w' => w'.cell? ⟨gb1407, 0, none⟩ = some (.slice A0_0 l0_0.length c0_0) ∧ w'.cell? ⟨gb1407, 1, none⟩ = some (.slice A0_1 l0_1.length c0_1) ∧ w'.cell? ⟨gb1407, 2, none⟩ = some (.int .i64 a0_2) ∧ w'.cell? ⟨gb1407, 3, none⟩ = some (.int .i64 a0_3) ∧ w'.cell? (ad1409.add (x8_1).toNat) = some (.int .i64 (rd l1 x8_1))) (ds := []) #[false, false, false, false, false, false, false, false] (by kernel_rfl) rfl rfl ⟨(blk_cell BK1407.out 0).trans rfl, (blk_cell BK1407.out 1).trans rfl, (blk_cell BK1407.out 2).trans rfl, (blk_cell BK1407.out 3).trans rfl, ((HB.out.cell (World.block_lt_of_cell? w _ hw1415_0)).trans hw1415_0)⟩ (fun hHeld => ?_); refine with_tabW Rf_Best.tab5 Rf_Best.bits5 (fun HT_ HW_ => ?_)
       generalize wr.drew = w19 at BK1407 BK1408 BK1414 HB hx1415_0 hHeld ⊢
       refine pureZ (i := 1) (N := some 25) #[false, true, false, false, false, false, false, false] HT_ ?_
       refine pureZ (i := 2) (N := some 26) #[false, true, true, false, false, false, false, false] HT_ ?_
       refine pureZ (i := 3) (N := some 27) #[false, true, true, true, false, false, false, false] HT_ ?_
       refine takeZ 0 (some 24) #[true, true, true, true, false, false, false, false] (take_ofW HT_.out HW_.out (by kernel_rfl)) hHeld ?_
       refine takeZ 4 (some 28) #[true, true, true, true, true, false, false, false] (take_ofW HT_.out HW_.out (by kernel_rfl)) hHeld ?_
       refine join_ (σ := Nat) 1 #[true, true, true, true, true, true, true, false] (fun s_ => [(29, .agg #[.int .i64 t1416, .int .i64 t1417, .int .i64 t1418]), (9, .pointer (some ⟨s_, 0, none⟩))]) (fun s_ w' => (w'.cell? ⟨gb1407, 0, none⟩ = some (.slice A0_0 l0_0.length c0_0) ∧ w'.cell? ⟨gb1407, 1, none⟩ = some (.slice A0_1 l0_1.length c0_1) ∧ w'.cell? ⟨gb1407, 2, none⟩ = some (.int .i64 a0_2) ∧ w'.cell? ⟨gb1407, 3, none⟩ = some (.int .i64 a0_3) ∧ w'.cell? (ad1409.add (x8_1).toNat) = some (.int .i64 (rd l1 x8_1))) ∧ (w'.heap[gb1407]? = some (.cells #[.slice A0_0 l0_0.length c0_0, .slice A0_1 l0_1.length c0_1, .int .i64 a0_2, .int .i64 a0_3] 28 (0, 0))) ∧ (w'.heap[gb1408]? = some (.cells #[.int .i64 0, .int .i64 0, .int .i64 0] 36 (0, 0))) ∧ (w'.heap[gb1414]? = some (.cells #[.int .i64 x1415000_1, .int .i64 x1415001_1, .int .i64 x1415002_1] 36 (0, 0))) ∧ (w'.heap[s_]? = some (.cells #[.int .i64 0, .int .i64 0, .int .i64 0] 36 (0, 0))) ∧ (w.heap.size ≤ s_) ∧ (w.heap.size ≤ s_) ∧ (gb1407 ≠ s_) ∧ (s_ ≠ gb1407) ∧ (gb1408 ≠ s_) ∧ (s_ ≠ gb1408) ∧ (gb1414 ≠ s_) ∧ (s_ ≠ gb1414) ∧ (Below w.heap.size w w')) ?_ ?_
       rotate_left
       ·intro hCont
        refine two_ (i := 5) (j := 6) (Ni := some 29) (Nj := some 9) #[true, true, true, true, true, true, false, false] #[true, true, true, true, true, false, true, false] rfl rfl rfl rfl (two_of HT_.out (by kernel_rfl)) (by decide) (by decide) (fun K hK => ?_) (fun K hK => ?_)
        ·skip
         refine goes_ Tryd.func25 (by kernel_rfl) rfl #[.agg #[.slice A0_0 l0_0.length c0_0, .slice A0_1 l0_1.length c0_1, .int .i64 a0_2, .int .i64 a0_3], .int .i64 (rd l1 x8_1)] (by rfl) rfl rfl mz ?_
         with_reducible refine (Rf_Worst.calls k1 _ _ l0_0 _ _ l0_1 a0_2 a0_3 (rd l1 x8_1) t1416 t1417 t1418 _ ?side1 ?side2 ?side3 ?side4 A16.out).mono ?_
         (case side1 => exact cb HR0_0 HB)
         (case side2 => exact HC0_0.out)
         (case side3 => exact cb HR0_1 HB)
         (case side4 => exact HC0_1.out)
         rintro e w20 ⟨rfl, hb⟩
         refine ⟨_, rfl, ?_⟩
         replace BK1407 := bb BK1407 hb; replace BK1408 := bb BK1408 hb; replace BK1414 := bb BK1414 hb; replace HB := sb HB hb
         (try clear hb)
         refine hK.out _ _ ⟨(blk_cell BK1407.out 0).trans rfl, (blk_cell BK1407.out 1).trans rfl, (blk_cell BK1407.out 2).trans rfl, (blk_cell BK1407.out 3).trans rfl, ((HB.out.cell (World.block_lt_of_cell? w _ hw1415_0)).trans hw1415_0)⟩ (fun hHeld => ?_)
         clear hK K
         refine norm_ (a' := ?_) ?_ ?_
         rotate_left
         ·show Act.put _ (some 29) _ = _
          exact pz
         refine oneZ 6 (some 9) #[true, true, true, true, true, true, true, false] (one_of HT_.out (by kernel_rfl)) fun K hK => ?_
         refine box_step ?hg (N := 9) ?hd (cs := #[.int .i64 0, .int .i64 0, .int .i64 0]) (t := 36) ?hr ?_; (case hd => rfl); (case hg => rfl); (case hr => first | (go_simp; done) | (go_simp; rfl))
         intro gb1419 hg w21 hbox hb
         have BK1419 := m0 hbox; have GW1419 := m0 (bg (n := w.heap.size) hg); have GE1419 := m0 (bg (n := w.heap.size) hg); replace HB := sb HB hb; have NB1407_1419 := nl BK1407 hg; have NB1419_1407 := ng (nl BK1407 hg); replace BK1407 := bb BK1407 hb; have NB1408_1419 := nl BK1408 hg; have NB1419_1408 := ng (nl BK1408 hg); replace BK1408 := bb BK1408 hb; have NB1414_1419 := nl BK1414 hg; have NB1419_1414 := ng (nl BK1414 hg); replace BK1414 := bb BK1414 hb
         clear hb hbox hg
         refine hK.out _ _ ⟨(blk_cell BK1407.out 0).trans rfl, (blk_cell BK1407.out 1).trans rfl, (blk_cell BK1407.out 2).trans rfl, (blk_cell BK1407.out 3).trans rfl, ((HB.out.cell (World.block_lt_of_cell? w _ hw1415_0)).trans hw1415_0)⟩ (fun hHeld => ?_)
         clear hK K
         refine norm_ (a' := ?_) ?_ ?_
         rotate_left
         ·show Act.put _ (some 9) _ = _
          exact pz
         exact norm_ (by simp only [putAll, Act.put, List.setIfInBounds_toArray, List.set_cons_zero, List.set_cons_succ]) (hCont (gb1419) _ ⟨hHeld, (bk BK1407.out), (bk BK1408.out), (bk BK1414.out), (bk BK1419.out), GW1419.out, GE1419.out, NB1407_1419.out, NB1419_1407.out, NB1408_1419.out, NB1419_1408.out, NB1414_1419.out, NB1419_1414.out, bz⟩)
        ·skip
         refine box_step ?hg (N := 9) ?hd (cs := #[.int .i64 0, .int .i64 0, .int .i64 0]) (t := 36) ?hr ?_; (case hd => rfl); (case hg => rfl); (case hr => first | (go_simp; done) | (go_simp; rfl))
         intro gb1419 hg w20 hbox hb
         have BK1419 := m0 hbox; have GW1419 := m0 (bg (n := w.heap.size) hg); have GE1419 := m0 (bg (n := w.heap.size) hg); replace HB := sb HB hb; have NB1407_1419 := nl BK1407 hg; have NB1419_1407 := ng (nl BK1407 hg); replace BK1407 := bb BK1407 hb; have NB1408_1419 := nl BK1408 hg; have NB1419_1408 := ng (nl BK1408 hg); replace BK1408 := bb BK1408 hb; have NB1414_1419 := nl BK1414 hg; have NB1419_1414 := ng (nl BK1414 hg); replace BK1414 := bb BK1414 hb
         clear hb hbox hg
         refine hK.out _ _ ⟨(blk_cell BK1407.out 0).trans rfl, (blk_cell BK1407.out 1).trans rfl, (blk_cell BK1407.out 2).trans rfl, (blk_cell BK1407.out 3).trans rfl, ((HB.out.cell (World.block_lt_of_cell? w _ hw1415_0)).trans hw1415_0)⟩ (fun hHeld => ?_)
         clear hK K
         refine norm_ (a' := ?_) ?_ ?_
         rotate_left
         ·show Act.put _ (some 9) _ = _
          exact pz
         refine oneZ 5 (some 29) #[true, true, true, true, true, true, true, false] (one_of HT_.out (by kernel_rfl)) fun K hK => ?_
         refine goes_ Tryd.func25 (by kernel_rfl) rfl #[.agg #[.slice A0_0 l0_0.length c0_0, .slice A0_1 l0_1.length c0_1, .int .i64 a0_2, .int .i64 a0_3], .int .i64 (rd l1 x8_1)] (by rfl) rfl rfl mz ?_
         with_reducible refine (Rf_Worst.calls k1 _ _ l0_0 _ _ l0_1 a0_2 a0_3 (rd l1 x8_1) t1416 t1417 t1418 _ ?side1 ?side2 ?side3 ?side4 A16.out).mono ?_
         (case side1 => exact cb HR0_0 HB)
         (case side2 => exact HC0_0.out)
         (case side3 => exact cb HR0_1 HB)
         (case side4 => exact HC0_1.out)
         rintro e w21 ⟨rfl, hb⟩
         refine ⟨_, rfl, ?_⟩
         replace BK1407 := bb BK1407 hb; replace BK1408 := bb BK1408 hb; replace BK1414 := bb BK1414 hb; replace BK1419 := bb BK1419 hb; replace HB := sb HB hb
         (try clear hb)
         refine hK.out _ _ ⟨(blk_cell BK1407.out 0).trans rfl, (blk_cell BK1407.out 1).trans rfl, (blk_cell BK1407.out 2).trans rfl, (blk_cell BK1407.out 3).trans rfl, ((HB.out.cell (World.block_lt_of_cell? w _ hw1415_0)).trans hw1415_0)⟩ (fun hHeld => ?_)
         clear hK K
         refine norm_ (a' := ?_) ?_ ?_
         rotate_left
         ·show Act.put _ (some 29) _ = _
          exact pz
         exact norm_ (by simp only [putAll, Act.put, List.setIfInBounds_toArray, List.set_cons_zero, List.set_cons_succ]) (hCont (gb1419) _ ⟨hHeld, (bk BK1407.out), (bk BK1408.out), (bk BK1414.out), (bk BK1419.out), GW1419.out, GE1419.out, NB1407_1419.out, NB1419_1407.out, NB1408_1419.out, NB1419_1408.out, NB1414_1419.out, NB1419_1414.out, bz⟩)
       rintro gb1419 w22 ⟨hS_, h0_, h1_, h2_, h3_, h4_, h5_, h6_, h7_, h8_, h9_, h10_, h11_, h12_⟩
       have n0_ : Aside0 (w22.heap[gb1407]? = some (.cells #[.slice A0_0 l0_0.length c0_0, .slice A0_1 l0_1.length c0_1, .int .i64 a0_2, .int .i64 a0_3] 28 (0, 0))) := ⟨h0_⟩
       have n1_ : Aside0 (w22.heap[gb1408]? = some (.cells #[.int .i64 0, .int .i64 0, .int .i64 0] 36 (0, 0))) := ⟨h1_⟩
       have n2_ : Aside0 (w22.heap[gb1414]? = some (.cells #[.int .i64 x1415000_1, .int .i64 x1415001_1, .int .i64 x1415002_1] 36 (0, 0))) := ⟨h2_⟩
       have n3_ : Aside0 (w22.heap[gb1419]? = some (.cells #[.int .i64 0, .int .i64 0, .int .i64 0] 36 (0, 0))) := ⟨h3_⟩
       have n4_ : Aside0 (w.heap.size ≤ gb1419) := ⟨h4_⟩
       have n5_ : Aside0 (w.heap.size ≤ gb1419) := ⟨h5_⟩
       have n6_ : Aside0 (gb1407 ≠ gb1419) := ⟨h6_⟩
       have n7_ : Aside0 (gb1419 ≠ gb1407) := ⟨h7_⟩
       have n8_ : Aside0 (gb1408 ≠ gb1419) := ⟨h8_⟩
       have n9_ : Aside0 (gb1419 ≠ gb1408) := ⟨h9_⟩
       have n10_ : Aside0 (gb1414 ≠ gb1419) := ⟨h10_⟩
       have n11_ : Aside0 (gb1419 ≠ gb1414) := ⟨h11_⟩
       have n12_ : Aside0 (Below w.heap.size w w22) := ⟨h12_⟩
       clear BK1407
       clear BK1408
       clear BK1414
       clear HB
       clear h0_ h1_ h2_ h3_ h4_ h5_ h6_ h7_ h8_ h9_ h10_ h11_ h12_
       have BK1407 := n0_
       have BK1408 := n1_
       have BK1414 := n2_
       have BK1419 := n3_
       have GW1419 := n4_
       have GE1419 := n5_
       have NB1407_1419 := n6_
       have NB1419_1407 := n7_
       have NB1408_1419 := n8_
       have NB1419_1408 := n9_
       have NB1414_1419 := n10_
       have NB1419_1414 := n11_
       have HB := n12_
       clear n0_ n1_ n2_ n3_ n4_ n5_ n6_ n7_ n8_ n9_ n10_ n11_ n12_
       have hHeld : w22.cell? ⟨gb1407, 0, none⟩ = some (.slice A0_0 l0_0.length c0_0) ∧ w22.cell? ⟨gb1407, 1, none⟩ = some (.slice A0_1 l0_1.length c0_1) ∧ w22.cell? ⟨gb1407, 2, none⟩ = some (.int .i64 a0_2) ∧ w22.cell? ⟨gb1407, 3, none⟩ = some (.int .i64 a0_3) ∧ w22.cell? (ad1409.add (x8_1).toNat) = some (.int .i64 (rd l1 x8_1)) := hS_
       refine norm_ (a' := ?_) ?_ ?_
       rotate_left
       ·simp only [putAll, Act.put, List.setIfInBounds_toArray, List.set_cons_zero, List.set_cons_succ]
        rfl
       refine oneZ 7 (none) #[true, true, true, true, true, true, true, true] (one_of HT_.out (by kernel_rfl)) fun K hK => ?_
       have hs23 : w22.cell? ⟨gb1419, 0, none⟩ = some (.int .i64 0) := (blk_cell BK1419.out 0).trans rfl
       have hfs23 := blk_frozen BK1419.out 0
       have hns23_0 := NB1407_1419.out
       have hns23_1 := NB1408_1419.out
       have hns23_2 := NB1414_1419.out
       have hms23_0 := NB1419_1407.out
       have hms23_1 := NB1419_1408.out
       have hms23_2 := NB1419_1414.out
       have hs24 : w22.cell? ⟨gb1419, 1, none⟩ = some (.int .i64 0) := (blk_cell BK1419.out 1).trans rfl
       have hfs24 := blk_frozen BK1419.out 1
       have hns24_0 := NB1407_1419.out
       have hns24_1 := NB1408_1419.out
       have hns24_2 := NB1414_1419.out
       have hms24_0 := NB1419_1407.out
       have hms24_1 := NB1419_1408.out
       have hms24_2 := NB1419_1414.out
       have hs25 : w22.cell? ⟨gb1419, 2, none⟩ = some (.int .i64 0) := (blk_cell BK1419.out 2).trans rfl
       have hfs25 := blk_frozen BK1419.out 2
       have hns25_0 := NB1407_1419.out
       have hns25_1 := NB1408_1419.out
       have hns25_2 := NB1414_1419.out
       have hms25_0 := NB1419_1407.out
       have hms25_1 := NB1419_1408.out
       have hms25_2 := NB1419_1414.out
       refine skip_ (w1 := ?_) (by rfl) rfl ?_ ?_
       rotate_left
       ·go_simp
        rfl
       refine hK.out _ _ ⟨((cell_far (p := ⟨gb1419, _, none⟩) NB1407_1419.out _).trans (((cell_far (p := ⟨gb1419, _, none⟩) NB1407_1419.out _).trans (((cell_far (p := ⟨gb1419, _, none⟩) NB1407_1419.out _).trans (hHeld.1)))))), ((cell_far (p := ⟨gb1419, _, none⟩) NB1407_1419.out _).trans (((cell_far (p := ⟨gb1419, _, none⟩) NB1407_1419.out _).trans (((cell_far (p := ⟨gb1419, _, none⟩) NB1407_1419.out _).trans (hHeld.2.1)))))), ((cell_far (p := ⟨gb1419, _, none⟩) NB1407_1419.out _).trans (((cell_far (p := ⟨gb1419, _, none⟩) NB1407_1419.out _).trans (((cell_far (p := ⟨gb1419, _, none⟩) NB1407_1419.out _).trans (hHeld.2.2.1)))))), ((cell_far (p := ⟨gb1419, _, none⟩) NB1407_1419.out _).trans (((cell_far (p := ⟨gb1419, _, none⟩) NB1407_1419.out _).trans (((cell_far (p := ⟨gb1419, _, none⟩) NB1407_1419.out _).trans (hHeld.2.2.2.1)))))), ((cell_far (p := ⟨gb1419, _, none⟩) (by first | exact Nat.ne_of_lt (Nat.lt_of_lt_of_le (by have := World.block_lt_of_cell? _ _ hw1415_0; first | rwa [add_block] at this | exact this) GW1419.out) | (rw [add_block]; exact Nat.ne_of_lt (Nat.lt_of_lt_of_le (by have := World.block_lt_of_cell? _ _ hw1415_0; first | rwa [add_block] at this | exact this) GW1419.out)) | (show (Addr.add _ _).block ≠ _; rw [add_block]; exact Nat.ne_of_lt (Nat.lt_of_lt_of_le (by have := World.block_lt_of_cell? _ _ hw1415_0; first | rwa [add_block] at this | exact this) GW1419.out)) | (dsimp only; exact Nat.ne_of_lt (Nat.lt_of_lt_of_le (by have := World.block_lt_of_cell? _ _ hw1415_0; first | rwa [add_block] at this | exact this) GW1419.out))) _).trans (((cell_far (p := ⟨gb1419, _, none⟩) (by first | exact Nat.ne_of_lt (Nat.lt_of_lt_of_le (by have := World.block_lt_of_cell? _ _ hw1415_0; first | rwa [add_block] at this | exact this) GW1419.out) | (rw [add_block]; exact Nat.ne_of_lt (Nat.lt_of_lt_of_le (by have := World.block_lt_of_cell? _ _ hw1415_0; first | rwa [add_block] at this | exact this) GW1419.out)) | (show (Addr.add _ _).block ≠ _; rw [add_block]; exact Nat.ne_of_lt (Nat.lt_of_lt_of_le (by have := World.block_lt_of_cell? _ _ hw1415_0; first | rwa [add_block] at this | exact this) GW1419.out)) | (dsimp only; exact Nat.ne_of_lt (Nat.lt_of_lt_of_le (by have := World.block_lt_of_cell? _ _ hw1415_0; first | rwa [add_block] at this | exact this) GW1419.out))) _).trans (((cell_far (p := ⟨gb1419, _, none⟩) (by first | exact Nat.ne_of_lt (Nat.lt_of_lt_of_le (by have := World.block_lt_of_cell? _ _ hw1415_0; first | rwa [add_block] at this | exact this) GW1419.out) | (rw [add_block]; exact Nat.ne_of_lt (Nat.lt_of_lt_of_le (by have := World.block_lt_of_cell? _ _ hw1415_0; first | rwa [add_block] at this | exact this) GW1419.out)) | (show (Addr.add _ _).block ≠ _; rw [add_block]; exact Nat.ne_of_lt (Nat.lt_of_lt_of_le (by have := World.block_lt_of_cell? _ _ hw1415_0; first | rwa [add_block] at this | exact this) GW1419.out)) | (dsimp only; exact Nat.ne_of_lt (Nat.lt_of_lt_of_le (by have := World.block_lt_of_cell? _ _ hw1415_0; first | rwa [add_block] at this | exact this) GW1419.out))) _).trans (hHeld.2.2.2.2))))))⟩ (fun hHeld => ?_)
       clear hK K
       refine done_ (done_of HT_.out (by kernel_rfl)) ?_
       have hnb26 := NB1419_1407.out
       have hnc26 := NB1407_1419.out
       have hnb27 := NB1419_1408.out
       have hnc27 := NB1408_1419.out
       have hnb28 := NB1419_1414.out
       have hnc28 := NB1414_1419.out
       obtain ⟨_, _, _, _, _, _⟩ := b3 BK1419
       have hnb30 := NB1414_1407.out
       have hnc30 := NB1407_1414.out
       have hnb31 := NB1414_1408.out
       have hnc31 := NB1408_1414.out
       obtain ⟨_, _, _, _, _, _⟩ := b3 BK1414
       try go_wp2_with (first | ((with_reducible refine gate_callee (f := 37) rfl ?_); refine gl (some 34) Tryd.func37 #[.agg #[.int .i64 t1416, .int .i64 t1417], .agg #[.int .i64 x1415000_1, .int .i64 x1415001_1]] ?_; (with_reducible refine (Bs_Cmp.calls t1416 t1417 x1415000_1 x1415001_1 t1420 _ A17.out).mono ?_); rintro e w33 ⟨rfl, hb⟩; refine ⟨_, rfl, ?_⟩; replace BK1407 := m0 (blk_below (g := gb1407) (o := .cells #[.slice A0_0 l0_0.length c0_0, .slice A0_1 l0_1.length c0_1, .int .i64 a0_2, .int .i64 a0_3] 28 (0, 0)) (bq BK1407.out) hb); replace BK1408 := m0 (blk_below (g := gb1408) (o := .cells #[.int .i64 0, .int .i64 0, .int .i64 0] 36 (0, 0)) (bq BK1408.out) hb); replace BK1414 := m0 (blk_below (g := gb1414) (o := .cells #[.int .i64 x1415000_1, .int .i64 x1415001_1, .int .i64 x1415002_1] 36 (0, 0)) (bq BK1414.out) hb); replace BK1419 := m0 (blk_below (g := gb1419) (o := .cells #[.int .i64 t1416, .int .i64 t1417, .int .i64 t1418] 36 (0, 0)) (bq BK1419.out) hb); replace HB := sb HB hb; (try clear hb)))
       replace BK1407 := bd BK1407; replace BK1408 := bd BK1408; replace BK1414 := bd BK1414; replace BK1419 := bd BK1419; replace HB := sd HB
       have p1421 : 0 ≤ (x8_1 : Int) := of_decide_eq_true (by first | (with_reducible assumption) | assumption)
       have q1421 : x8_1 < (l1.length : Int) := of_decide_eq_true (by first | (with_reducible assumption) | assumption)
       obtain ⟨ad1421, e1421, hx1421_0⟩ := Kd.at_int HR1.out x8_1 p1421 q1421
       have hw1421_0 := hx1421_0
       obtain rfl : ad1409 = ad1421 := (by injection e1421)
       replace hx1421_0 := (HB.out.cell (World.block_lt_of_cell? w _ hx1421_0)).trans hx1421_0
       replace p1421 := eq_true p1421
       replace q1421 := eq_true q1421
       refine start_ (n := 7) (S := fun w' => w'.cell? ⟨gb1419, 0, none⟩ = some (.int .i64 t1416) ∧ w'.cell? ⟨gb1419, 1, none⟩ = some (.int .i64 t1417) ∧ w'.cell? ⟨gb1419, 2, none⟩ = some (.int .i64 t1418) ∧ w'.cell? (ad1409.add (x8_1).toNat) = some (.int .i64 (rd l1 x8_1))) (ds := []) #[false, false, false, false, false, false, false] (by kernel_rfl) rfl rfl ⟨(blk_cell BK1419.out 0).trans rfl, (blk_cell BK1419.out 1).trans rfl, (blk_cell BK1419.out 2).trans rfl, ((HB.out.cell (World.block_lt_of_cell? w _ hw1421_0)).trans hw1421_0)⟩ (fun hHeld => ?_)
       generalize w33.drew = w34 at BK1407 BK1408 BK1414 BK1419 HB hx1421_0 hHeld ⊢
       refine pure_ (i := 0) (N := some 36) (v := ?_) (a' := ?_) #[true, false, false, false, false, false, false] rfl rfl (by kernel_rfl) (fun _ _ _ h => h) (Or.inl ⟨by rfl, ?_⟩) ?_ ?_
       rotate_left
       ·intro w'
        go_simp
        with_reducible rfl
       rotate_left
       ·exact pz
       refine pure_ (i := 1) (N := some 37) (v := ?_) (a' := ?_) #[true, true, false, false, false, false, false] rfl rfl (by kernel_rfl) (fun _ _ _ h => h) (Or.inl ⟨by rfl, ?_⟩) ?_ ?_
       rotate_left
       ·intro w'
        go_simp
        with_reducible rfl
       rotate_left
       ·exact pz
       refine pure_ (i := 2) (N := some 38) (v := ?_) (a' := ?_) #[true, true, true, false, false, false, false] rfl rfl (by kernel_rfl) (fun _ _ _ h => h) (Or.inl ⟨by rfl, ?_⟩) ?_ ?_
       rotate_left
       ·intro w'
        go_simp
        with_reducible rfl
       rotate_left
       ·exact pz
       refine takeZ 3 (some 39) #[true, true, true, true, false, false, false] (by kernel_rfl) hHeld ?_
       refine pure_ (i := 5) (N := some 6) (v := ?_) (a' := ?_) #[true, true, true, true, false, true, false] rfl rfl (by kernel_rfl) (fun _ _ _ h => h) (Or.inl ⟨by rfl, ?_⟩) ?_ ?_
       rotate_left
       ·intro w'
        go_simp
        with_reducible rfl
       rotate_left
       ·exact pz
       refine takeZ 4 (some 40) #[true, true, true, true, true, true, false] (by kernel_rfl) hHeld ?_
       refine oneZ 6 (none) #[true, true, true, true, true, true, true] (by kernel_rfl) fun K hK => ?_
       have hs35 : w34.cell? ⟨gb1414, 0, none⟩ = some (.int .i64 x1415000_1) := (blk_cell BK1414.out 0).trans rfl
       have hfs35 := blk_frozen BK1414.out 0
       have hns35_0 := NB1407_1414.out
       have hns35_1 := NB1408_1414.out
       have hns35_3 := NB1419_1414.out
       have hms35_0 := NB1414_1407.out
       have hms35_1 := NB1414_1408.out
       have hms35_3 := NB1414_1419.out
       have hs36 : w34.cell? ⟨gb1414, 1, none⟩ = some (.int .i64 x1415001_1) := (blk_cell BK1414.out 1).trans rfl
       have hfs36 := blk_frozen BK1414.out 1
       have hns36_0 := NB1407_1414.out
       have hns36_1 := NB1408_1414.out
       have hns36_3 := NB1419_1414.out
       have hms36_0 := NB1414_1407.out
       have hms36_1 := NB1414_1408.out
       have hms36_3 := NB1414_1419.out
       have hs37 : w34.cell? ⟨gb1414, 2, none⟩ = some (.int .i64 x1415002_1) := (blk_cell BK1414.out 2).trans rfl
       have hfs37 := blk_frozen BK1414.out 2
       have hns37_0 := NB1407_1414.out
       have hns37_1 := NB1408_1414.out
       have hns37_3 := NB1419_1414.out
       have hms37_0 := NB1414_1407.out
       have hms37_1 := NB1414_1408.out
       have hms37_3 := NB1414_1419.out
       refine skip_ (w1 := ?_) (by rfl) rfl ?_ ?_
       rotate_left
       ·go_simp
        rfl
       refine hK.out _ _ ⟨((cell_far (p := ⟨gb1414, _, none⟩) NB1419_1414.out _).trans (((cell_far (p := ⟨gb1414, _, none⟩) NB1419_1414.out _).trans (((cell_far (p := ⟨gb1414, _, none⟩) NB1419_1414.out _).trans (hHeld.1)))))), ((cell_far (p := ⟨gb1414, _, none⟩) NB1419_1414.out _).trans (((cell_far (p := ⟨gb1414, _, none⟩) NB1419_1414.out _).trans (((cell_far (p := ⟨gb1414, _, none⟩) NB1419_1414.out _).trans (hHeld.2.1)))))), ((cell_far (p := ⟨gb1414, _, none⟩) NB1419_1414.out _).trans (((cell_far (p := ⟨gb1414, _, none⟩) NB1419_1414.out _).trans (((cell_far (p := ⟨gb1414, _, none⟩) NB1419_1414.out _).trans (hHeld.2.2.1)))))), ((cell_far (p := ⟨gb1414, _, none⟩) (by first | exact Nat.ne_of_lt (Nat.lt_of_lt_of_le (by have := World.block_lt_of_cell? _ _ hw1421_0; first | rwa [add_block] at this | exact this) GW1414.out) | (rw [add_block]; exact Nat.ne_of_lt (Nat.lt_of_lt_of_le (by have := World.block_lt_of_cell? _ _ hw1421_0; first | rwa [add_block] at this | exact this) GW1414.out)) | (show (Addr.add _ _).block ≠ _; rw [add_block]; exact Nat.ne_of_lt (Nat.lt_of_lt_of_le (by have := World.block_lt_of_cell? _ _ hw1421_0; first | rwa [add_block] at this | exact this) GW1414.out)) | (dsimp only; exact Nat.ne_of_lt (Nat.lt_of_lt_of_le (by have := World.block_lt_of_cell? _ _ hw1421_0; first | rwa [add_block] at this | exact this) GW1414.out))) _).trans (((cell_far (p := ⟨gb1414, _, none⟩) (by first | exact Nat.ne_of_lt (Nat.lt_of_lt_of_le (by have := World.block_lt_of_cell? _ _ hw1421_0; first | rwa [add_block] at this | exact this) GW1414.out) | (rw [add_block]; exact Nat.ne_of_lt (Nat.lt_of_lt_of_le (by have := World.block_lt_of_cell? _ _ hw1421_0; first | rwa [add_block] at this | exact this) GW1414.out)) | (show (Addr.add _ _).block ≠ _; rw [add_block]; exact Nat.ne_of_lt (Nat.lt_of_lt_of_le (by have := World.block_lt_of_cell? _ _ hw1421_0; first | rwa [add_block] at this | exact this) GW1414.out)) | (dsimp only; exact Nat.ne_of_lt (Nat.lt_of_lt_of_le (by have := World.block_lt_of_cell? _ _ hw1421_0; first | rwa [add_block] at this | exact this) GW1414.out))) _).trans (((cell_far (p := ⟨gb1414, _, none⟩) (by first | exact Nat.ne_of_lt (Nat.lt_of_lt_of_le (by have := World.block_lt_of_cell? _ _ hw1421_0; first | rwa [add_block] at this | exact this) GW1414.out) | (rw [add_block]; exact Nat.ne_of_lt (Nat.lt_of_lt_of_le (by have := World.block_lt_of_cell? _ _ hw1421_0; first | rwa [add_block] at this | exact this) GW1414.out)) | (show (Addr.add _ _).block ≠ _; rw [add_block]; exact Nat.ne_of_lt (Nat.lt_of_lt_of_le (by have := World.block_lt_of_cell? _ _ hw1421_0; first | rwa [add_block] at this | exact this) GW1414.out)) | (dsimp only; exact Nat.ne_of_lt (Nat.lt_of_lt_of_le (by have := World.block_lt_of_cell? _ _ hw1421_0; first | rwa [add_block] at this | exact this) GW1414.out))) _).trans (hHeld.2.2.2))))))⟩ (fun hHeld => ?_)
       clear hK K
       refine done_ (by kernel_rfl) ?_
       try go_wp2
       go_roundg k1
       case measure => have := HK1.out; omega
       case rel => exact ⟨(rd l1 x8_1), (wrap64 (x8_1 + 1)), (t1416), (t1417), (t1418), (by first | rfl | (simp; done) | (simp [*]; done)), (by first | rfl | (simp; done) | (simp [*]; done)), H', ⟨by have := HK1.out; omega⟩, ⟨bq BK1407.out⟩, ⟨bq BK1408.out⟩, ⟨bq BK1414.out⟩, ⟨bz⟩⟩
      ·rw [if_neg c18] at H
       have c18b0 := decide_eq_false c18
       clear c18
       have H' := m0 H
       clear H
       try go_wp2
       replace BK1407 := bd BK1407; replace BK1408 := bd BK1408; replace BK1414 := bd BK1414; replace HB := sd HB
       have p1415 : 0 ≤ (x8_1 : Int) := of_decide_eq_true (by first | (with_reducible assumption) | assumption)
       have q1415 : x8_1 < (l1.length : Int) := of_decide_eq_true (by first | (with_reducible assumption) | assumption)
       obtain ⟨ad1415, e1415, hx1415_0⟩ := Kd.at_int HR1.out x8_1 p1415 q1415
       have hw1415_0 := hx1415_0
       obtain rfl : ad1409 = ad1415 := (by injection e1415)
       replace hx1415_0 := (HB.out.cell (World.block_lt_of_cell? w _ hx1415_0)).trans hx1415_0
       replace p1415 := eq_true p1415
       replace q1415 := eq_true q1415
       refine start_ (n := 8) (S := fun w' => w'.cell? ⟨gb1407, 0, none⟩ = some (.slice A0_0 l0_0.length c0_0) ∧ w'.cell? ⟨gb1407, 1, none⟩ = some (.slice A0_1 l0_1.length c0_1) ∧ w'.cell? ⟨gb1407, 2, none⟩ = some (.int .i64 a0_2) ∧ w'.cell? ⟨gb1407, 3, none⟩ = some (.int .i64 a0_3) ∧ w'.cell? (ad1409.add (x8_1).toNat) = some (.int .i64 (rd l1 x8_1))) (ds := []) #[false, false, false, false, false, false, false, false] (by kernel_rfl) rfl rfl ⟨(blk_cell BK1407.out 0).trans rfl, (blk_cell BK1407.out 1).trans rfl, (blk_cell BK1407.out 2).trans rfl, (blk_cell BK1407.out 3).trans rfl, ((HB.out.cell (World.block_lt_of_cell? w _ hw1415_0)).trans hw1415_0)⟩ (fun hHeld => ?_); refine with_tabW Rf_Best.tab5 Rf_Best.bits5 (fun HT_ HW_ => ?_)
       generalize wr.drew = w38 at BK1407 BK1408 BK1414 HB hx1415_0 hHeld ⊢
       refine pureZ (i := 1) (N := some 25) #[false, true, false, false, false, false, false, false] HT_ ?_
       refine pureZ (i := 2) (N := some 26) #[false, true, true, false, false, false, false, false] HT_ ?_
       refine pureZ (i := 3) (N := some 27) #[false, true, true, true, false, false, false, false] HT_ ?_
       refine takeZ 0 (some 24) #[true, true, true, true, false, false, false, false] (take_ofW HT_.out HW_.out (by kernel_rfl)) hHeld ?_
       refine takeZ 4 (some 28) #[true, true, true, true, true, false, false, false] (take_ofW HT_.out HW_.out (by kernel_rfl)) hHeld ?_
       refine join_ (σ := Nat) 1 #[true, true, true, true, true, true, true, false] (fun s_ => [(29, .agg #[.int .i64 t1416, .int .i64 t1417, .int .i64 t1418]), (9, .pointer (some ⟨s_, 0, none⟩))]) (fun s_ w' => (w'.cell? ⟨gb1407, 0, none⟩ = some (.slice A0_0 l0_0.length c0_0) ∧ w'.cell? ⟨gb1407, 1, none⟩ = some (.slice A0_1 l0_1.length c0_1) ∧ w'.cell? ⟨gb1407, 2, none⟩ = some (.int .i64 a0_2) ∧ w'.cell? ⟨gb1407, 3, none⟩ = some (.int .i64 a0_3) ∧ w'.cell? (ad1409.add (x8_1).toNat) = some (.int .i64 (rd l1 x8_1))) ∧ (w'.heap[gb1407]? = some (.cells #[.slice A0_0 l0_0.length c0_0, .slice A0_1 l0_1.length c0_1, .int .i64 a0_2, .int .i64 a0_3] 28 (0, 0))) ∧ (w'.heap[gb1408]? = some (.cells #[.int .i64 0, .int .i64 0, .int .i64 0] 36 (0, 0))) ∧ (w'.heap[gb1414]? = some (.cells #[.int .i64 x1415000_1, .int .i64 x1415001_1, .int .i64 x1415002_1] 36 (0, 0))) ∧ (w'.heap[s_]? = some (.cells #[.int .i64 0, .int .i64 0, .int .i64 0] 36 (0, 0))) ∧ (w.heap.size ≤ s_) ∧ (w.heap.size ≤ s_) ∧ (gb1407 ≠ s_) ∧ (s_ ≠ gb1407) ∧ (gb1408 ≠ s_) ∧ (s_ ≠ gb1408) ∧ (gb1414 ≠ s_) ∧ (s_ ≠ gb1414) ∧ (Below w.heap.size w w')) ?_ ?_
       rotate_left
       ·intro hCont
        refine two_ (i := 5) (j := 6) (Ni := some 29) (Nj := some 9) #[true, true, true, true, true, true, false, false] #[true, true, true, true, true, false, true, false] rfl rfl rfl rfl (two_of HT_.out (by kernel_rfl)) (by decide) (by decide) (fun K hK => ?_) (fun K hK => ?_)
        ·skip
         refine goes_ Tryd.func25 (by kernel_rfl) rfl #[.agg #[.slice A0_0 l0_0.length c0_0, .slice A0_1 l0_1.length c0_1, .int .i64 a0_2, .int .i64 a0_3], .int .i64 (rd l1 x8_1)] (by rfl) rfl rfl mz ?_
         with_reducible refine (Rf_Worst.calls k1 _ _ l0_0 _ _ l0_1 a0_2 a0_3 (rd l1 x8_1) t1416 t1417 t1418 _ ?side1 ?side2 ?side3 ?side4 A16.out).mono ?_
         (case side1 => exact cb HR0_0 HB)
         (case side2 => exact HC0_0.out)
         (case side3 => exact cb HR0_1 HB)
         (case side4 => exact HC0_1.out)
         rintro e w39 ⟨rfl, hb⟩
         refine ⟨_, rfl, ?_⟩
         replace BK1407 := bb BK1407 hb; replace BK1408 := bb BK1408 hb; replace BK1414 := bb BK1414 hb; replace HB := sb HB hb
         (try clear hb)
         refine hK.out _ _ ⟨(blk_cell BK1407.out 0).trans rfl, (blk_cell BK1407.out 1).trans rfl, (blk_cell BK1407.out 2).trans rfl, (blk_cell BK1407.out 3).trans rfl, ((HB.out.cell (World.block_lt_of_cell? w _ hw1415_0)).trans hw1415_0)⟩ (fun hHeld => ?_)
         clear hK K
         refine norm_ (a' := ?_) ?_ ?_
         rotate_left
         ·show Act.put _ (some 29) _ = _
          exact pz
         refine oneZ 6 (some 9) #[true, true, true, true, true, true, true, false] (one_of HT_.out (by kernel_rfl)) fun K hK => ?_
         refine box_step ?hg (N := 9) ?hd (cs := #[.int .i64 0, .int .i64 0, .int .i64 0]) (t := 36) ?hr ?_; (case hd => rfl); (case hg => rfl); (case hr => first | (go_simp; done) | (go_simp; rfl))
         intro gb1419 hg w40 hbox hb
         have BK1419 := m0 hbox; have GW1419 := m0 (bg (n := w.heap.size) hg); have GE1419 := m0 (bg (n := w.heap.size) hg); replace HB := sb HB hb; have NB1407_1419 := nl BK1407 hg; have NB1419_1407 := ng (nl BK1407 hg); replace BK1407 := bb BK1407 hb; have NB1408_1419 := nl BK1408 hg; have NB1419_1408 := ng (nl BK1408 hg); replace BK1408 := bb BK1408 hb; have NB1414_1419 := nl BK1414 hg; have NB1419_1414 := ng (nl BK1414 hg); replace BK1414 := bb BK1414 hb
         clear hb hbox hg
         refine hK.out _ _ ⟨(blk_cell BK1407.out 0).trans rfl, (blk_cell BK1407.out 1).trans rfl, (blk_cell BK1407.out 2).trans rfl, (blk_cell BK1407.out 3).trans rfl, ((HB.out.cell (World.block_lt_of_cell? w _ hw1415_0)).trans hw1415_0)⟩ (fun hHeld => ?_)
         clear hK K
         refine norm_ (a' := ?_) ?_ ?_
         rotate_left
         ·show Act.put _ (some 9) _ = _
          exact pz
         exact norm_ (by simp only [putAll, Act.put, List.setIfInBounds_toArray, List.set_cons_zero, List.set_cons_succ]) (hCont (gb1419) _ ⟨hHeld, (bk BK1407.out), (bk BK1408.out), (bk BK1414.out), (bk BK1419.out), GW1419.out, GE1419.out, NB1407_1419.out, NB1419_1407.out, NB1408_1419.out, NB1419_1408.out, NB1414_1419.out, NB1419_1414.out, bz⟩)
        ·skip
         refine box_step ?hg (N := 9) ?hd (cs := #[.int .i64 0, .int .i64 0, .int .i64 0]) (t := 36) ?hr ?_; (case hd => rfl); (case hg => rfl); (case hr => first | (go_simp; done) | (go_simp; rfl))
         intro gb1419 hg w39 hbox hb
         have BK1419 := m0 hbox; have GW1419 := m0 (bg (n := w.heap.size) hg); have GE1419 := m0 (bg (n := w.heap.size) hg); replace HB := sb HB hb; have NB1407_1419 := nl BK1407 hg; have NB1419_1407 := ng (nl BK1407 hg); replace BK1407 := bb BK1407 hb; have NB1408_1419 := nl BK1408 hg; have NB1419_1408 := ng (nl BK1408 hg); replace BK1408 := bb BK1408 hb; have NB1414_1419 := nl BK1414 hg; have NB1419_1414 := ng (nl BK1414 hg); replace BK1414 := bb BK1414 hb
         clear hb hbox hg
         refine hK.out _ _ ⟨(blk_cell BK1407.out 0).trans rfl, (blk_cell BK1407.out 1).trans rfl, (blk_cell BK1407.out 2).trans rfl, (blk_cell BK1407.out 3).trans rfl, ((HB.out.cell (World.block_lt_of_cell? w _ hw1415_0)).trans hw1415_0)⟩ (fun hHeld => ?_)
         clear hK K
         refine norm_ (a' := ?_) ?_ ?_
         rotate_left
         ·show Act.put _ (some 9) _ = _
          exact pz
         refine oneZ 5 (some 29) #[true, true, true, true, true, true, true, false] (one_of HT_.out (by kernel_rfl)) fun K hK => ?_
         refine goes_ Tryd.func25 (by kernel_rfl) rfl #[.agg #[.slice A0_0 l0_0.length c0_0, .slice A0_1 l0_1.length c0_1, .int .i64 a0_2, .int .i64 a0_3], .int .i64 (rd l1 x8_1)] (by rfl) rfl rfl mz ?_
         with_reducible refine (Rf_Worst.calls k1 _ _ l0_0 _ _ l0_1 a0_2 a0_3 (rd l1 x8_1) t1416 t1417 t1418 _ ?side1 ?side2 ?side3 ?side4 A16.out).mono ?_
         (case side1 => exact cb HR0_0 HB)
         (case side2 => exact HC0_0.out)
         (case side3 => exact cb HR0_1 HB)
         (case side4 => exact HC0_1.out)
         rintro e w40 ⟨rfl, hb⟩
         refine ⟨_, rfl, ?_⟩
         replace BK1407 := bb BK1407 hb; replace BK1408 := bb BK1408 hb; replace BK1414 := bb BK1414 hb; replace BK1419 := bb BK1419 hb; replace HB := sb HB hb
         (try clear hb)
         refine hK.out _ _ ⟨(blk_cell BK1407.out 0).trans rfl, (blk_cell BK1407.out 1).trans rfl, (blk_cell BK1407.out 2).trans rfl, (blk_cell BK1407.out 3).trans rfl, ((HB.out.cell (World.block_lt_of_cell? w _ hw1415_0)).trans hw1415_0)⟩ (fun hHeld => ?_)
         clear hK K
         refine norm_ (a' := ?_) ?_ ?_
         rotate_left
         ·show Act.put _ (some 29) _ = _
          exact pz
         exact norm_ (by simp only [putAll, Act.put, List.setIfInBounds_toArray, List.set_cons_zero, List.set_cons_succ]) (hCont (gb1419) _ ⟨hHeld, (bk BK1407.out), (bk BK1408.out), (bk BK1414.out), (bk BK1419.out), GW1419.out, GE1419.out, NB1407_1419.out, NB1419_1407.out, NB1408_1419.out, NB1419_1408.out, NB1414_1419.out, NB1419_1414.out, bz⟩)
       rintro gb1419 w41 ⟨hS_, h0_, h1_, h2_, h3_, h4_, h5_, h6_, h7_, h8_, h9_, h10_, h11_, h12_⟩
       have n0_ : Aside0 (w41.heap[gb1407]? = some (.cells #[.slice A0_0 l0_0.length c0_0, .slice A0_1 l0_1.length c0_1, .int .i64 a0_2, .int .i64 a0_3] 28 (0, 0))) := ⟨h0_⟩
       have n1_ : Aside0 (w41.heap[gb1408]? = some (.cells #[.int .i64 0, .int .i64 0, .int .i64 0] 36 (0, 0))) := ⟨h1_⟩
       have n2_ : Aside0 (w41.heap[gb1414]? = some (.cells #[.int .i64 x1415000_1, .int .i64 x1415001_1, .int .i64 x1415002_1] 36 (0, 0))) := ⟨h2_⟩
       have n3_ : Aside0 (w41.heap[gb1419]? = some (.cells #[.int .i64 0, .int .i64 0, .int .i64 0] 36 (0, 0))) := ⟨h3_⟩
       have n4_ : Aside0 (w.heap.size ≤ gb1419) := ⟨h4_⟩
       have n5_ : Aside0 (w.heap.size ≤ gb1419) := ⟨h5_⟩
       have n6_ : Aside0 (gb1407 ≠ gb1419) := ⟨h6_⟩
       have n7_ : Aside0 (gb1419 ≠ gb1407) := ⟨h7_⟩
       have n8_ : Aside0 (gb1408 ≠ gb1419) := ⟨h8_⟩
       have n9_ : Aside0 (gb1419 ≠ gb1408) := ⟨h9_⟩
       have n10_ : Aside0 (gb1414 ≠ gb1419) := ⟨h10_⟩
       have n11_ : Aside0 (gb1419 ≠ gb1414) := ⟨h11_⟩
       have n12_ : Aside0 (Below w.heap.size w w41) := ⟨h12_⟩
       clear BK1407
       clear BK1408
       clear BK1414
       clear HB
       clear h0_ h1_ h2_ h3_ h4_ h5_ h6_ h7_ h8_ h9_ h10_ h11_ h12_
       have BK1407 := n0_
       have BK1408 := n1_
       have BK1414 := n2_
       have BK1419 := n3_
       have GW1419 := n4_
       have GE1419 := n5_
       have NB1407_1419 := n6_
       have NB1419_1407 := n7_
       have NB1408_1419 := n8_
       have NB1419_1408 := n9_
       have NB1414_1419 := n10_
       have NB1419_1414 := n11_
       have HB := n12_
       clear n0_ n1_ n2_ n3_ n4_ n5_ n6_ n7_ n8_ n9_ n10_ n11_ n12_
       have hHeld : w41.cell? ⟨gb1407, 0, none⟩ = some (.slice A0_0 l0_0.length c0_0) ∧ w41.cell? ⟨gb1407, 1, none⟩ = some (.slice A0_1 l0_1.length c0_1) ∧ w41.cell? ⟨gb1407, 2, none⟩ = some (.int .i64 a0_2) ∧ w41.cell? ⟨gb1407, 3, none⟩ = some (.int .i64 a0_3) ∧ w41.cell? (ad1409.add (x8_1).toNat) = some (.int .i64 (rd l1 x8_1)) := hS_
       refine norm_ (a' := ?_) ?_ ?_
       rotate_left
       ·simp only [putAll, Act.put, List.setIfInBounds_toArray, List.set_cons_zero, List.set_cons_succ]
        rfl
       refine oneZ 7 (none) #[true, true, true, true, true, true, true, true] (one_of HT_.out (by kernel_rfl)) fun K hK => ?_
       have hs42 : w41.cell? ⟨gb1419, 0, none⟩ = some (.int .i64 0) := (blk_cell BK1419.out 0).trans rfl
       have hfs42 := blk_frozen BK1419.out 0
       have hns42_0 := NB1407_1419.out
       have hns42_1 := NB1408_1419.out
       have hns42_2 := NB1414_1419.out
       have hms42_0 := NB1419_1407.out
       have hms42_1 := NB1419_1408.out
       have hms42_2 := NB1419_1414.out
       have hs43 : w41.cell? ⟨gb1419, 1, none⟩ = some (.int .i64 0) := (blk_cell BK1419.out 1).trans rfl
       have hfs43 := blk_frozen BK1419.out 1
       have hns43_0 := NB1407_1419.out
       have hns43_1 := NB1408_1419.out
       have hns43_2 := NB1414_1419.out
       have hms43_0 := NB1419_1407.out
       have hms43_1 := NB1419_1408.out
       have hms43_2 := NB1419_1414.out
       have hs44 : w41.cell? ⟨gb1419, 2, none⟩ = some (.int .i64 0) := (blk_cell BK1419.out 2).trans rfl
       have hfs44 := blk_frozen BK1419.out 2
       have hns44_0 := NB1407_1419.out
       have hns44_1 := NB1408_1419.out
       have hns44_2 := NB1414_1419.out
       have hms44_0 := NB1419_1407.out
       have hms44_1 := NB1419_1408.out
       have hms44_2 := NB1419_1414.out
       refine skip_ (w1 := ?_) (by rfl) rfl ?_ ?_
       rotate_left
       ·go_simp
        rfl
       refine hK.out _ _ ⟨((cell_far (p := ⟨gb1419, _, none⟩) NB1407_1419.out _).trans (((cell_far (p := ⟨gb1419, _, none⟩) NB1407_1419.out _).trans (((cell_far (p := ⟨gb1419, _, none⟩) NB1407_1419.out _).trans (hHeld.1)))))), ((cell_far (p := ⟨gb1419, _, none⟩) NB1407_1419.out _).trans (((cell_far (p := ⟨gb1419, _, none⟩) NB1407_1419.out _).trans (((cell_far (p := ⟨gb1419, _, none⟩) NB1407_1419.out _).trans (hHeld.2.1)))))), ((cell_far (p := ⟨gb1419, _, none⟩) NB1407_1419.out _).trans (((cell_far (p := ⟨gb1419, _, none⟩) NB1407_1419.out _).trans (((cell_far (p := ⟨gb1419, _, none⟩) NB1407_1419.out _).trans (hHeld.2.2.1)))))), ((cell_far (p := ⟨gb1419, _, none⟩) NB1407_1419.out _).trans (((cell_far (p := ⟨gb1419, _, none⟩) NB1407_1419.out _).trans (((cell_far (p := ⟨gb1419, _, none⟩) NB1407_1419.out _).trans (hHeld.2.2.2.1)))))), ((cell_far (p := ⟨gb1419, _, none⟩) (by first | exact Nat.ne_of_lt (Nat.lt_of_lt_of_le (by have := World.block_lt_of_cell? _ _ hw1415_0; first | rwa [add_block] at this | exact this) GW1419.out) | (rw [add_block]; exact Nat.ne_of_lt (Nat.lt_of_lt_of_le (by have := World.block_lt_of_cell? _ _ hw1415_0; first | rwa [add_block] at this | exact this) GW1419.out)) | (show (Addr.add _ _).block ≠ _; rw [add_block]; exact Nat.ne_of_lt (Nat.lt_of_lt_of_le (by have := World.block_lt_of_cell? _ _ hw1415_0; first | rwa [add_block] at this | exact this) GW1419.out)) | (dsimp only; exact Nat.ne_of_lt (Nat.lt_of_lt_of_le (by have := World.block_lt_of_cell? _ _ hw1415_0; first | rwa [add_block] at this | exact this) GW1419.out))) _).trans (((cell_far (p := ⟨gb1419, _, none⟩) (by first | exact Nat.ne_of_lt (Nat.lt_of_lt_of_le (by have := World.block_lt_of_cell? _ _ hw1415_0; first | rwa [add_block] at this | exact this) GW1419.out) | (rw [add_block]; exact Nat.ne_of_lt (Nat.lt_of_lt_of_le (by have := World.block_lt_of_cell? _ _ hw1415_0; first | rwa [add_block] at this | exact this) GW1419.out)) | (show (Addr.add _ _).block ≠ _; rw [add_block]; exact Nat.ne_of_lt (Nat.lt_of_lt_of_le (by have := World.block_lt_of_cell? _ _ hw1415_0; first | rwa [add_block] at this | exact this) GW1419.out)) | (dsimp only; exact Nat.ne_of_lt (Nat.lt_of_lt_of_le (by have := World.block_lt_of_cell? _ _ hw1415_0; first | rwa [add_block] at this | exact this) GW1419.out))) _).trans (((cell_far (p := ⟨gb1419, _, none⟩) (by first | exact Nat.ne_of_lt (Nat.lt_of_lt_of_le (by have := World.block_lt_of_cell? _ _ hw1415_0; first | rwa [add_block] at this | exact this) GW1419.out) | (rw [add_block]; exact Nat.ne_of_lt (Nat.lt_of_lt_of_le (by have := World.block_lt_of_cell? _ _ hw1415_0; first | rwa [add_block] at this | exact this) GW1419.out)) | (show (Addr.add _ _).block ≠ _; rw [add_block]; exact Nat.ne_of_lt (Nat.lt_of_lt_of_le (by have := World.block_lt_of_cell? _ _ hw1415_0; first | rwa [add_block] at this | exact this) GW1419.out)) | (dsimp only; exact Nat.ne_of_lt (Nat.lt_of_lt_of_le (by have := World.block_lt_of_cell? _ _ hw1415_0; first | rwa [add_block] at this | exact this) GW1419.out))) _).trans (hHeld.2.2.2.2))))))⟩ (fun hHeld => ?_)
       clear hK K
       refine done_ (done_of HT_.out (by kernel_rfl)) ?_
       have hnb45 := NB1419_1407.out
       have hnc45 := NB1407_1419.out
       have hnb46 := NB1419_1408.out
       have hnc46 := NB1408_1419.out
       have hnb47 := NB1419_1414.out
       have hnc47 := NB1414_1419.out
       obtain ⟨_, _, _, _, _, _⟩ := b3 BK1419
       have hnb49 := NB1414_1407.out
       have hnc49 := NB1407_1414.out
       have hnb50 := NB1414_1408.out
       have hnc50 := NB1408_1414.out
       obtain ⟨_, _, _, _, _, _⟩ := b3 BK1414
       try go_wp2_with (first | ((with_reducible refine gate_callee (f := 37) rfl ?_); refine gl (some 34) Tryd.func37 #[.agg #[.int .i64 t1416, .int .i64 t1417], .agg #[.int .i64 x1415000_1, .int .i64 x1415001_1]] ?_; (with_reducible refine (Bs_Cmp.calls t1416 t1417 x1415000_1 x1415001_1 t1420 _ A17.out).mono ?_); rintro e w52 ⟨rfl, hb⟩; refine ⟨_, rfl, ?_⟩; replace BK1407 := m0 (blk_below (g := gb1407) (o := .cells #[.slice A0_0 l0_0.length c0_0, .slice A0_1 l0_1.length c0_1, .int .i64 a0_2, .int .i64 a0_3] 28 (0, 0)) (bq BK1407.out) hb); replace BK1408 := m0 (blk_below (g := gb1408) (o := .cells #[.int .i64 0, .int .i64 0, .int .i64 0] 36 (0, 0)) (bq BK1408.out) hb); replace BK1414 := m0 (blk_below (g := gb1414) (o := .cells #[.int .i64 x1415000_1, .int .i64 x1415001_1, .int .i64 x1415002_1] 36 (0, 0)) (bq BK1414.out) hb); replace BK1419 := m0 (blk_below (g := gb1419) (o := .cells #[.int .i64 t1416, .int .i64 t1417, .int .i64 t1418] 36 (0, 0)) (bq BK1419.out) hb); replace HB := sb HB hb; (try clear hb)))
       go_roundg k1
       case measure => have := HK1.out; omega
       case rel => exact ⟨(x6_1), (wrap64 (x8_1 + 1)), (x1415000_1), (x1415001_1), (x1415002_1), (by first | rfl | (simp; done) | (simp [*]; done)), (by first | rfl | (simp; done) | (simp [*]; done)), H', ⟨by have := HK1.out; omega⟩, ⟨bk BK1407.out⟩, ⟨bk BK1408.out⟩, ⟨bk BK1414.out⟩, ⟨bz⟩⟩
     ·rw [if_neg c15] at H
      exact absurd H (by simp)
    ·rw [if_neg c14] at H
     have c14b0 := decide_eq_false c14
     clear c14
     simp only [Option.some.injEq, Prod.mk.injEq] at H
     obtain ⟨rfl, rfl, rfl, rfl⟩ := H
     try go_wp2
     replace BK1407 := bd BK1407; replace BK1408 := bd BK1408; replace BK1414 := bd BK1414; replace HB := sd HB
     refine start_ (n := 4) (S := fun w' => w'.cell? ⟨gb1414, 0, none⟩ = some (.int .i64 x1415000_1) ∧ w'.cell? ⟨gb1414, 1, none⟩ = some (.int .i64 x1415001_1) ∧ w'.cell? ⟨gb1414, 2, none⟩ = some (.int .i64 x1415002_1)) (ds := []) #[false, false, false, false] (by kernel_rfl) rfl rfl cz (fun hHeld => ?_)
     generalize wr.drew = w53 at BK1407 BK1408 BK1414 HB hHeld ⊢
     refine pure_ (i := 0) (N := some 41) (v := ?_) (a' := ?_) #[true, false, false, false] rfl rfl (by kernel_rfl) (fun _ _ _ h => h) (Or.inl ⟨by rfl, ?_⟩) ?_ ?_
     rotate_left
     ·intro w'
      go_simp
      with_reducible rfl
     rotate_left
     ·exact pz
     refine pure_ (i := 2) (N := some 4) (v := ?_) (a' := ?_) #[true, false, true, false] rfl rfl (by kernel_rfl) (fun _ _ _ h => h) (Or.inl ⟨by rfl, ?_⟩) ?_ ?_
     rotate_left
     ·intro w'
      go_simp
      with_reducible rfl
     rotate_left
     ·exact pz
     refine takeZ 1 (some 42) #[true, true, true, false] (by kernel_rfl) hHeld ?_
     refine oneZ 3 (none) #[true, true, true, true] (by kernel_rfl) fun K hK => ?_
     have hs54 : w53.cell? ⟨gb1408, 0, none⟩ = some (.int .i64 0) := (blk_cell BK1408.out 0).trans rfl
     have hfs54 := blk_frozen BK1408.out 0
     have hns54_0 := NB1407_1408.out
     have hns54_2 := NB1414_1408.out
     have hms54_0 := NB1408_1407.out
     have hms54_2 := NB1408_1414.out
     have hs55 : w53.cell? ⟨gb1408, 1, none⟩ = some (.int .i64 0) := (blk_cell BK1408.out 1).trans rfl
     have hfs55 := blk_frozen BK1408.out 1
     have hns55_0 := NB1407_1408.out
     have hns55_2 := NB1414_1408.out
     have hms55_0 := NB1408_1407.out
     have hms55_2 := NB1408_1414.out
     have hs56 : w53.cell? ⟨gb1408, 2, none⟩ = some (.int .i64 0) := (blk_cell BK1408.out 2).trans rfl
     have hfs56 := blk_frozen BK1408.out 2
     have hns56_0 := NB1407_1408.out
     have hns56_2 := NB1414_1408.out
     have hms56_0 := NB1408_1407.out
     have hms56_2 := NB1408_1414.out
     refine skip_ (w1 := ?_) (by rfl) rfl ?_ ?_
     rotate_left
     ·go_simp
      rfl
     refine hK.out _ _ ⟨((cell_far (p := ⟨gb1408, _, none⟩) NB1414_1408.out _).trans (((cell_far (p := ⟨gb1408, _, none⟩) NB1414_1408.out _).trans (((cell_far (p := ⟨gb1408, _, none⟩) NB1414_1408.out _).trans (hHeld.1)))))), ((cell_far (p := ⟨gb1408, _, none⟩) NB1414_1408.out _).trans (((cell_far (p := ⟨gb1408, _, none⟩) NB1414_1408.out _).trans (((cell_far (p := ⟨gb1408, _, none⟩) NB1414_1408.out _).trans (hHeld.2.1)))))), ((cell_far (p := ⟨gb1408, _, none⟩) NB1414_1408.out _).trans (((cell_far (p := ⟨gb1408, _, none⟩) NB1414_1408.out _).trans (((cell_far (p := ⟨gb1408, _, none⟩) NB1414_1408.out _).trans (hHeld.2.2))))))⟩ (fun hHeld => ?_)
     clear hK K
     refine done_ (by kernel_rfl) ?_
     try go_wp2
     refine bodyPost_ret (results_tc rfl _ _ gb1408 36 #[.int .i64 x1415000_1, .int .i64 x1415001_1, .int .i64 x1415002_1] (0, 0) _ rfl (bq BK1408.out) Tryd.underlying36 rfl (by kernel_rfl)) rfl ?_
     exact ez
 ·rw [if_neg c3] at H
  exact absurd H (by simp)
end
end Go.Proofs.YtjnkphmcndaijaaDoor.A
