/- Walks of the program's functions (printed, made shorter), each with what it computes. -/
import Derived.Test.YtjnkphmcndaijaaDoorKep04
import Derived.Test.YtjnkphmcndaijaaDoorKep05
import Derived.Test.YtjnkphmcndaijaaDoorKep03
import Derived.Shelf.RegionOpen
import Derived.Shelf.Abstract
namespace Go.Proofs.YtjnkphmcndaijaaDoor.A
set_option maxHeartbeats 8000000
set_option maxRecDepth 100000
open Go.RowKit Go.Proofs.YtjnkphmcndaijaaDoorW.PrintWords Go.Proofs.YtjnkphmcndaijaaDoorW.PrintLast Go.Proofs.YtjnkphmcndaijaaDoorW.PrintMore
attribute [local go_sem] max2_int min2_int max_two min_two max_three min_three max_four min_four
set_option linter.unusedVariables false
set_option linter.unusedSimpArgs false
section
def line_each.Kp (n₀ Bx Bs : Nat) (W W' : World) : Prop := Below n₀ W W' ∧ W'.cell? ⟨Bx, 0, none⟩ = W.cell? ⟨Bx, 0, none⟩ ∧ W'.cell? ⟨Bs, 0, none⟩ = W.cell? ⟨Bs, 0, none⟩
theorem line_each.Kp.trans {n₀ Bx Bs : Nat} {A B C : World} (h : line_each.Kp n₀ Bx Bs A B) (k : line_each.Kp n₀ Bx Bs B C) : line_each.Kp n₀ Bx Bs A C := ⟨h.1.trans k.1, k.2.1.trans h.2.1, k.2.2.trans h.2.2⟩
def line_each.Rd (m : Nat) (row : Nat → List Int) (k : Nat) (x : Value) (W : World) : Prop := ∃ A c, x = .slice A (row k).length c ∧ (row k).length ≤ c ∧ Kd.C (Kd.int .i64) W A (row k).length (row k) ∧ ∀ ad, A = some ad → m ≤ ad.block
theorem line_each.Rd_putObj {m : Nat} {row : Nat → List Int} (k : Nat) (x : Value) (W : World) (l : Nat) (o o' : Obj) (hl : W.heap[l]? = some o) (ho : o.isCells = false) (h : line_each.Rd m row k x W) : line_each.Rd m row k x (W.putObj l o') := by
 obtain ⟨A, c, e, hc, hC, hm⟩ := h
 exact ⟨A, c, e, hc, C_putObj hl ho hC, hm⟩
theorem line_each.Kp_putObj {n₀ Bx Bs : Nat} {w : World} {v1 v2 : Value} (hn : n₀ ≤ w.heap.size) (W : World) (l : Nat) (o o' : Obj) (hl : w.heap.size ≤ l) (h : W.heap[l]? = some o) (hc : o.isCells = false) (hw : o.isWalk = false) (hx : Bx < w.heap.size) (hs : Bs < w.heap.size) : line_each.Kp n₀ Bx Bs W (W.putObj l o') :=
 ⟨belowK_b hn W l o o' hl h hc hw, World.cell?_of_block (World.putObj_heap_other (show Bx ≠ l by omega)), World.cell?_of_block (World.putObj_heap_other (show Bs ≠ l by omega))⟩
theorem blk_own {W W' : World} {row : Option Nat} {B g : Nat} {cs : Array Value} {t : TypeId} {mk : Nat × Nat} (h : W.heap[g]? = some (.cells cs t mk)) (hg : W.grownBy W' row) (hr : ∀ r, row = some r → B ≤ r ∧ ∃ o : Obj, W.heap[r]? = some o ∧ o.isCells = false) : W'.heap[g]? = some (.cells cs t mk) := by
 refine (hg.block g (blk_lt h) fun e => ?_).trans h
 obtain ⟨_, o, ho, hc⟩ := hr g e.symm
 rw [h] at ho
 cases ho
 cases hc
theorem others_below {W W' : World} (hb : Below W.heap.size W W') : KeepsOthers W W' := ⟨hb.size, fun k o h _ => (hb.block k (blk_lt h)).trans h⟩
theorem heap_setCell_ne {W : World} {b i g : Nat} {u : Value} (hne : g ≠ b) : (W.setCell ⟨b, i, none⟩ u).heap[g]? = W.heap[g]? := Below.heap_setCell W _ u g hne
theorem blk_ne_set {W : World} {b i g : Nat} {u : Value} {o : Obj} (h : W.heap[g]? = some o) (hne : g ≠ b) : (W.setCell ⟨b, i, none⟩ u).heap[g]? = some o := (heap_setCell_ne hne).trans h
theorem add_block (ad : Addr) (j : Nat) : (ad.add j).block = ad.block := by unfold Addr.add; split <;> rfl
theorem C_blocks {k : IntKind} {A : Option Addr} {n : Nat} {xs : List Int} {W W' : World} (h : Kd.C (Kd.int k) W A n xs) (hb : ∀ ad, A = some ad → W'.heap[ad.block]? = W.heap[ad.block]?) : Kd.C (Kd.int k) W' A n xs := by
 refine ⟨h.1, h.2.1, fun hn => ?_⟩
 obtain ⟨ad, e, hc⟩ := h.2.2 hn
 refine ⟨ad, e, fun j p hp => ?_⟩
 obtain ⟨c, h1, h2, h3⟩ := hc j p hp
 exact ⟨c, h1, h2, fun i' u' hu => (World.cell?_of_block (by rw [add_block]; exact hb ad e)).trans (h3 i' u' hu)⟩
theorem line_each.Kp.setCell {n₀ Bx Bs b i : Nat} {u : Value} {W W' : World} (h : line_each.Kp n₀ Bx Bs W W') (hb : n₀ ≤ b) (hx : Bx ≠ b) (hs : Bs ≠ b) : line_each.Kp n₀ Bx Bs W (W'.setCell ⟨b, i, none⟩ u) :=
 ⟨h.1.setCell (p := ⟨b, i, none⟩) hb _, (World.cell?_of_block (heap_setCell_ne hx)).trans h.2.1, (World.cell?_of_block (heap_setCell_ne hs)).trans h.2.2⟩
theorem line_each.Kp.drew {n₀ Bx Bs : Nat} {W W' : World} (h : line_each.Kp n₀ Bx Bs W W') : line_each.Kp n₀ Bx Bs W W'.drew := ⟨below_drew h.1, h.2.1, h.2.2⟩
theorem line_each.Kp.below {n₀ Bx Bs : Nat} {W W1 W' : World} (h : line_each.Kp n₀ Bx Bs W W1) (hn : n₀ ≤ W1.heap.size) (hx : Bx < W1.heap.size) (hs : Bs < W1.heap.size) (hb : Below W1.heap.size W1 W') : line_each.Kp n₀ Bx Bs W W' :=
 ⟨h.1.trans (hb.mono hn), (World.cell?_of_block (hb.block _ hx)).trans h.2.1, (World.cell?_of_block (hb.block _ hs)).trans h.2.2⟩
attribute [local go_sem] Oper.semAt_some
theorem line_each.yields (n kk : Nat) (hn : 1 ≤ n) (As Av : Option Addr) (cs cv : Nat) (ls lv : List Int) (all : Int) (few : Bool) (row : Nat → List Int) (we : World) (Bx Bs : Nat) (w : World)
  (hbe : Below we.heap.size we w) (hcx : w.cell? ⟨Bx, 0, none⟩ = some (.slice Av lv.length cv)) (hcs : w.cell? ⟨Bs, 0, none⟩ = some (.slice As ls.length cs))
  (hrs : Kd.C (Kd.int .i64) we As ls.length ls) (hsc : ls.length ≤ cs) (hrv : Kd.C (Kd.int .i64) we Av lv.length lv) (hvc : lv.length ≤ cv)
  (hall : line_cases.f kk lv ls.length = some (all, few)) (h0 : 0 ≤ all) (hbig : all ≤ 1000000) (hrow : ∀ k : Nat, (k : Int) < all → line_noisy.f kk ls lv k = some (row k)) :
  YieldsN Fence.wide n Tryd.prog 131 #[.pointer (some ⟨Bx, 0, none⟩), .pointer (some ⟨Bs, 0, none⟩)] (fun k x => #[.int .i64 (k : Int), x]) (line_each.Rd w.heap.size row) (line_each.Kp we.heap.size Bx Bs) all.toNat w := by
 intro l J Jx W hW hJ hJx hY hJ0
 have hcx' := pw_cell_below hW hcx
 have hcs' := pw_cell_below hW hcs
 have hbe' : Below we.heap.size we W := below_then hbe hbe.size hW
 refine callsIn_of_wp Tryd.func131 rfl trivial ?_ rfl
 simp only [Tryd.ntmps131, List.size_toArray, List.length_cons, List.length_nil, Nat.reduceAdd, Nat.reduceSub, Array.replicate_succ, Array.replicate_zero, List.push_toArray, List.append_toArray, List.nil_append, List.cons_append]
 have HB := m0 hbe'
 have HRS := m0 hrs
 have HRV := m0 hrv
 have HSC := m0 hsc
 have HVC := m0 hvc
 have HALL := m0 hall
 have HROW := m0 hrow
 have HY := m0 hY
 have HJ := m0 hJ
 have HBIG := m0 hbig
 have HH0 := m0 h0
 have hJ0' := m0 hJ0
 have HSZ := m0 hW.size
 clear hbe' hrs hrv hsc hvc hall hrow hY hJ hbig h0 hJ0 hJx hW hbe hcx hcs
 gi_wp2_with (first | (refine ⟨trivial, ?_⟩; gi_at_call 121; refine (callsIn_wide.2 (line_cases.calls kk Av cv lv ls.length all few W (Kd.C_below HRV.out HB.out) HVC.out HALL.out)).mono ?_; rintro e w1 ⟨rfl, hb⟩))
 gi_loopw [15] (fun i wr => ∃ k : Nat, i = .int .i64 k ∧ Aside0 ((k : Int) ≤ all) ∧ Aside0 (J k wr) ∧ Aside0 (Below we.heap.size we wr) ∧ Aside0 (w.heap.size ≤ wr.heap.size) ∧ wr.cell? ⟨Bx, 0, none⟩ = some (.slice Av lv.length cv) ∧ wr.cell? ⟨Bs, 0, none⟩ = some (.slice As ls.length cs)) (fun i _ => all.toNat - (intOf i).toNat)
 case atStart => exact ⟨0, rfl, ⟨HH0.out⟩, ⟨HJ.out 0 W w1 none hJ0'.out (grown_of_below hb none) (fun r e => by cases e)⟩, ⟨below_then HB.out HB.out.size hb⟩, ⟨Nat.le_trans HSZ.out hb.size⟩, pw_cell_below hb hcx', pw_cell_below hb hcs'⟩
 case round =>
  obtain ⟨k, rfl, hk, hJs, hB, hZ, hx1, hs1⟩ := hrel
  clear hcx' hcs' hb
  by_cases hlt : (k : Int) < all
  ·have hkb : (k : Int) < 1000000 := by have := HBIG.out; omega
   have HLT := m0 hlt
   gi_wp2_with (first | (refine ⟨trivial, ?_⟩; gi_at_call 123; refine (callsIn_wide.2 (line_noisy.calls kk As cs ls Av cv lv (k : Int) (row k) wr (Kd.C_below HRS.out hB.out) HSC.out (Kd.C_below HRV.out hB.out) HVC.out (HROW.out k HLT.out))).mono ?_; rintro e w2 ⟨v, rfl, ho, hb⟩; obtain ⟨Ao, co, eo⟩ := Kd.R_slice ho; subst eo; obtain ⟨fn, tmps, assign, body, hy, hR⟩ := HY.out k (.slice Ao (row k).length co) w2 (by have := HLT.out; omega) ⟨Ao, co, rfl, (Kd.R_reads' ho).2.1, (Kd.R_reads' ho).2.2, fun ad e => Nat.le_trans hZ.out (Kd.R_base ho ad.block (by rw [e]; rfl))⟩ (HJ.out k wr w2 none hJs.out (grown_of_below hb none) (fun r e => by cases e)); have HR := m0 hR; clear hR; have HB2 := m0 hb; clear hb ho))
   refine HR.out.mono ?_
   rintro e W3 (⟨rfl, hJ3, hk3, hx3, hs3⟩ | ⟨rfl, hJx3⟩)
   ·have hx4 := hx3.trans (pw_cell_below HB2.out hx1)
    have hs4 := hs3.trans (pw_cell_below HB2.out hs1)
    have HK3 := m0 hk3
    have HJ3 := m0 hJ3
    clear hk3 hx3 hs3 hx1 hs1 hJ3
    gi_wp2
    go_roundw
    case rel => exact ⟨k + 1, by go_num, ⟨by have := HLT.out; omega⟩, HJ3, ⟨(below_then hB.out hB.out.size HB2.out).trans HK3.out⟩, ⟨Nat.le_trans hZ.out (Nat.le_trans HB2.out.size HK3.out.size)⟩, hx4, hs4⟩
    case measure => have := HLT.out; simp [intOf]; omega
   ·have HJX := m0 hJx3
    clear hJx3
    gi_wp2
    refine bodyPost_ret (results_none rfl _ _ _) rfl ?_
    exact ⟨⟨_, rfl⟩, .inr ⟨k + 1, by have := HLT.out; omega, HJX.out⟩⟩
  ·have HN := m0 (show (k : Int) = all by have := hk.out; omega)
   gi_wp2
   go_end0
   refine ⟨⟨_, rfl⟩, .inl ?_⟩
   have e1 : all.toNat = k := by have := HN.out; omega
   rw [e1]
   exact hJs.out
theorem line_each.calls_own (As Av : Option Addr) (cs cv : Nat) (ls lv : List Int) (w : World) :
  Calls Tryd.prog 94 #[.slice As ls.length cs, .agg #[.slice Av lv.length cv]] w fun e w' => e = .returned (.func (.func 131) #[] #[.pointer (some ⟨w.heap.size + 1, 0, none⟩), .pointer (some ⟨w.heap.size, 0, none⟩)]) ∧ w' = (w.alloc (.cells #[.slice As ls.length cs] 22)).alloc (.cells #[.slice Av lv.length cv] 24) := by
 go_enter Tryd.func94, Tryd.ntmps94
 go_wp2
 go_ret
 exact ⟨rfl, rfl⟩
end
section
def line_divisor.l0 : Nat → Int → Int → Option (Int)
 | 0, _, _ => none
 | k + 1, x0, x1 => if x1 = 0 then (some (mx x0 (wrap64 (-x0)))) else (line_divisor.l0 k x1 (Int.tmod x0 x1))
def line_divisor.f (k : Nat) (a0 : Int) (a1 : Int) : Option (Int) := line_divisor.l0 k a0 a1
theorem line_divisor.mono_l : ∀ k, (∀ y0 y1, LeO (line_divisor.l0 k y0 y1) (line_divisor.l0 (k + 1) y0 y1))
 | 0 => fun _ _ r h => by simp [line_divisor.l0] at h
 | k + 1 => by
  have ih0 := line_divisor.mono_l k
  ·intro y0 y1
   unfold line_divisor.l0
   repeat' first
   | (with_reducible exact ih0 _ _)
   | (with_reducible exact LeO.refl _)
   | (with_reducible exact LeO.none _)
   | (with_reducible refine LeO.ite ?_ ?_)
   | (with_reducible refine LeO.bind ?_ (fun _ => ?_))
   | exact ih0 _ _
   | exact LeO.none _
   | refine LeO.ite ?_ ?_
   | refine LeO.bind ?_ (fun _ => ?_)
theorem line_divisor.mono : ∀ a0 a1 k, LeO (line_divisor.f k a0 a1) (line_divisor.f (k + 1) a0 a1) := by
 intro a0 a1 k
 have ih0 := line_divisor.mono_l k
 unfold line_divisor.f
 repeat' first
   | (with_reducible exact ih0 _ _)
   | (with_reducible exact LeO.refl _)
   | (with_reducible exact LeO.none _)
   | (with_reducible refine LeO.ite ?_ ?_)
   | (with_reducible refine LeO.bind ?_ (fun _ => ?_))
   | exact ih0 _ _
   | exact LeO.none _
   | refine LeO.ite ?_ ?_
   | refine LeO.bind ?_ (fun _ => ?_)
theorem line_divisor.calls (k : Nat) (a0 : Int) (a1 : Int) (r : Int) (w : World) (h : line_divisor.f k a0 a1 = some r) :
  Calls Tryd.prog 127 #[.int .i64 a0, .int .i64 a1] w fun e w' => e = .returned (.int .i64 r) ∧ Below w.heap.size w w' := by
 have HB := m0 (Below.refl w.heap.size w)
 have H : (line_divisor.l0 k a0 a1) = some r := h
 clear h
 have H' := m0 H
 clear H
 go_enter Tryd.func127, Tryd.ntmps127
 go_wp2
 repeat (go_quiet (fail); try go_wp2)
 go_loopg [0, 1] k (fun kq v0 v1 w' => ∃ (x0_1 : Int) (x1_1 : Int), v0 = .int .i64 x0_1 ∧ v1 = .int .i64 x1_1 ∧ Aside0 (line_divisor.l0 kq x0_1 x1_1 = some r) ∧ Aside0 (kq ≤ k) ∧ Aside0 (Below w.heap.size w w'))
 case atStart => exact ⟨(a0), (a1), (by first | rfl | (simp; done) | (simp [*]; done)), (by first | rfl | (simp; done) | (simp [*]; done)), H', ⟨Nat.le_refl _⟩, ⟨bz⟩⟩
 case round =>
  clear H'
  try clear c1
  try clear p2
  obtain ⟨x0_1, x1_1, rfl, rfl, HA, HK1, HB⟩ := hrel
  cases gk with
  | zero => exact absurd HA.out (by simp [line_divisor.l0])
  | succ k1 =>
   have H := HA.out
   clear HA
   simp only [line_divisor.l0] at H
   by_cases c3 : x1_1 = 0
   ·rw [if_pos c3] at H
    have c3b0 := beq_iff_eq.mpr c3
    have c3b1 := bne_eq_false_iff_eq.mpr c3
    clear c3
    obtain ⟨ji4, hji4⟩ : ∃ j_ : Int, (mx x0_1 (wrap64 (-x0_1))) = j_ := ⟨_, rfl⟩
    replace H : (some ji4) = some r := by first | (rw [hji4] at H; exact H) | (simp only [hji4] at H ⊢; exact H)
    have hji4_ : (if x0_1 < (wrap64 (-x0_1)) then (wrap64 (-x0_1)) else x0_1) = ji4 := hji4
    obtain rfl := Option.some.inj H
    go_wp2
    repeat (go_quiet (fail); try go_wp2)
    go_ret
    exact ⟨by first | rfl | (simp [errW_none, errW_some] <;> rfl) | (simp only [← hji4]; first | rfl | (simp [errW_none, errW_some] <;> rfl)) | (simp [*, errW_none, errW_some] <;> rfl), by repeat (first | (with_reducible first | exact HB.out | apply below_alloc | apply pw_below_drewN | apply below_drew1) | exact HB.out)⟩
   ·rw [if_neg c3] at H
    have c3b0 := beq_eq_false_iff_ne.mpr c3
    have c3b1 := bne_iff_ne.mpr c3
    have H' := m0 H
    clear H
    go_wp2
    repeat (go_quiet (fail); try go_wp2)
    go_roundg k1
    case measure => have := HK1.out; omega
    case rel => exact ⟨(x1_1), (Int.tmod x0_1 x1_1), (by first | rfl | (simp; done) | (simp [*]; done)), (by first | rfl | (simp; done) | (simp [*]; done)), H', ⟨by have := HK1.out; omega⟩, ⟨bz⟩⟩
end
section
def line_fraction.f (k : Nat) (a0 : Int) (a1 : Int) : Option (Int × Int) := (line_divisor.f k a0 a1).bind fun t143 => (if t143 = 0 then (none) else (some (wrap64 (Int.tdiv a0 t143), wrap64 (Int.tdiv a1 t143))))
theorem line_fraction.mono : ∀ a0 a1 k, LeO (line_fraction.f k a0 a1) (line_fraction.f (k + 1) a0 a1) := by
 intro a0 a1 k
 unfold line_fraction.f
 repeat' first
   | (with_reducible exact line_divisor.mono _ _ _)
   | (with_reducible exact LeO.refl _)
   | (with_reducible exact LeO.none _)
   | (with_reducible refine LeO.ite ?_ ?_)
   | (with_reducible refine LeO.bind ?_ (fun _ => ?_))
   | exact line_divisor.mono _ _ _
   | exact LeO.none _
   | refine LeO.ite ?_ ?_
   | refine LeO.bind ?_ (fun _ => ?_)
def line_fraction.T2 : Bool × List (List Nat × List Nat) := (true, [([], []), ([], []), ([0, 1], [0, 1]), ([], []), ([], []), ([3, 4], [3, 4]), ([2, 5], [2, 5]), ([6, 0, 1, 2, 3, 4, 5, 6], [6])])
def line_fraction.B2 : List Nat := [0, 0, 3, 0, 0, 24, 63, 127]
theorem line_fraction.tab2 : rtab .any (opsOf Tryd.f96 2) = line_fraction.T2 := by kernel_rfl
theorem line_fraction.bits2 : waitsOk line_fraction.T2.2 line_fraction.B2 = true := by kernel_rfl
theorem line_fraction.calls (k : Nat) (a0 : Int) (a1 : Int) (r1 : Int) (r2 : Int) (w : World) (h : line_fraction.f k a0 a1 = some (r1, r2)) :
  Calls Tryd.prog 96 #[.int .i64 a0, .int .i64 a1] w fun e w' => e = .returned (.agg #[.int .i64 r1, .int .i64 r2]) ∧ Below w.heap.size w w' := by
 have hu26 := Tryd.underlying26
 have HB := m0 (Below.refl w.heap.size w)
 have H : ((line_divisor.f k a0 a1).bind fun t143 => (if t143 = 0 then (none) else (some (wrap64 (Int.tdiv a0 t143), wrap64 (Int.tdiv a1 t143))))) = some (r1, r2) := h
 clear h
 replace H := ob H
 obtain ⟨t143, A30, H⟩ := H
 (try dsimp only at H)
 have A3 := m0 A30
 clear A30
 by_cases c4 : t143 = 0
 ·rw [if_pos c4] at H
  exact absurd H (by simp)
 ·rw [if_neg c4] at H
  have c4b0 := beq_eq_false_iff_ne.mpr c4
  have c4b1 := bne_iff_ne.mpr c4
  simp only [Option.some.injEq, Prod.mk.injEq] at H
  obtain ⟨rfl, rfl⟩ := H
  go_enter Tryd.func96, Tryd.ntmps96
  try go_wp2_with (first | ((with_reducible refine gate_dst (N := 4) rfl ?_); refine be 4 26 #[.int .i64 0, .int .i64 0] ?_; intro gb142 hg w5 hbox hb; have BK142 := m0 hbox; have GW142 := m0 (bg (n := w.heap.size) hg); have GE142 := m0 (bg (n := w.heap.size) hg); replace HB := sb HB hb; clear hb hbox hg) | ((with_reducible refine gate_callee (f := 127) rfl ?_); refine gl (some 8) Tryd.func127 #[.int .i64 a0, .int .i64 a1] ?_; (with_reducible refine (line_divisor.calls k a0 a1 t143 _ A3.out).mono ?_); rintro e w6 ⟨rfl, hb⟩; refine ⟨_, rfl, ?_⟩; replace BK142 := bb BK142 hb; replace HB := sb HB hb; (try clear hb)))
  replace BK142 := bd BK142; replace HB := sd HB
  refine start_ (n := 8) (S := fun w' => True) (ds := []) #[false, false, false, false, false, false, false, false] (by kernel_rfl) rfl rfl trivial (fun hHeld => ?_); refine with_tabW line_fraction.tab2 line_fraction.bits2 (fun HT_ HW_ => ?_)
  generalize w6.drew = w7 at BK142 HB hHeld ⊢
  refine pureZ (i := 0) (N := some 9) #[true, false, false, false, false, false, false, false] HT_ ?_
  refine pureZ (i := 1) (N := some 10) #[true, true, false, false, false, false, false, false] HT_ ?_
  refine pureZ (i := 2) (N := some 11) #[true, true, true, false, false, false, false, false] HT_ ?_
  refine pureZ (i := 3) (N := some 12) #[true, true, true, true, false, false, false, false] HT_ ?_
  refine pureZ (i := 4) (N := some 13) #[true, true, true, true, true, false, false, false] HT_ ?_
  refine pureZ (i := 5) (N := some 14) #[true, true, true, true, true, true, false, false] HT_ ?_
  refine pureZ (i := 6) (N := some 15) #[true, true, true, true, true, true, true, false] HT_ ?_
  refine oneZ 7 (none) #[true, true, true, true, true, true, true, true] (one_of HT_.out (by kernel_rfl)) fun K hK => ?_
  have hs8 : w7.cell? ⟨gb142, 0, none⟩ = some (.int .i64 0) := (blk_cell BK142.out 0).trans rfl
  have hfs8 := blk_frozen BK142.out 0
  have hs9 : w7.cell? ⟨gb142, 1, none⟩ = some (.int .i64 0) := (blk_cell BK142.out 1).trans rfl
  have hfs9 := blk_frozen BK142.out 1
  refine skip_ (w1 := ?_) (by rfl) rfl ?_ ?_
  rotate_left
  ·go_simp
   rfl
  refine hK.out _ _ trivial (fun hHeld => ?_)
  clear hK K
  refine done_ (done_of HT_.out (by kernel_rfl)) ?_
  try go_wp2
  refine bodyPost_ret (results_cell_row rfl _ _ gb142 26 #[.int .i64 (wrap64 (Int.tdiv a0 t143)), .int .i64 (wrap64 (Int.tdiv a1 t143))] (0, 0) _ rfl (bq BK142.out) Tryd.underlying26 rfl (by kernel_rfl)) rfl ?_
  exact ez
end
section
def Sp_int_106.l0 : Nat → List Int → Int → Int → Option (Int)
  | 0, _, _, _ => none
  | k + 1, x0, x3, x4 => if x4 < (x0.length : Int) then (if 0 ≤ x4 then (Sp_int_106.l0 k x0 (mx x3 (rd x0 x4)) (wrap64 (x4 + 1))) else (none)) else (some x3)
def Sp_int_106.f (k : Nat) (l0 : List Int) : Option (Int) := if (l0.length : Int) < 1 then (none) else (if 0 < (l0.length : Int) then (Sp_int_106.l0 k l0 (rd l0 0) 1) else (none))
theorem Sp_int_106.mono_l : ∀ k, (∀ y0 y1 y2, LeO (Sp_int_106.l0 k y0 y1 y2) (Sp_int_106.l0 (k + 1) y0 y1 y2))
  | 0 => fun _ _ _ r h => by simp [Sp_int_106.l0] at h
  | k + 1 => by
    have ih0 := Sp_int_106.mono_l k
    · intro y0 y1 y2
      unfold Sp_int_106.l0
      repeat' first
      | (with_reducible exact ih0 _ _ _)
      | (with_reducible exact LeO.refl _)
      | (with_reducible exact LeO.none _)
      | (with_reducible refine LeO.ite ?_ ?_)
      | (with_reducible refine LeO.bind ?_ (fun _ => ?_))
      | exact ih0 _ _ _
      | exact LeO.none _
      | refine LeO.ite ?_ ?_
      | refine LeO.bind ?_ (fun _ => ?_)
theorem Sp_int_106.mono : ∀ a0 k, LeO (Sp_int_106.f k a0) (Sp_int_106.f (k + 1) a0) := by
  intro a0 k
  have ih0 := Sp_int_106.mono_l k
  unfold Sp_int_106.f
  repeat' first
      | (with_reducible exact ih0 _ _ _)
      | (with_reducible exact LeO.refl _)
      | (with_reducible exact LeO.none _)
      | (with_reducible refine LeO.ite ?_ ?_)
      | (with_reducible refine LeO.bind ?_ (fun _ => ?_))
      | exact ih0 _ _ _
      | exact LeO.none _
      | refine LeO.ite ?_ ?_
      | refine LeO.bind ?_ (fun _ => ?_)
theorem Sp_int_106.calls (k : Nat) (A0 : Option Addr) (c0 : Nat) (l0 : List Int) (r : Int) (w : World) (hr0 : Kd.C (Kd.int .i64) w A0 l0.length l0) (hc0 : l0.length ≤ c0) (h : Sp_int_106.f k l0 = some r) :
    Calls Tryd.prog 106 #[.slice A0 l0.length c0] w fun e w' => e = .returned (.int .i64 r) ∧ Below w.heap.size w w' := by
  have HR0 := m0 hr0
  have HC0 := m0 hc0
  clear hr0 hc0
  have HB := m0 (Below.refl w.heap.size w)
  have H : (if (l0.length : Int) < 1 then (none) else (if 0 < (l0.length : Int) then (Sp_int_106.l0 k l0 (rd l0 0) 1) else (none))) = some r := h
  clear h
  by_cases c2 : (l0.length : Int) < 1
  · rw [if_pos c2] at H
    exact absurd H (by simp)
  · rw [if_neg c2] at H
    have c2b0 := decide_eq_false c2
    have c2b1 : decide (l0.length < 1) = false := decide_eq_false (by omega)
    clear c2
    by_cases c3 : 0 < (l0.length : Int)
    · rw [if_pos c3] at H
      have c3b0 := decide_eq_true c3
      have c3b1 : decide (0 < l0.length) = true := decide_eq_true (by omega)
      clear c3
      have H' := m0 H
      clear H
      have p144 : 0 ≤ (0 : Int) := (by omega)
      have q144 : 0 < (l0.length : Int) := of_decide_eq_true (by first | (with_reducible assumption) | assumption)
      obtain ⟨ad144, e144, hx144_0⟩ := Kd.at_int HR0.out 0 p144 q144
      cases e144
      have qi144 : (0 < l0.length) = True := eq_true (by omega)
      (try rw [show ((0 : Int)).toNat = 0 from rfl] at hx144_0)
      (try rw [Addr.add_zero'] at hx144_0)
      replace p144 := eq_true p144
      replace q144 := eq_true q144
      go_enter Tryd.func106, Tryd.ntmps106
      go_wp2
      go_loopg [3, 4] k (fun kq v3 v4 w' => ∃ (x3_1 : Int) (x4_1 : Int), v3 = .int .i64 x3_1 ∧ v4 = .int .i64 x4_1 ∧ Aside0 (Sp_int_106.l0 kq l0 x3_1 x4_1 = some r) ∧ Aside0 (kq ≤ k) ∧ Aside0 (Below w.heap.size w w'))
      case atStart => exact ⟨(rd l0 0), (1), (by first | rfl | (simp; done) | (simp [*]; done)), (by first | rfl | (simp; done) | (simp [*]; done)), H', ⟨Nat.le_refl _⟩, ⟨bz⟩⟩
      case round =>
        clear H'
        try clear c1
        try clear p1
        try clear q1
        try clear hx1
        try clear qi1
        try clear c2
        try clear c2b0
        try clear c2b1
        try clear p2
        try clear c3
        try clear c3b0
        try clear c3b1
        try clear hx144_0
        try clear p144
        try clear q144
        obtain ⟨x3_1, x4_1, rfl, rfl, HA, HK1, HB⟩ := hrel
        cases gk with
        | zero => exact absurd HA.out (by simp [Sp_int_106.l0])
        | succ k1 =>
          have H := HA.out
          clear HA
          simp only [Sp_int_106.l0] at H
          by_cases c4 : x4_1 < (l0.length : Int)
          · rw [if_pos c4] at H
            have c4b0 := decide_eq_true c4
            clear c4
            by_cases c5 : 0 ≤ x4_1
            · rw [if_pos c5] at H
              have c5b0 := decide_eq_true c5
              clear c5
              obtain ⟨ji6, hji6⟩ : ∃ j_ : Int, (mx x3_1 (rd l0 x4_1)) = j_ := ⟨_, rfl⟩
              replace H : (Sp_int_106.l0 k1 l0 ji6 (wrap64 (x4_1 + 1))) = some r := by first | (rw [hji6] at H; exact H) | (simp only [hji6] at H ⊢; exact H)
              have hji6_ : (if x3_1 < (rd l0 x4_1) then (rd l0 x4_1) else x3_1) = ji6 := hji6
              have H' := m0 H
              clear H
              have p145 : 0 ≤ (x4_1 : Int) := of_decide_eq_true (by first | (with_reducible assumption) | assumption)
              have q145 : x4_1 < (l0.length : Int) := of_decide_eq_true (by first | (with_reducible assumption) | assumption)
              obtain ⟨ad145, e145, hx145_0⟩ := Kd.at_int HR0.out x4_1 p145 q145
              obtain rfl : ad144 = ad145 := (by injection e145)
              replace hx145_0 := (HB.out.cell (World.block_lt_of_cell? w _ hx145_0)).trans hx145_0
              replace p145 := eq_true p145
              replace q145 := eq_true q145
              go_wp2
              go_roundg k1
              case measure => have := HK1.out; omega
              case rel => exact ⟨(ji6), (wrap64 (x4_1 + 1)), (by first | rfl | (simp; done) | (simp only [← hji6] <;> (first | rfl | simp)) | (simp [*]; done)), (by first | rfl | (simp; done) | (simp [*]; done)), H', ⟨by have := HK1.out; omega⟩, ⟨bz⟩⟩
            · rw [if_neg c5] at H
              exact absurd H (by simp)
          · rw [if_neg c4] at H
            have c4b0 := decide_eq_false c4
            clear c4
            obtain rfl := Option.some.inj H
            go_wp2
            go_ret
            exact ez
    · rw [if_neg c3] at H
      exact absurd H (by simp)
end
section
def line_rate.step (k : Nat) (ls lv : List Int) (thr : Int) (j : Nat) (s : Int × Int) : Option (Int × Int) :=
 (line_noisy.f k ls lv j).bind fun row => (Sp_int_106.f k row).bind fun m => some (if thr ≤ m then wrap64 (s.1 + 1) else s.1, wrap64 (s.2 + 1))
def line_rate.f (k : Nat) (l0 l1_0 : List Int) (a2 : Int) : Option (Int × Int) :=
 (line_cases.f k l1_0 l0.length).bind fun c => if 0 ≤ c.1 then if c.1 ≤ 1000000 then (iterN (line_rate.step k l0 l1_0 a2) c.1.toNat (0, 0)).bind fun s => line_fraction.f k s.1 s.2 else none else none
theorem line_rate.mono : ∀ a0 a1 a2 k, LeO (line_rate.f k a0 a1 a2) (line_rate.f (k + 1) a0 a1 a2) := by
 intro a0 a1 a2 k
 unfold line_rate.f
 refine LeO.bind (line_cases.mono _ _ _) (fun c => ?_)
 refine LeO.ite (LeO.ite (LeO.bind (iterN_mono (fun j s => ?_) _ _) (fun s => line_fraction.mono _ _ _)) (LeO.none _)) (LeO.none _)
 unfold line_rate.step
 exact LeO.bind (line_noisy.mono _ _ _ _) (fun row => LeO.bind (Sp_int_106.mono _ _) (fun m => LeO.refl _))
attribute [local go_sem] Oper.semAt_some
theorem line_rate.calls (k : Nat) (A0 : Option Addr) (c0 : Nat) (l0 : List Int) (A1_0 : Option Addr) (c1_0 : Nat) (l1_0 : List Int) (a2 : Int) (r1 r2 : Int) (w : World) (hr0 : Kd.C (Kd.int .i64) w A0 l0.length l0) (hc0 : l0.length ≤ c0) (hr1_0 : Kd.C (Kd.int .i64) w A1_0 l1_0.length l1_0) (hc1_0 : l1_0.length ≤ c1_0) (h : line_rate.f k l0 l1_0 a2 = some (r1, r2)) :
  Calls Tryd.prog 101 #[.slice A0 l0.length c0, .agg #[.slice A1_0 l1_0.length c1_0], .int .i64 a2] w fun e w' => e = .returned (.agg #[.int .i64 r1, .int .i64 r2]) ∧ Below w.heap.size w w' := by
 unfold line_rate.f at h
 obtain ⟨⟨all, few⟩, hall, h⟩ := Option.bind_eq_some_iff.mp h
 by_cases h0 : 0 ≤ all
 case neg => rw [if_neg h0] at h; exact absurd h (by simp)
 rw [if_pos h0] at h
 by_cases hbig : all ≤ 1000000
 case neg => rw [if_neg hbig] at h; exact absurd h (by simp)
 rw [if_pos hbig] at h
 obtain ⟨⟨hits, cnt⟩, hit, hfr⟩ := Option.bind_eq_some_iff.mp h
 replace hit : iterN (line_rate.step k l0 l1_0 a2) all.toNat (0, 0) = some (hits, cnt) := hit
 replace hfr : line_fraction.f k hits cnt = some (r1, r2) := hfr
 clear h
 refine (callsIn_wide (n := 9)).1 ?_
 refine callsIn_of_wp_marks Tryd.func101 rfl trivial ?_ rfl
 simp only [Tryd.ntmps101, List.size_toArray, List.length_cons, List.length_nil, Nat.reduceAdd, Nat.reduceSub, Array.replicate_succ, Array.replicate_zero, List.push_toArray, List.append_toArray, List.nil_append, List.cons_append]
 gi_wp2_with (first | (refine ⟨trivial, ?_⟩; gi_at_call 94; refine (callsIn_wide.2 (line_each.calls_own _ _ _ _ _ _ _)).mono ?_; rintro e w' ⟨rfl, rfl⟩))
 obtain ⟨W0, hW0⟩ : ∃ W0, (((((((w.alloc (.cells #[.slice A1_0 l1_0.length c1_0] 24)).alloc (.cells #[.int .i64 a2] 3)).alloc (.cells #[.int .i64 0, .int .i64 0] 26)).alloc (.cells #[.int .i64 0] 3)).alloc (.cells #[.int .i64 0] 3)).alloc (.cells #[.slice A0 l0.length c0] 22)).alloc (.cells #[.slice A1_0 l1_0.length c1_0] 24)) = W0 := ⟨_, rfl⟩
 have hz : W0.heap.size = w.heap.size + 7 := by rw [← hW0]; simp
 have hb0 : Below w.heap.size w W0 := by rw [← hW0]; repeat (first | exact Below.refl _ _ | apply below_alloc)
 have k0 : W0.heap[w.heap.size]? = some (.cells #[.slice A1_0 l1_0.length c1_0] 24 (0, 0)) := by
  rw [← hW0]; iterate 6 apply blk_alloc
  have := blk_new w (.cells #[.slice A1_0 l1_0.length c1_0] 24 (0, 0)); simpa using this
 have k1 : W0.heap[w.heap.size + 1]? = some (.cells #[.int .i64 a2] 3 (0, 0)) := by
  rw [← hW0]; iterate 5 apply blk_alloc
  have := blk_new (w.alloc (.cells #[.slice A1_0 l1_0.length c1_0] 24)) (.cells #[.int .i64 a2] 3 (0, 0)); simpa using this
 have k2 : W0.heap[w.heap.size + 1 + 1]? = some (.cells #[.int .i64 0, .int .i64 0] 26 (0, 0)) := by
  rw [← hW0]; iterate 4 apply blk_alloc
  have := blk_new ((w.alloc (.cells #[.slice A1_0 l1_0.length c1_0] 24)).alloc (.cells #[.int .i64 a2] 3)) (.cells #[.int .i64 0, .int .i64 0] 26 (0, 0)); simpa using this
 have k3 : W0.heap[w.heap.size + 1 + 1 + 1]? = some (.cells #[.int .i64 0] 3 (0, 0)) := by
  rw [← hW0]; iterate 3 apply blk_alloc
  have := blk_new (((w.alloc (.cells #[.slice A1_0 l1_0.length c1_0] 24)).alloc (.cells #[.int .i64 a2] 3)).alloc (.cells #[.int .i64 0, .int .i64 0] 26)) (.cells #[.int .i64 0] 3 (0, 0)); simpa using this
 have k4 : W0.heap[w.heap.size + 1 + 1 + 1 + 1]? = some (.cells #[.int .i64 0] 3 (0, 0)) := by
  rw [← hW0]; iterate 2 apply blk_alloc
  have := blk_new ((((w.alloc (.cells #[.slice A1_0 l1_0.length c1_0] 24)).alloc (.cells #[.int .i64 a2] 3)).alloc (.cells #[.int .i64 0, .int .i64 0] 26)).alloc (.cells #[.int .i64 0] 3)) (.cells #[.int .i64 0] 3 (0, 0)); simpa using this
 have k5 : W0.heap[w.heap.size + 1 + 1 + 1 + 1 + 1]? = some (.cells #[.slice A0 l0.length c0] 22 (0, 0)) := by
  rw [← hW0]; iterate 1 apply blk_alloc
  have := blk_new (((((w.alloc (.cells #[.slice A1_0 l1_0.length c1_0] 24)).alloc (.cells #[.int .i64 a2] 3)).alloc (.cells #[.int .i64 0, .int .i64 0] 26)).alloc (.cells #[.int .i64 0] 3)).alloc (.cells #[.int .i64 0] 3)) (.cells #[.slice A0 l0.length c0] 22 (0, 0)); simpa using this
 have k6 : W0.heap[w.heap.size + 1 + 1 + 1 + 1 + 1 + 1]? = some (.cells #[.slice A1_0 l1_0.length c1_0] 24 (0, 0)) := by
  rw [← hW0]; iterate 0 apply blk_alloc
  have := blk_new ((((((w.alloc (.cells #[.slice A1_0 l1_0.length c1_0] 24)).alloc (.cells #[.int .i64 a2] 3)).alloc (.cells #[.int .i64 0, .int .i64 0] 26)).alloc (.cells #[.int .i64 0] 3)).alloc (.cells #[.int .i64 0] 3)).alloc (.cells #[.slice A0 l0.length c0] 22)) (.cells #[.slice A1_0 l1_0.length c1_0] 24 (0, 0)); simpa using this
 rw [hW0]
 clear hW0
 have hstep := fun (j : Nat) (hj : (j : Int) < all) => iterN_pre hit (show j ≤ all.toNat by omega)
 have hrow : ∀ j : Nat, (j : Int) < all → line_noisy.f k l0 l1_0 j = some ((line_noisy.f k l0 l1_0 j).getD []) := fun j hj => by
  obtain ⟨q, hq⟩ := hstep j hj
  obtain ⟨q', hq', _⟩ := iterN_at hit (show j < all.toNat by omega) hq
  obtain ⟨row, hr, _⟩ := Option.bind_eq_some_iff.mp hq'
  rw [hr]; rfl
 have hY := line_each.yields 8 k (by decide) A0 A1_0 c0 c1_0 l0 l1_0 all few (fun j => (line_noisy.f k l0 l1_0 j).getD []) w (w.heap.size + 1 + 1 + 1 + 1 + 1 + 1) (w.heap.size + 1 + 1 + 1 + 1 + 1) W0 hb0 ((blk_cell k6 0).trans rfl) ((blk_cell k5 0).trans rfl) hr0 hc0 hr1_0 hc1_0 hall h0 hbig hrow
 have HIT := m0 hit
 have HFR := m0 hfr
 have HY := m0 hY
 clear hit hfr hstep hrow hY
 refine wpIn_rangeN rfl (by decide) (gf := 131) (lb := #[.pointer (some ⟨w.heap.size + 1 + 1 + 1 + 1 + 1 + 1, 0, none⟩), .pointer (some ⟨w.heap.size + 1 + 1 + 1 + 1 + 1, 0, none⟩)]) rfl trivial (enters_of Tryd.func131 (by kernel_rfl) rfl) HY.out
  (line_each.Rd_putObj) (fun h k => h.trans k) (fun W l o o' hl h hc hw => line_each.Kp_putObj (w := W0) (v1 := undef) (v2 := undef) (by omega) W l o o' hl h hc hw (by omega) (by omega)) (Below.refl _ _) (fun _ _ => rfl)
  (fun j W => (∃ s : Int × Int, iterN (line_rate.step k l0 l1_0 a2) j (0, 0) = some s ∧ W.heap[w.heap.size + 1 + 1 + 1]? = some (.cells #[.int .i64 s.1] 3 (0, 0)) ∧ W.heap[w.heap.size + 1 + 1 + 1 + 1]? = some (.cells #[.int .i64 s.2] 3 (0, 0)) ∧ W.heap[w.heap.size + 1]? = some (.cells #[.int .i64 a2] 3 (0, 0)) ∧ W.heap[w.heap.size + 1 + 1]? = some (.cells #[.int .i64 0, .int .i64 0] 26 (0, 0)) ∧ W0.heap.size ≤ W.heap.size) ∧ Below w.heap.size w W)
  (fun _ _ _ => False)
  (OwnFrom.and (fun j A B row hs hg hr => by
   obtain ⟨s, h1, h2, h3, h4, h5, h6⟩ := hs
   exact ⟨s, h1, blk_own h2 hg hr, blk_own h3 hg hr, blk_own h4 hg hr, blk_own h5 hg hr, Nat.le_trans h6 hg.size⟩) (ownFrom_below (Nat.le_refl _) (by omega)))
  (fun _ _ _ _ _ hs _ _ => hs)
  ⟨⟨(0, 0), rfl, k3, k4, k1, k2, Nat.le_refl _⟩, hb0⟩
  (fun j x => { tmps := #[.slice A0 l0.length c0, .agg #[.slice A1_0 l1_0.length c1_0], .int .i64 a2, undef, .pointer (some ⟨w.heap.size, 0, none⟩), .pointer (some ⟨w.heap.size + 1, 0, none⟩), .pointer (some ⟨w.heap.size + 1 + 1, 0, none⟩), .pointer (some ⟨w.heap.size + 1 + 1 + 1, 0, none⟩), .pointer (some ⟨w.heap.size + 1 + 1 + 1 + 1, 0, none⟩), undef, x, .slice A0 l0.length c0, .agg #[.slice A1_0 l1_0.length c1_0], .func (.func 131) #[] #[.pointer (some ⟨w.heap.size + 1 + 1 + 1 + 1 + 1 + 1, 0, none⟩), .pointer (some ⟨w.heap.size + 1 + 1 + 1 + 1 + 1, 0, none⟩)], .int .i64 (j : Int), x, undef, undef, undef, undef, undef, undef, undef, undef, undef, undef, undef], defers := [] }) ?assign ?body ?done ?stop
 case assign =>
  intro l j x W K hK
  gi_wp2
  exact hK
 case stop =>
  rintro D c j W _ _ h _
  exact h.elim
 case body =>
  rintro l j x W ⟨⟨⟨s1, s2⟩, hs, h3, h4, h1, h2, h6⟩, hB⟩ ⟨A, c, hx, hc, hC, hm⟩ hj
  obtain ⟨q', hq', hq1⟩ := iterN_at HIT.out hj hs
  obtain ⟨row, hr, hq'⟩ := Option.bind_eq_some_iff.mp hq'
  obtain ⟨m, hmx, hq'⟩ := Option.bind_eq_some_iff.mp hq'
  have er : (line_noisy.f k l0 l1_0 (j : Int)).getD [] = row := by rw [hr]; rfl
  simp only [er] at hx hc hC
  subst hx
  obtain rfl := Option.some.inj hq'
  have H3 := m0 h3
  have H4 := m0 h4
  have H1 := m0 h1
  have H2 := m0 h2
  have HBB := m0 hB
  have H6 := m0 h6
  have HC := m0 hC
  have HCC := m0 hc
  have HM := m0 hm
  have HMX := m0 hmx
  have HQ1 := m0 hq1
  have HZ := m0 hz
  have c4 : W.cell? ⟨w.heap.size + 1 + 1 + 1 + 1, 0, none⟩ = some (.int .i64 s2) := (blk_cell h4 0).trans rfl
  have f4 := blk_frozen h4 0
  clear h1 h2 h3 h4 hB h6 hC hc hm hmx hq1 hq' hs hr er hz k0 k1 k2 k3 k4 k5 k6 hb0 hall HIT HFR HY hr0 hr1_0 hc0 hc1_0 hj
  have hmo : Tryd.prog.follows .mixedOrders = true := by kernel_rfl
  have c1_ : W.cell? ⟨w.heap.size + 1, 0, none⟩ = some (.int .i64 a2) := (blk_cell H1.out 0).trans rfl
  have hcall : ∀ W5 : World, W5.heap = (W.setCell ⟨w.heap.size + 1 + 1 + 1 + 1, 0, none⟩ (.int .i64 (wrap64 (s2 + 1)))).heap → W5.os = W.os → W5.tape = W.tape → W5.output = W.output → Calls Tryd.prog 106 #[.slice A row.length c] W5 fun e w5 => e = .returned (.int .i64 m) ∧ w5.cell? ⟨w.heap.size + 1, 0, none⟩ = some (.int .i64 a2) ∧ w5.cell? ⟨w.heap.size + 1 + 1 + 1, 0, none⟩ = some (.int .i64 s1) ∧ w5.frozen? ⟨w.heap.size + 1 + 1 + 1, 0, none⟩ = false ∧ Aside0 (w5.heap[w.heap.size + 1 + 1 + 1]? = some (.cells #[.int .i64 s1] 3 (0, 0)) ∧ w5.heap[w.heap.size + 1 + 1 + 1 + 1]? = some (.cells #[.int .i64 (wrap64 (s2 + 1))] 3 (0, 0)) ∧ w5.heap[w.heap.size + 1]? = some (.cells #[.int .i64 a2] 3 (0, 0)) ∧ w5.heap[w.heap.size + 1 + 1]? = some (.cells #[.int .i64 0, .int .i64 0] 26 (0, 0)) ∧ Below w.heap.size w w5 ∧ KeepsOthers W w5 ∧ line_each.Kp w.heap.size (w.heap.size + 1 + 1 + 1 + 1 + 1 + 1) (w.heap.size + 1 + 1 + 1 + 1 + 1) W w5 ∧ W0.heap.size ≤ w5.heap.size) := fun W5 hh ho ht hp => by
   have ha := HZ.out
   have hb6 := H6.out
   have keep : ∀ g : Nat, g ≠ w.heap.size + 1 + 1 + 1 + 1 → W5.heap[g]? = W.heap[g]? := fun g hg => by rw [hh]; exact heap_setCell_ne hg
   refine (Sp_int_106.calls k A c row m W5 (C_blocks HC.out (fun ad e => keep _ (by have := HM.out ad e; omega))) HCC.out HMX.out).mono ?_
   rintro e w5 ⟨rfl, hb⟩
   have g3 := blk_below ((keep _ (by omega)).trans H3.out) hb
   have g1 := blk_below ((keep _ (by omega)).trans H1.out) hb
   have g2 := blk_below ((keep _ (by omega)).trans H2.out) hb
   have g4 := blk_below (w := W5) (g := w.heap.size + 1 + 1 + 1 + 1) (by rw [hh]; exact blk_put H4.out 0 _ rfl) hb
   have hsz : W5.heap.size = W.heap.size := by rw [hh]; simp [World.setCell]
   have hbb : Below w.heap.size W W5 := ⟨ho, ht, hp, by omega, fun g hg => keep g (by omega)⟩
   have hko : KeepsOthers W W5 := ⟨by omega, fun g o hg hcell => by
    by_cases e : g = w.heap.size + 1 + 1 + 1 + 1
    ·rw [e, H4.out] at hg; cases hg; cases hcell
    ·exact (keep g e).trans hg⟩
   have hkp : line_each.Kp w.heap.size (w.heap.size + 1 + 1 + 1 + 1 + 1 + 1) (w.heap.size + 1 + 1 + 1 + 1 + 1) W W5 := ⟨hbb, World.cell?_of_block (keep (w.heap.size + 1 + 1 + 1 + 1 + 1 + 1) (by omega)), World.cell?_of_block (keep (w.heap.size + 1 + 1 + 1 + 1 + 1) (by omega))⟩
   exact ⟨rfl, (blk_cell g1 0).trans rfl, (blk_cell g3 0).trans rfl, blk_frozen g3 0, ⟨g3, g4, g1, g2, (HBB.out.trans hbb).trans (hb.mono (by omega)), hko.trans (others_below hb), hkp.below (by omega) (by omega) (by omega) hb, by have := hb.size; omega⟩⟩
  have HCALL := m0 hcall
  generalize hLEFT : leftN _ _ _ _ _ = LEFT
  have hyes : ∀ (w5 : World) (a : Act), a2 ≤ m → Aside0 (w5.heap[w.heap.size + 1 + 1 + 1]? = some (.cells #[.int .i64 s1] 3 (0, 0)) ∧ w5.heap[w.heap.size + 1 + 1 + 1 + 1]? = some (.cells #[.int .i64 (wrap64 (s2 + 1))] 3 (0, 0)) ∧ w5.heap[w.heap.size + 1]? = some (.cells #[.int .i64 a2] 3 (0, 0)) ∧ w5.heap[w.heap.size + 1 + 1]? = some (.cells #[.int .i64 0, .int .i64 0] 26 (0, 0)) ∧ Below w.heap.size w w5 ∧ KeepsOthers W w5 ∧ line_each.Kp w.heap.size (w.heap.size + 1 + 1 + 1 + 1 + 1 + 1) (w.heap.size + 1 + 1 + 1 + 1 + 1) W w5 ∧ W0.heap.size ≤ w5.heap.size) → LEFT Exit.normal a (w5.setCell ⟨w.heap.size + 1 + 1 + 1, 0, none⟩ (.int .i64 (wrap64 (s1 + 1)))) := by
   rintro w5 a ht ⟨p3, p4, p1, p2, pB, pK, pKp, pz⟩
   rw [← hLEFT]
   refine ⟨pK.trans (KeepsOthers.setCell _ _ _), pKp.setCell (by omega) (by omega) (by omega), ⟨_, HQ1.out, ?_, blk_ne_set p4 (by omega), blk_ne_set p1 (by omega), blk_ne_set p2 (by omega), ?_⟩, pB.setCell (p := ⟨w.heap.size + 1 + 1 + 1, 0, none⟩) (by show w.heap.size ≤ w.heap.size + 1 + 1 + 1; omega) _⟩
   ·rw [if_pos ht]; exact blk_put p3 0 _ rfl
   ·simpa [World.setCell] using pz
  have hno : ∀ (w5 : World) (a : Act), ¬ a2 ≤ m → Aside0 (w5.heap[w.heap.size + 1 + 1 + 1]? = some (.cells #[.int .i64 s1] 3 (0, 0)) ∧ w5.heap[w.heap.size + 1 + 1 + 1 + 1]? = some (.cells #[.int .i64 (wrap64 (s2 + 1))] 3 (0, 0)) ∧ w5.heap[w.heap.size + 1]? = some (.cells #[.int .i64 a2] 3 (0, 0)) ∧ w5.heap[w.heap.size + 1 + 1]? = some (.cells #[.int .i64 0, .int .i64 0] 26 (0, 0)) ∧ Below w.heap.size w w5 ∧ KeepsOthers W w5 ∧ line_each.Kp w.heap.size (w.heap.size + 1 + 1 + 1 + 1 + 1 + 1) (w.heap.size + 1 + 1 + 1 + 1 + 1) W w5 ∧ W0.heap.size ≤ w5.heap.size) → LEFT Exit.normal a w5 := by
   rintro w5 a ht ⟨p3, p4, p1, p2, pB, pK, pKp, pz⟩
   rw [← hLEFT]
   refine ⟨pK, pKp, ⟨_, HQ1.out, ?_, p4, p1, p2, pz⟩, pB⟩
   rw [if_neg ht]; exact p3
  have HYES := m0 hyes
  have HNO := m0 hno
  clear hyes hno hcall hLEFT
  gi_wp2
  gi_region_with_o (refine ⟨trivial, ?_⟩; gi_at_call 106; refine (CallsIn.inRound l (callsIn_wide.2 (HCALL.out _ (by rfl) (by rfl) (by rfl) (by rfl)))).mono ?_; rintro e w5 ⟨rfl, g1, g3, f3, HX⟩)
  all_goals gi_wp2
  all_goals (try go_bits)
  all_goals first | exact HYES.out _ _ (by assumption) HX | exact HNO.out _ _ (by first | assumption | (have : m < a2 := (by assumption); omega)) HX
 case done =>
  rintro D W hD ⟨⟨s, hs, h3, h4, h1, h2, h6⟩, hB⟩ hK
  rw [HIT.out] at hs
  cases hs
  have H2 := m0 h2
  have HBB := m0 hB
  have HZ := m0 hz
  have H6 := m0 h6
  have HK := m0 hK
  have HD := m0 hD
  have c3 : W.cell? ⟨w.heap.size + 1 + 1 + 1, 0, none⟩ = some (.int .i64 hits) := (blk_cell h3 0).trans rfl
  have c4 : W.cell? ⟨w.heap.size + 1 + 1 + 1 + 1, 0, none⟩ = some (.int .i64 cnt) := (blk_cell h4 0).trans rfl
  clear h1 h2 h3 h4 hB h6 hz k0 k1 k2 k3 k4 k5 k6 hb0 hall HIT HY hr0 hr1_0 hc0 hc1_0 hK hD
  gi_wp2_with (first | (refine ⟨trivial, ?_⟩; gi_at_call 96; refine (callsIn_wide.2 (line_fraction.calls k hits cnt r1 r2 W HFR.out)).mono ?_; rintro e w5 ⟨rfl, hb⟩; have g2 := blk_below H2.out hb; have z0 : w5.cell? ⟨w.heap.size + 1 + 1, 0, none⟩ = some (.int .i64 0) := (blk_cell g2 0).trans rfl; have z1 : w5.cell? ⟨w.heap.size + 1 + 1, 1, none⟩ = some (.int .i64 0) := (blk_cell g2 1).trans rfl; have f0 := blk_frozen g2 0; have f1 := blk_frozen g2 1; have HB5 := m0 hb; have G2 := m0 g2; clear hb g2))
  have hK5 : w5.heap[D]? = some (.deferred (some [])) := blk_below HK.out HB5.out
  have hZ := HZ.out
  have hD := HD.out
  have hK6 : ((w5.setCell ⟨w.heap.size + 1 + 1, 0, none⟩ (.int .i64 r1)).setCell ⟨w.heap.size + 1 + 1, 1, none⟩ (.int .i64 r2)).heap[D]? = some (.deferred (some [])) := blk_ne_set (blk_ne_set hK5 (by omega)) (by omega)
  refine ⟨by simp, .inl ⟨_, _, rfl, run_takeDeferred hK6, ?_⟩⟩
  have b1 : Below w.heap.size w ((w5.setCell ⟨w.heap.size + 1 + 1, 0, none⟩ (.int .i64 r1)).setCell ⟨w.heap.size + 1 + 1, 1, none⟩ (.int .i64 r2)) :=
   ((HBB.out.trans (HB5.out.mono HBB.out.size)).setCell (p := ⟨w.heap.size + 1 + 1, 0, none⟩) (by show w.heap.size ≤ w.heap.size + 1 + 1; omega) _).setCell (p := ⟨w.heap.size + 1 + 1, 1, none⟩) (by show w.heap.size ≤ w.heap.size + 1 + 1; omega) _
  exact ⟨.agg #[.int .i64 r1, .int .i64 r2], results_cell_row rfl _ _ (w.heap.size + 1 + 1) 26 #[.int .i64 r1, .int .i64 r2] (0, 0) _ rfl ((World.putObj_heap_other (by omega)).trans (blk_put (cs := #[.int .i64 r1, .int .i64 0]) (blk_put (cs := #[.int .i64 0, .int .i64 0]) G2.out 0 _ rfl) 1 _ rfl)) Tryd.underlying26 rfl (by kernel_rfl), rfl, b1.trans (belowK_b (w := w) (Nat.le_refl _) _ D _ _ (by omega) hK6 rfl rfl)⟩
end
section
theorem slices_IndexFunc_int_int.own (g : Nat) (lb : Array Value) (eg : ∀ args w, (callFunc g args).run Tryd.prog w = .ok (.enter g args) w) (p : Int → Bool) (A0 : Option Addr) (c0 : Nat) (l0 : List Int) (w : World) (hp : PredI g lb p w) (hr0 : Kd.C (Kd.int .i64) w A0 l0.length l0) :
  Calls Tryd.prog 141 #[.slice A0 l0.length c0, .func (.func g) #[] lb] w fun e w' => e = .returned (.int .i64 (idxF p l0)) ∧ Drawn0 w w' := by
 have HR0 := m0 hr0
 have HL := m0 (show (l0.length : Int) ≤ 9223372036854775807 from by have := hr0.2.1; omega)
 clear hr0
 have hpAt : ∀ (x : Int) (q : Nat), Calls Tryd.prog g (#[.int .i64 x] ++ lb) (w.drewN q) fun e w' => e = .returned (.bool (p x)) ∧ ∃ q', w' = (w.drewN q).drewN q' := fun x q => hp _ x (pw_below_drewN (Below.refl _ w) q)
 have HP := m0 hpAt
 clear hpAt hp
 go_enter Tryd.func141, Tryd.ntmps141
 go_wp2
 go_loopg [5, 8] l0.length (fun gg _ s8 wr => ∃ x : Int, s8 = .int .i64 x ∧ Aside0 (0 ≤ x ∧ x ≤ l0.length ∧ (l0.length : Int) - x ≤ gg ∧ ∀ j : Nat, (j : Int) < x → p (rd l0 j) = false) ∧ Drawn0 w wr)
 case atStart => exact ⟨0, rfl, ⟨by omega, by omega, by omega, fun j hj => by omega⟩, Drawn0.refl _⟩
 case round =>
  obtain ⟨x, rfl, HA, ⟨q, rfl⟩⟩ := hrel
  by_cases hlt : x < (l0.length : Int)
  ·obtain ⟨ad, e, hx⟩ := Kd.at_int HR0.out x HA.out.1 hlt
   cases e
   have c1 : decide (x < (l0.length : Int)) = true := decide_eq_true hlt
   have p1 := eq_true HA.out.1
   have q1 := eq_true hlt
   clear hlt
   have hcall := HP.out (rd l0 x)
   cases hq : p (rd l0 x) with
   | true =>
    rw [hq] at hcall
    have HQ := m0 hq
    have HC := m0 hcall
    clear hq hcall
    go_wp2_with (go_at_fn g; refine (HC.out _).mono ?_; rintro e w' ⟨rfl, q', rfl⟩)
    go_ret
    refine ⟨?_, ⟨⟨_, rfl⟩⟩⟩
    obtain ⟨h0, h1, h2, h3⟩ := HA.out
    have hc := of_decide_eq_true c1
    have hn : ((x.toNat : Nat) : Int) = x := by omega
    exact ret_int (by rw [idxF_hit p l0 x.toNat (by omega) (by rw [hn]; exact HQ.out) (fun j hj => h3 j (by omega)), hn])
   | false =>
    rw [hq] at hcall
    have HQ := m0 hq
    have HC := m0 hcall
    clear hq hcall
    go_wp2_with (go_at_fn g; refine (HC.out _).mono ?_; rintro e w' ⟨rfl, q', rfl⟩)
    obtain ⟨h0, h1, h2, h3⟩ := HA.out
    have hc := of_decide_eq_true c1
    have hL := HL.out
    go_roundg (l0.length - (x + 1)).toNat
    case measure => omega
    case rel =>
     refine ⟨wrap64 (x + 1), rfl, ⟨?_⟩, ⟨⟨_, rfl⟩⟩⟩
     have e1 : wrap64 (x + 1) = x + 1 := by unfold wrap64; omega
     rw [e1]
     refine ⟨by omega, by omega, by omega, fun j hj => ?_⟩
     by_cases e : (j : Int) = x
     ·rw [e]; exact HQ.out
     ·exact h3 j (by omega)
  ·have c1 : decide (x < (l0.length : Int)) = false := decide_eq_false hlt
   have HN := m0 hlt
   clear hlt
   go_wp2
   go_ret
   refine ⟨?_, ⟨⟨q, rfl⟩⟩⟩
   obtain ⟨h0, h1, h2, h3⟩ := HA.out
   have := HN.out
   exact ret_int (idxF_miss p l0 (fun j hj => h3 j (by omega))).symm
end
section
def line_listErr.f (l0 : List Int) (a1 a2 : Int) : Option (Int × Int) :=
 if l0.length = 0 then some (0, 10) else if a1 < l0.length then some (0, 8) else
  if idxF (fun x => !(decide (0 ≤ x) && decide (x ≤ a2))) l0 ≥ 0 then some (idxF (fun x => !(decide (0 ≤ x) && decide (x ≤ a2))) l0, 2) else some (0, 0)
theorem C_two {w : World} {b : Nat} {x y : Int} (h0 : w.cell? ⟨b, 0, none⟩ = some (.int .i64 x)) (h1 : w.cell? ⟨b, 1, none⟩ = some (.int .i64 y)) : Kd.C (Kd.int .i64) w (some ⟨b, 0, none⟩) [x, y].length [x, y] := by
 refine ⟨rfl, by simp, fun _ => ⟨_, rfl, ?_⟩⟩
 intro j p hp
 match j, hp with
 | 0, hp => exact ⟨[.int .i64 x], rfl, by cases hp; rfl, fun i u hu => by match i, hu with | 0, hu => cases hu; show w.cell? ((⟨b, 0, none⟩ : Addr).add 0) = _; rw [add_plain]; exact h0 | (k + 1), hu => simp at hu⟩
 | 1, hp => exact ⟨[.int .i64 y], rfl, by cases hp; rfl, fun i u hu => by match i, hu with | 0, hu => cases hu; show w.cell? ((⟨b, 0, none⟩ : Addr).add 1) = _; rw [add_plain]; exact h1 | (k + 1), hu => simp at hu⟩
 | (k + 2), hp => simp at hp
theorem first_two (x y : Int) : line_first.f 4 [x, y] = some (if x = 0 then y else x) := by
 by_cases hx : x = 0
 ·by_cases hy : y = 0 <;> simp [line_first.f, line_first.l0, rd, wrap64, hx, hy]
 ·simp [line_first.f, line_first.l0, rd, hx]
theorem first_two_calls {b : Nat} {x y : Int} (w : World) (h0 : w.cell? ⟨b, 0, none⟩ = some (.int .i64 x)) (h1 : w.cell? ⟨b, 1, none⟩ = some (.int .i64 y)) :
  Calls Tryd.prog 91 #[.slice (some ⟨b, 0, none⟩) 2 2] w fun e w' => e = .returned (.int .i64 (if x = 0 then y else x)) ∧ ∃ q, w' = w.drewN q :=
 (line_first.calls 4 (some ⟨b, 0, none⟩) 2 [x, y] _ w (C_two h0 h1) (by simp) (first_two x y)).mono fun _ _ ⟨he, hw⟩ => ⟨he, hw.out⟩
theorem unless_calls (b : Bool) (e : Int) (w : World) : Calls Tryd.prog 93 #[.bool b, .int .i64 e] w fun x w' => x = .returned (.int .i64 (if b = true then 0 else e)) ∧ ∃ q, w' = w.drewN q :=
 (line_unless.calls b e _ w (by cases b <;> rfl)).mono fun _ _ ⟨he, hw⟩ => ⟨he, hw.out⟩
theorem line_listErr.pred {B : Nat} {a2 : Int} {w : World} (hc : w.cell? ⟨B, 0, none⟩ = some (.int .i64 a2)) : PredI 142 #[.pointer (some ⟨B, 0, none⟩)] (fun x => !(decide (0 ≤ x) && decide (x ≤ a2))) w := by
 intro W x hb
 have hc' := pw_cell_below hb hc
 clear hc hb
 by_cases h1 : 0 ≤ x <;> by_cases h2 : x ≤ a2 <;> simp only [h1, h2, decide_true, decide_false, Bool.and_self, Bool.and_false, Bool.false_and, Bool.not_true, Bool.not_false]
 all_goals
  go_enter Tryd.func142, Tryd.ntmps142
  go_wp2
  go_ret
  exact ⟨rfl, 0, rfl⟩
theorem line_listErr.calls (A0 : Option Addr) (c0 : Nat) (l0 : List Int) (a1 a2 : Int) (r1 r2 : Int) (w : World) (hr0 : Kd.C (Kd.int .i64) w A0 l0.length l0) (hc0 : l0.length ≤ c0) (h : line_listErr.f l0 a1 a2 = some (r1, r2)) :
  Calls Tryd.prog 120 #[.slice A0 l0.length c0, .int .i64 a1, .int .i64 a2] w fun e w' => e = .returned (.tuple #[.int .i64 r1, .int .i64 r2]) ∧ Below w.heap.size w w' := by
 have HR0 := m0 hr0
 clear hr0 hc0
 have i150 : Tryd.prog.cellsOf 3 = 1 := by kernel_rfl
 by_cases h0 : l0.length = 0
 ·have t1 : decide ((0 : Int) < (l0.length : Int)) = false := decide_eq_false (by omega)
  have t2 : decide (0 < l0.length) = false := decide_eq_false (by omega)
  simp only [line_listErr.f, h0, if_pos] at h
  obtain ⟨rfl, rfl⟩ := h
  clear h0
  cases h3 : decide ((l0.length : Int) ≤ a1)
  ·go_enter Tryd.func120, Tryd.ntmps120
   go_wp2_with (first | (go_at_call 93; refine (unless_calls _ _ _).mono ?_; rintro e w' ⟨rfl, q, rfl⟩) | (go_at_call 91; refine (first_two_calls (x := 10) (y := 8) _ (by go_simp) (by go_simp)).mono ?_; rintro e w' ⟨rfl, q, rfl⟩))
   go_ret2
   exact ⟨rfl, by repeat (first | exact Below.refl _ _ | apply below_alloc | apply pw_below_drewN | apply below_drew)⟩
  ·go_enter Tryd.func120, Tryd.ntmps120
   go_wp2_with (first | (go_at_call 93; refine (unless_calls _ _ _).mono ?_; rintro e w' ⟨rfl, q, rfl⟩) | (go_at_call 91; refine (first_two_calls (x := 10) (y := 0) _ (by go_simp) (by go_simp)).mono ?_; rintro e w' ⟨rfl, q, rfl⟩))
   go_ret2
   exact ⟨rfl, by repeat (first | exact Below.refl _ _ | apply below_alloc | apply pw_below_drewN | apply below_drew)⟩
 ·have t1 : decide ((0 : Int) < (l0.length : Int)) = true := decide_eq_true (by omega)
  have t2 : decide (0 < l0.length) = true := decide_eq_true (by omega)
  simp only [line_listErr.f, h0, if_neg, not_false_eq_true] at h
  by_cases h3 : a1 < l0.length
  ·rw [if_pos h3] at h
   obtain ⟨rfl, rfl⟩ := h
   have t3 : decide ((l0.length : Int) ≤ a1) = false := decide_eq_false (by omega)
   clear h0 h3
   go_enter Tryd.func120, Tryd.ntmps120
   go_wp2_with (first | (go_at_call 93; refine (unless_calls _ _ _).mono ?_; rintro e w' ⟨rfl, q, rfl⟩) | (go_at_call 91; refine (first_two_calls (x := 0) (y := 8) _ (by go_simp) (by go_simp)).mono ?_; rintro e w' ⟨rfl, q, rfl⟩))
   go_ret2
   exact ⟨rfl, by repeat (first | exact Below.refl _ _ | apply below_alloc | apply pw_below_drewN | apply below_drew)⟩
  ·rw [if_neg h3] at h
   have t3 : decide ((l0.length : Int) ≤ a1) = true := decide_eq_true (by omega)
   clear h0 h3
   generalize hI : idxF (fun x => !(decide (0 ≤ x) && decide (x ≤ a2))) l0 = I at h
   have hcall : ∀ W : World, W.cell? ⟨w.heap.size, 0, none⟩ = some (.int .i64 a2) → Below w.heap.size w W → Calls Tryd.prog 141 #[.slice A0 l0.length c0, .func (.func 142) #[] #[.pointer (some ⟨w.heap.size, 0, none⟩)]] W fun e w' => e = .returned (.int .i64 I) ∧ ∃ q, w' = W.drewN q := fun W hc hb => by
    rw [← hI]
    exact (slices_IndexFunc_int_int.own _ _ (enters_of Tryd.func142 (by kernel_rfl) rfl) _ A0 c0 l0 W (line_listErr.pred hc) (Kd.C_below HR0.out hb)).mono fun _ _ ⟨he, hw⟩ => ⟨he, hw.out⟩
   have HC := m0 hcall
   clear hcall hI
   by_cases h4 : I ≥ 0
   ·rw [if_pos h4] at h
    simp only [Option.some.injEq, Prod.mk.injEq] at h
    obtain ⟨h5, rfl⟩ := h
    subst h5
    have t4 : decide (0 ≤ I) = true := decide_eq_true h4
    clear h4
    go_enter Tryd.func120, Tryd.ntmps120
    go_wp2_with (first | (go_at_call 93; refine (unless_calls _ _ _).mono ?_; rintro e w' ⟨rfl, q, rfl⟩) | (go_at_call 91; refine (first_two_calls (x := 0) (y := 0) _ (by go_simp) (by go_simp)).mono ?_; rintro e w' ⟨rfl, q, rfl⟩) | (go_at_call 141; refine (HC.out _ (by go_simp) (by repeat (first | exact Below.refl _ _ | apply below_alloc | apply pw_below_drewN | apply below_drew))).mono ?_; rintro e w' ⟨rfl, q, rfl⟩))
    go_ret2
    exact ⟨rfl, by repeat (first | exact Below.refl _ _ | apply below_alloc | apply pw_below_drewN | apply below_drew)⟩
   ·rw [if_neg h4] at h
    obtain ⟨rfl, rfl⟩ := h
    have t4 : decide (0 ≤ I) = false := decide_eq_false h4
    clear h4
    go_enter Tryd.func120, Tryd.ntmps120
    go_wp2_with (first | (go_at_call 93; refine (unless_calls _ _ _).mono ?_; rintro e w' ⟨rfl, q, rfl⟩) | (go_at_call 91; refine (first_two_calls (x := 0) (y := 0) _ (by go_simp) (by go_simp)).mono ?_; rintro e w' ⟨rfl, q, rfl⟩) | (go_at_call 141; refine (HC.out _ (by go_simp) (by repeat (first | exact Below.refl _ _ | apply below_alloc | apply pw_below_drewN | apply below_drew))).mono ?_; rintro e w' ⟨rfl, q, rfl⟩))
    go_ret2
    exact ⟨rfl, by repeat (first | exact Below.refl _ _ | apply below_alloc | apply pw_below_drewN | apply below_drew)⟩
end
section
def line_CheckNoise.f (l0_0 : List Int) : Option (Int × Int) := (line_listErr.f l0_0 4 1000).bind fun bt103 => (some (bt103.1, bt103.2))
theorem line_CheckNoise.calls (A0_0 : Option Addr) (c0_0 : Nat) (l0_0 : List Int) (r1 : Int) (r2 : Int) (w : World) (hr0_0 : Kd.C (Kd.int .i64) w A0_0 l0_0.length l0_0) (hc0_0 : l0_0.length ≤ c0_0) (h : line_CheckNoise.f l0_0 = some (r1, r2)) :
  Calls Tryd.prog 51 #[.agg #[.slice A0_0 l0_0.length c0_0]] w fun e w' => e = .returned (.tuple #[.int .i64 r1, .int .i64 r2]) ∧ Below w.heap.size w w' := by
 have hu24 := Tryd.underlying24
 have HR0_0 := m0 hr0_0
 have HC0_0 := m0 hc0_0
 clear hr0_0 hc0_0
 have HB := m0 (Below.refl w.heap.size w)
 have H : ((line_listErr.f l0_0 4 1000).bind fun bt103 => (some (bt103.1, bt103.2))) = some (r1, r2) := h
 clear h
 replace H := ob H
 obtain ⟨⟨t103, t104⟩, A20, H⟩ := H
 (try dsimp only at H)
 have A2 := m0 A20
 clear A20
 simp only [Option.some.injEq, Prod.mk.injEq] at H
 obtain ⟨rfl, rfl⟩ := H
 go_enter Tryd.func51, Tryd.ntmps51
 go_wp2_with (first | ((with_reducible refine gate_dst (N := 1) rfl ?_); refine be 1 24 #[.slice A0_0 l0_0.length c0_0] ?_; intro gb102 hg w3 hbox hb; have BK102 := m0 hbox; have GW102 := m0 (bg (n := w.heap.size) hg); have GE102 := m0 (bg (n := w.heap.size) hg); replace HB := sb HB hb; clear hb hbox hg; obtain ⟨_, _⟩ := b1 BK102) | ((with_reducible refine gate_callee (f := 120) rfl ?_); refine gl (some 6) Tryd.func120 #[.slice A0_0 l0_0.length c0_0, .int .i64 4, .int .i64 1000] ?_; (with_reducible refine (line_listErr.calls _ _ l0_0 4 1000 t103 t104 _ ?side1 ?side2 A2.out).mono ?_); (case side1 => exact cb HR0_0 HB); (case side2 => exact HC0_0.out); rintro e w5 ⟨rfl, hb⟩; refine ⟨_, rfl, ?_⟩; replace BK102 := bb BK102 hb; replace HB := sb HB hb; (try clear hb)))
 go_ret2
 exact ez
end
section
def line_openNoise.f (k : Nat) (l0_0 : List Int) (a1 : Int) : Option (List Int × Int) := (line_CheckNoise.f l0_0).bind fun bt301 => ((line_within.f a1 1 16).bind fun t303 => ((line_unless.f t303 2).bind fun t304 => ((line_first.f k (([bt301.2, t304] : List Int))).bind fun t308 => (if t308 = 0 then ((line_cases.f k l0_0 a1).bind fun bt309 => (if 0 ≤ a1 then (if (a1 : Int).toNat ≤ 35184372088832 then ((line_unless.f bt309.2 8).bind fun t314 => (some ((List.replicate (a1 : Int).toNat 0), t314))) else (none)) else (none))) else (some (([] : List Int), t308))))))
theorem line_openNoise.mono : ∀ a0 a1 k, LeO (line_openNoise.f k a0 a1) (line_openNoise.f (k + 1) a0 a1) := by
 intro a0 a1 k
 unfold line_openNoise.f
 repeat' first
   | (with_reducible exact line_cases.mono _ _ _)
   | (with_reducible exact line_first.mono _ _)
   | (with_reducible exact LeO.refl _)
   | (with_reducible exact LeO.none _)
   | (with_reducible refine LeO.ite ?_ ?_)
   | (with_reducible refine LeO.bind ?_ (fun _ => ?_))
   | exact line_cases.mono _ _ _
   | exact line_first.mono _ _
   | exact LeO.none _
   | refine LeO.ite ?_ ?_
   | refine LeO.bind ?_ (fun _ => ?_)
theorem line_openNoise.calls (k : Nat) (A0_0 : Option Addr) (c0_0 : Nat) (l0_0 : List Int) (a1 : Int) (r1 : List Int) (r2 : Int) (w : World) (hr0_0 : Kd.C (Kd.int .i64) w A0_0 l0_0.length l0_0) (hc0_0 : l0_0.length ≤ c0_0) (h : line_openNoise.f k l0_0 a1 = some (r1, r2)) :
  Calls Tryd.prog 129 #[.agg #[.slice A0_0 l0_0.length c0_0], .int .i64 a1] w fun e w' => ∃ v0_ : Value, e = .returned (.tuple #[v0_, .int .i64 r2]) ∧ Kd.R (Kd.int .i64) 3 w' w.heap.size (fun _ => True) v0_ r1 ∧ Below w.heap.size w w' := by
 have hu24 := Tryd.underlying24
 have HR0_0 := m0 hr0_0
 have HC0_0 := m0 hc0_0
 clear hr0_0 hc0_0
 have HB := m0 (Below.refl w.heap.size w)
 have H : ((line_CheckNoise.f l0_0).bind fun bt301 => ((line_within.f a1 1 16).bind fun t303 => ((line_unless.f t303 2).bind fun t304 => ((line_first.f k (([bt301.2, t304] : List Int))).bind fun t308 => (if t308 = 0 then ((line_cases.f k l0_0 a1).bind fun bt309 => (if 0 ≤ a1 then (if (a1 : Int).toNat ≤ 35184372088832 then ((line_unless.f bt309.2 8).bind fun t314 => (some ((List.replicate (a1 : Int).toNat 0), t314))) else (none)) else (none))) else (some (([] : List Int), t308))))))) = some (r1, r2) := h
 clear h
 replace H := ob H
 obtain ⟨⟨t301, t302⟩, A30, H⟩ := H
 (try dsimp only at H)
 have A3 := m0 A30
 clear A30
 replace H := ob H
 obtain ⟨t303, A40, H⟩ := H
 (try dsimp only at H)
 have A4 := m0 A40
 clear A40
 replace H := ob H
 obtain ⟨t304, A50, H⟩ := H
 (try dsimp only at H)
 have A5 := m0 A50
 clear A50
 obtain ⟨y305, hy305⟩ : ∃ y_ : List Int, y_ = (([t302, t304] : List Int)) := ⟨_, rfl⟩
 replace H : ((line_first.f k y305).bind fun t308 => (if t308 = 0 then ((line_cases.f k l0_0 a1).bind fun bt309 => (if 0 ≤ a1 then (if (a1 : Int).toNat ≤ 35184372088832 then ((line_unless.f bt309.2 8).bind fun t314 => (some ((List.replicate (a1 : Int).toNat 0), t314))) else (none)) else (none))) else (some (([] : List Int), t308)))) = some (r1, r2) := by first | (rw [hy305]; with_reducible exact H) | (have H2_ := (Option.bind_some _ _).symm.trans H; rw [hy305]; with_reducible exact H2_) | (have H2_ := (Option.bind_some _ _).symm.trans H; with_reducible exact H2_) | with_reducible exact H | (rw [hy305]; exact H) | exact H
 have Ny305 := m0 hy305
 clear hy305
 replace H := ob H
 obtain ⟨t308, A60, H⟩ := H
 (try dsimp only at H)
 have A6 := m0 A60
 clear A60
 by_cases c7 : t308 = 0
 ·rw [if_pos c7] at H
  have c7b0 := beq_iff_eq.mpr c7
  have c7b1 := bne_eq_false_iff_eq.mpr c7
  clear c7
  replace H := ob H
  obtain ⟨⟨t309, t310⟩, A80, H⟩ := H
  (try dsimp only at H)
  have A8 := m0 A80
  clear A80
  by_cases c9 : 0 ≤ a1
  ·rw [if_pos c9] at H
   have c9b0 := eq_true c9
   have c9b1 := decide_eq_true c9
   clear c9
   by_cases c10 : (a1 : Int).toNat ≤ 35184372088832
   ·rw [if_pos c10] at H
    have c10b0 := eq_true c10
    have c10b1 := decide_eq_true c10
    clear c10
    obtain ⟨y311, hy311⟩ : ∃ y_ : List Int, y_ = (List.replicate (a1 : Int).toNat 0) := ⟨_, rfl⟩
    replace H : ((line_unless.f t310 8).bind fun t314 => (some (y311, t314))) = some (r1, r2) := by first | (rw [hy311]; with_reducible exact H) | (have H2_ := (Option.bind_some _ _).symm.trans H; rw [hy311]; with_reducible exact H2_) | (have H2_ := (Option.bind_some _ _).symm.trans H; with_reducible exact H2_) | with_reducible exact H | (rw [hy311]; exact H) | exact H
    have Ny311 := m0 hy311
    clear hy311
    replace H := ob H
    obtain ⟨t314, A110, H⟩ := H
    (try dsimp only at H)
    have A11 := m0 A110
    clear A110
    simp only [Option.some.injEq, Prod.mk.injEq] at H
    obtain ⟨rfl, rfl⟩ := H
    go_enter Tryd.func129, Tryd.ntmps129
    try go_wp2_with (first | ((with_reducible refine gate_dst (N := 2) rfl ?_); refine be 2 24 #[.slice A0_0 l0_0.length c0_0] ?_; intro gb300 hg w12 hbox hb; have BK300 := m0 hbox; have GW300 := m0 (bg (n := w.heap.size) hg); have GE300 := m0 (bg (n := w.heap.size) hg); replace HB := sb HB hb; clear hb hbox hg; obtain ⟨_, _⟩ := b1 BK300) | ((with_reducible refine gate_callee (f := 51) rfl ?_); refine gl (some 12) Tryd.func51 #[.agg #[.slice A0_0 l0_0.length c0_0]] ?_; (with_reducible refine (line_CheckNoise.calls _ _ l0_0 t301 t302 _ ?side1 ?side2 A3.out).mono ?_); (case side1 => exact cb HR0_0 HB); (case side2 => exact HC0_0.out); rintro e w14 ⟨rfl, hb⟩; refine ⟨_, rfl, ?_⟩; replace BK300 := bb BK300 hb; replace HB := sb HB hb; (try clear hb)) | ((with_reducible refine gate_callee (f := 105) rfl ?_); refine gl (some 17) Tryd.func105 #[.int .i64 a1, .int .i64 1, .int .i64 16] ?_; (with_reducible refine (line_within.calls a1 1 16 t303 _ A4.out).mono ?_); rintro e w' ⟨rfl, ⟨nd, rfl⟩⟩; refine ⟨_, rfl, ?_⟩) | ((with_reducible refine gate_callee (f := 93) rfl ?_); refine gl (some 18) Tryd.func93 #[.bool t303, .int .i64 2] ?_; (with_reducible refine (line_unless.calls t303 2 t304 _ A5.out).mono ?_); rintro e w' ⟨rfl, ⟨nd, rfl⟩⟩; refine ⟨_, rfl, ?_⟩) | ((with_reducible refine gate_dst (N := 19) rfl ?_); refine Kd.R_lit (Kd.int .i64) _ 31 ?hg (N := 19) ?hd (xs := ([t302, t304] : List Int)) (inner := [.int .i64 t302, .int .i64 t304]) (ok := fun _ => True) (okp := fun _ => True) ?hr ?hp (fun _ hk => hk) trivial (Below.refl _ _) (Nat.le_refl _) (by simp) ?_; (case hd => rfl); (case hg => rfl); (case hr => first | (go_simp; done) | (go_simp; rfl)); (case hp => exact (Reps.one (show Kd.M (Kd.int .i64) _ _ _ t302 [.int .i64 t302] from rfl) (Reps.one (show Kd.M (Kd.int .i64) _ _ _ t304 [.int .i64 t304] from rfl) (Reps.none _ _)))); intro v306 w15 ho16 hb hg_ hnew_; clear hg_ hnew_; (first | rw [← Ny305.out] at ho16 | (simp only [Int.reduceToNat] at ho16; rw [← Ny305.out] at ho16)); have HO307 := m0 (Kd.R_lower ho16 (below_size bz)); replace BK300 := bb BK300 hb; replace HB := sb HB hb; clear hb ho16; obtain ⟨Ao17, co17, eo17⟩ := Kd.R_slice HO307.out; subst eo17) | ((with_reducible refine gate_callee (f := 91) rfl ?_); refine gl (some 20) Tryd.func91 #[.slice Ao17 y305.length co17] ?_; (with_reducible refine (line_first.calls k _ _ y305 t308 _ ?side1 ?side2 A6.out).mono ?_); (case side1 => exact bc (Kd.R_reads' HO307.out).2.2); (case side2 => exact (Kd.R_reads' HO307.out).2.1); rintro e w' ⟨rfl, ⟨nd, rfl⟩⟩; refine ⟨_, rfl, ?_⟩; obtain ⟨_, _⟩ := b1 BK300) | ((with_reducible refine gate_callee (f := 121) rfl ?_); refine gl (some 27) Tryd.func121 #[.agg #[.slice A0_0 l0_0.length c0_0], .int .i64 a1] ?_; (with_reducible refine (line_cases.calls k _ _ l0_0 a1 t309 t310 _ ?side1 ?side2 A8.out).mono ?_); (case side1 => repeat (first | exact (Kd.C_below HR0_0.out bz) | (with_reducible refine Kd.C_alloc ?_ _) | (with_reducible refine Kd.C_drewN ?_ _) | (with_reducible refine Kd.C_drew ?_))); (case side2 => exact HC0_0.out); rintro e w19 ⟨rfl, hb⟩; refine ⟨_, rfl, ?_⟩; replace HO307 := rb HO307 hb; replace BK300 := bb BK300 hb; replace HB := sb HB hb; (try clear hb)))
    replace HO307 := m0 (Kd.R_drew HO307.out); replace BK300 := bd BK300; replace HB := sd HB
    refine start_ (n := 6) (S := fun w' => True) (ds := []) #[false, false, false, false, false, false] (by kernel_rfl) rfl rfl trivial (fun hHeld => ?_)
    generalize w19.drew = w20 at HO307 BK300 HB hHeld ⊢
    refine pure_ (i := 0) (N := some 30) (v := ?_) (a' := ?_) #[true, false, false, false, false, false] rfl rfl (by kernel_rfl) (fun _ _ _ h => h) (Or.inl ⟨by rfl, ?_⟩) ?_ ?_
    rotate_left
    ·intro w'
     go_simp
     with_reducible rfl
    rotate_left
    ·exact pz
    refine pure_ (i := 2) (N := some 32) (v := ?_) (a' := ?_) #[true, false, true, false, false, false] rfl rfl (by kernel_rfl) (fun _ _ _ h => h) (Or.inl ⟨by rfl, ?_⟩) ?_ ?_
    rotate_left
    ·intro w'
     go_simp
     with_reducible rfl
    rotate_left
    ·exact pz
    refine join_ (σ := Value) 2 #[true, true, true, true, false, false] (fun s_ => [(31, s_), (33, .int .i64 t314)]) (fun s_ w' => (Kd.R (Kd.int .i64) 31 w' w.heap.size (fun _ => True) (.slice Ao17 y305.length co17) y305) ∧ (Kd.R (Kd.int .i64) 3 w' w.heap.size (fun _ => True) s_ y311) ∧ (w'.heap[gb300]? = some (.cells #[.slice A0_0 l0_0.length c0_0] 24 (0, 0))) ∧ (Below w.heap.size w w')) ?_ ?_
    rotate_left
    ·intro hCont
     refine two_ (i := 1) (j := 3) (Ni := some 31) (Nj := some 33) #[true, true, true, false, false, false] #[true, false, true, true, false, false] rfl rfl rfl rfl (by kernel_rfl) (by decide) (by decide) (fun K hK => ?_) (fun K hK => ?_)
     ·skip
      refine Kd.R_make_step (Kd.int .i64) _ 3 (by rfl) (N := 31) rfl 22 _ _ rfl a1 rfl rfl Tryd.underlying22 (.int .i64 0) 8 info3 rfl (by decide) (by omega) 0 (ok := fun _ => True) (okp := fun _ => True) rfl (fun _ hk => hk) trivial (of_decide_eq_true (by first | (with_reducible assumption) | assumption)) (Nat.le_trans (Nat.mul_le_mul_right _ (of_decide_eq_true (by first | (with_reducible assumption) | assumption) : a1.toNat ≤ 35184372088832)) (by omega)) (Below.refl _ _) (Nat.le_refl _) ?_
      intro v312 w21 ho22 hb hg_ hnew_
      clear hg_ hnew_
      (first | rw [← Ny311.out] at ho22 | (simp only [Int.reduceToNat] at ho22; rw [← Ny311.out] at ho22))
      replace HO307 := rb HO307 hb; have HO313 := m0 (Kd.R_lower ho22 (below_size bz)); replace BK300 := bb BK300 hb; replace HB := sb HB hb
      clear hb ho22
      refine hK.out _ _ trivial (fun hHeld => ?_)
      clear hK K
      refine norm_ (a' := ?_) ?_ ?_
      rotate_left
      ·show Act.put _ (some 31) _ = _
       exact pz
      refine oneZ 3 (some 33) #[true, true, true, true, false, false] (by kernel_rfl) fun K hK => ?_
      refine goes_ Tryd.func93 (by kernel_rfl) rfl #[.bool t310, .int .i64 8] (by rfl) rfl rfl mz ?_
      with_reducible refine (line_unless.calls t310 8 t314 _ A11.out).mono ?_
      rintro e w' ⟨rfl, ⟨nd, rfl⟩⟩
      refine ⟨_, rfl, ?_⟩
      refine hK.out _ _ trivial (fun hHeld => ?_)
      clear hK K
      refine norm_ (a' := ?_) ?_ ?_
      rotate_left
      ·show Act.put _ (some 33) _ = _
       exact pz
      exact norm_ (by simp only [putAll, Act.put, List.setIfInBounds_toArray, List.set_cons_zero, List.set_cons_succ]) (hCont (v312) _ ⟨(br HO307.out), (br HO313.out), (bk BK300.out), bz⟩)
     ·skip
      refine goes_ Tryd.func93 (by kernel_rfl) rfl #[.bool t310, .int .i64 8] (by rfl) rfl rfl mz ?_
      with_reducible refine (line_unless.calls t310 8 t314 _ A11.out).mono ?_
      rintro e w' ⟨rfl, ⟨nd, rfl⟩⟩
      refine ⟨_, rfl, ?_⟩
      refine hK.out _ _ trivial (fun hHeld => ?_)
      clear hK K
      refine norm_ (a' := ?_) ?_ ?_
      rotate_left
      ·show Act.put _ (some 33) _ = _
       exact pz
      refine oneZ 1 (some 31) #[true, true, true, true, false, false] (by kernel_rfl) fun K hK => ?_
      refine Kd.R_make_step (Kd.int .i64) _ 3 (by rfl) (N := 31) rfl 22 _ _ rfl a1 rfl rfl Tryd.underlying22 (.int .i64 0) 8 info3 rfl (by decide) (by omega) 0 (ok := fun _ => True) (okp := fun _ => True) rfl (fun _ hk => hk) trivial (of_decide_eq_true (by first | (with_reducible assumption) | assumption)) (Nat.le_trans (Nat.mul_le_mul_right _ (of_decide_eq_true (by first | (with_reducible assumption) | assumption) : a1.toNat ≤ 35184372088832)) (by omega)) (Below.refl _ _) (Nat.le_refl _) ?_
      intro v312 w21 ho22 hb hg_ hnew_
      clear hg_ hnew_
      (first | rw [← Ny311.out] at ho22 | (simp only [Int.reduceToNat] at ho22; rw [← Ny311.out] at ho22))
      replace HO307 := rb HO307 hb; have HO313 := m0 (Kd.R_lower ho22 (below_size bz)); replace BK300 := bb BK300 hb; replace HB := sb HB hb
      clear hb ho22
      refine hK.out _ _ trivial (fun hHeld => ?_)
      clear hK K
      refine norm_ (a' := ?_) ?_ ?_
      rotate_left
      ·show Act.put _ (some 31) _ = _
       exact pz
      exact norm_ (by simp only [putAll, Act.put, List.setIfInBounds_toArray, List.set_cons_zero, List.set_cons_succ]) (hCont (v312) _ ⟨(br HO307.out), (br HO313.out), (bk BK300.out), bz⟩)
    rintro v312 w23 ⟨h0_, h1_, h2_, h3_⟩
    have n0_ : Aside0 (Kd.R (Kd.int .i64) 31 w23 w.heap.size (fun _ => True) (.slice Ao17 y305.length co17) y305) := ⟨h0_⟩
    have n1_ : Aside0 (Kd.R (Kd.int .i64) 3 w23 w.heap.size (fun _ => True) v312 y311) := ⟨h1_⟩
    have n2_ : Aside0 (w23.heap[gb300]? = some (.cells #[.slice A0_0 l0_0.length c0_0] 24 (0, 0))) := ⟨h2_⟩
    have n3_ : Aside0 (Below w.heap.size w w23) := ⟨h3_⟩
    clear HO307
    clear BK300
    clear HB
    clear h0_ h1_ h2_ h3_
    have HO307 := n0_
    have HO313 := n1_
    have BK300 := n2_
    have HB := n3_
    clear n0_ n1_ n2_ n3_
    have hHeld := trivial
    refine norm_ (a' := ?_) ?_ ?_
    rotate_left
    ·simp only [putAll, Act.put, List.setIfInBounds_toArray, List.set_cons_zero, List.set_cons_succ]
     rfl
    refine pure_ (i := 4) (N := some 4) (v := ?_) (a' := ?_) #[true, true, true, true, true, false] rfl rfl (by kernel_rfl) (fun _ _ _ h => h) (Or.inl ⟨by rfl, ?_⟩) ?_ ?_
    rotate_left
    ·intro w'
     go_simp
     with_reducible rfl
    rotate_left
    ·exact pz
    refine pure_ (i := 5) (N := some 5) (v := ?_) (a' := ?_) #[true, true, true, true, true, true] rfl rfl (by kernel_rfl) (fun _ _ _ h => h) (Or.inl ⟨by rfl, ?_⟩) ?_ ?_
    rotate_left
    ·intro w'
     go_simp
     with_reducible rfl
    rotate_left
    ·exact pz
    refine done_ (by kernel_rfl) ?_
    try go_wp2
    go_ret2
    exact ⟨_, by first | rfl | (simp [errW_none, errW_some] <;> rfl) | (simp [*, errW_none, errW_some] <;> rfl), by (with_reducible repeat (first | apply Kd.R_alloc | apply Kd.R_drewN | apply Kd.R_drew)); exact HO313.out, by repeat (first | (with_reducible first | exact HB.out | apply below_alloc | apply pw_below_drewN | apply below_drew1 | refine below_set ?_ GE300.out) | exact HB.out)⟩
   ·rw [if_neg c10] at H
    exact absurd H (by simp)
  ·rw [if_neg c9] at H
   exact absurd H (by simp)
 ·rw [if_neg c7] at H
  have c7b0 := beq_eq_false_iff_ne.mpr c7
  have c7b1 := bne_iff_ne.mpr c7
  simp only [Option.some.injEq, Prod.mk.injEq] at H
  obtain ⟨rfl, rfl⟩ := H
  go_enter Tryd.func129, Tryd.ntmps129
  go_wp2_with (first | ((with_reducible refine gate_dst (N := 2) rfl ?_); refine be 2 24 #[.slice A0_0 l0_0.length c0_0] ?_; intro gb300 hg w24 hbox hb; have BK300 := m0 hbox; have GW300 := m0 (bg (n := w.heap.size) hg); have GE300 := m0 (bg (n := w.heap.size) hg); replace HB := sb HB hb; clear hb hbox hg; obtain ⟨_, _⟩ := b1 BK300) | ((with_reducible refine gate_callee (f := 51) rfl ?_); refine gl (some 12) Tryd.func51 #[.agg #[.slice A0_0 l0_0.length c0_0]] ?_; (with_reducible refine (line_CheckNoise.calls _ _ l0_0 t301 t302 _ ?side1 ?side2 A3.out).mono ?_); (case side1 => exact cb HR0_0 HB); (case side2 => exact HC0_0.out); rintro e w26 ⟨rfl, hb⟩; refine ⟨_, rfl, ?_⟩; replace BK300 := bb BK300 hb; replace HB := sb HB hb; (try clear hb)) | ((with_reducible refine gate_callee (f := 105) rfl ?_); refine gl (some 17) Tryd.func105 #[.int .i64 a1, .int .i64 1, .int .i64 16] ?_; (with_reducible refine (line_within.calls a1 1 16 t303 _ A4.out).mono ?_); rintro e w' ⟨rfl, ⟨nd, rfl⟩⟩; refine ⟨_, rfl, ?_⟩) | ((with_reducible refine gate_callee (f := 93) rfl ?_); refine gl (some 18) Tryd.func93 #[.bool t303, .int .i64 2] ?_; (with_reducible refine (line_unless.calls t303 2 t304 _ A5.out).mono ?_); rintro e w' ⟨rfl, ⟨nd, rfl⟩⟩; refine ⟨_, rfl, ?_⟩) | ((with_reducible refine gate_dst (N := 19) rfl ?_); refine Kd.R_lit (Kd.int .i64) _ 31 ?hg (N := 19) ?hd (xs := ([t302, t304] : List Int)) (inner := [.int .i64 t302, .int .i64 t304]) (ok := fun _ => True) (okp := fun _ => True) ?hr ?hp (fun _ hk => hk) trivial (Below.refl _ _) (Nat.le_refl _) (by simp) ?_; (case hd => rfl); (case hg => rfl); (case hr => first | (go_simp; done) | (go_simp; rfl)); (case hp => exact (Reps.one (show Kd.M (Kd.int .i64) _ _ _ t302 [.int .i64 t302] from rfl) (Reps.one (show Kd.M (Kd.int .i64) _ _ _ t304 [.int .i64 t304] from rfl) (Reps.none _ _)))); intro v306 w27 ho28 hb hg_ hnew_; clear hg_ hnew_; (first | rw [← Ny305.out] at ho28 | (simp only [Int.reduceToNat] at ho28; rw [← Ny305.out] at ho28)); have HO307 := m0 (Kd.R_lower ho28 (below_size bz)); replace BK300 := bb BK300 hb; replace HB := sb HB hb; clear hb ho28; obtain ⟨Ao29, co29, eo29⟩ := Kd.R_slice HO307.out; subst eo29) | ((with_reducible refine gate_callee (f := 91) rfl ?_); refine gl (some 20) Tryd.func91 #[.slice Ao29 y305.length co29] ?_; (with_reducible refine (line_first.calls k _ _ y305 t308 _ ?side1 ?side2 A6.out).mono ?_); (case side1 => exact bc (Kd.R_reads' HO307.out).2.2); (case side2 => exact (Kd.R_reads' HO307.out).2.1); rintro e w' ⟨rfl, ⟨nd, rfl⟩⟩; refine ⟨_, rfl, ?_⟩))
  go_ret2
  exact ⟨_, by first | rfl | (simp [errW_none, errW_some] <;> rfl) | (simp [*, errW_none, errW_some] <;> rfl), by first | exact Kd.R_nil _ _ _ _ _ | exact Kd.N_nil _ _ _ _ _ | exact Kd.V_nil _ _ _ _ _ | exact Kd.Q_nil _ _ _ _ _ | exact Kd.S_nil _ _ _ _ _, by repeat (first | (with_reducible first | exact HB.out | apply below_alloc | apply pw_below_drewN | apply below_drew1 | refine below_set ?_ GE300.out) | exact HB.out)⟩
end
section
def line_FalseRate.f (k : Nat) (l0_0 : List Int) (a1 : Int) (a2 : Int) : Option (Int × Int × Int) := (line_openNoise.f k l0_0 a1).bind fun bt317 => ((line_thresholdErr.f a2).bind fun t321 => ((line_first.f k (([bt317.2, t321] : List Int))).bind fun t325 => (if t325 = 0 then ((line_rate.f k bt317.1 l0_0 a2).bind fun bt326 => (some (bt326.1, bt326.2, 0))) else (some (0, 0, t325)))))
theorem line_FalseRate.mono : ∀ a0 a1 a2 k, LeO (line_FalseRate.f k a0 a1 a2) (line_FalseRate.f (k + 1) a0 a1 a2) := by
 intro a0 a1 a2 k
 unfold line_FalseRate.f
 repeat' first
   | (with_reducible exact line_first.mono _ _)
   | (with_reducible exact line_openNoise.mono _ _ _)
   | (with_reducible exact line_rate.mono _ _ _ _)
   | (with_reducible exact LeO.refl _)
   | (with_reducible exact LeO.none _)
   | (with_reducible refine LeO.ite ?_ ?_)
   | (with_reducible refine LeO.bind ?_ (fun _ => ?_))
   | exact line_first.mono _ _
   | exact line_openNoise.mono _ _ _
   | exact line_rate.mono _ _ _ _
   | exact LeO.none _
   | refine LeO.ite ?_ ?_
   | refine LeO.bind ?_ (fun _ => ?_)
theorem line_FalseRate.calls (k : Nat) (A0_0 : Option Addr) (c0_0 : Nat) (l0_0 : List Int) (a1 : Int) (a2 : Int) (r1 : Int) (r2 : Int) (r3 : Int) (w : World) (hr0_0 : Kd.C (Kd.int .i64) w A0_0 l0_0.length l0_0) (hc0_0 : l0_0.length ≤ c0_0) (h : line_FalseRate.f k l0_0 a1 a2 = some (r1, r2, r3)) :
  Calls Tryd.prog 83 #[.agg #[.slice A0_0 l0_0.length c0_0], .int .i64 a1, .int .i64 a2] w fun e w' => e = .returned (.tuple #[.agg #[.int .i64 r1, .int .i64 r2], .int .i64 r3]) ∧ Below w.heap.size w w' := by
 have hu24 := Tryd.underlying24
 have hu26 := Tryd.underlying26
 have HR0_0 := m0 hr0_0
 have HC0_0 := m0 hc0_0
 clear hr0_0 hc0_0
 have HB := m0 (Below.refl w.heap.size w)
 have H : ((line_openNoise.f k l0_0 a1).bind fun bt317 => ((line_thresholdErr.f a2).bind fun t321 => ((line_first.f k (([bt317.2, t321] : List Int))).bind fun t325 => (if t325 = 0 then ((line_rate.f k bt317.1 l0_0 a2).bind fun bt326 => (some (bt326.1, bt326.2, 0))) else (some (0, 0, t325)))))) = some (r1, r2, r3) := h
 clear h
 replace H := ob H
 obtain ⟨⟨t317, t320⟩, A40, H⟩ := H
 (try dsimp only at H)
 have A4 := m0 A40
 clear A40
 replace H := ob H
 obtain ⟨t321, A50, H⟩ := H
 (try dsimp only at H)
 have A5 := m0 A50
 clear A50
 obtain ⟨y322, hy322⟩ : ∃ y_ : List Int, y_ = (([t320, t321] : List Int)) := ⟨_, rfl⟩
 replace H : ((line_first.f k y322).bind fun t325 => (if t325 = 0 then ((line_rate.f k t317 l0_0 a2).bind fun bt326 => (some (bt326.1, bt326.2, 0))) else (some (0, 0, t325)))) = some (r1, r2, r3) := by first | (rw [hy322]; with_reducible exact H) | (have H2_ := (Option.bind_some _ _).symm.trans H; rw [hy322]; with_reducible exact H2_) | (have H2_ := (Option.bind_some _ _).symm.trans H; with_reducible exact H2_) | with_reducible exact H | (rw [hy322]; exact H) | exact H
 have Ny322 := m0 hy322
 clear hy322
 replace H := ob H
 obtain ⟨t325, A60, H⟩ := H
 (try dsimp only at H)
 have A6 := m0 A60
 clear A60
 by_cases c7 : t325 = 0
 ·rw [if_pos c7] at H
  have c7b0 := beq_iff_eq.mpr c7
  have c7b1 := bne_eq_false_iff_eq.mpr c7
  clear c7
  replace H := ob H
  obtain ⟨⟨t326, t327⟩, A80, H⟩ := H
  (try dsimp only at H)
  have A8 := m0 A80
  clear A80
  simp only [Option.some.injEq, Prod.mk.injEq] at H
  obtain ⟨rfl, rfl, rfl⟩ := H
  go_enter Tryd.func83, Tryd.ntmps83
  go_wp2_with (first | ((with_reducible refine gate_dst (N := 3) rfl ?_); refine be 3 24 #[.slice A0_0 l0_0.length c0_0] ?_; intro gb315 hg w9 hbox hb; have BK315 := m0 hbox; have GW315 := m0 (bg (n := w.heap.size) hg); have GE315 := m0 (bg (n := w.heap.size) hg); replace HB := sb HB hb; clear hb hbox hg) | ((with_reducible refine gate_dst (N := 6) rfl ?_); refine be 6 26 #[.int .i64 0, .int .i64 0] ?_; intro gb316 hg w10 hbox hb; have BK316 := m0 hbox; have GW316 := m0 (bg (n := w.heap.size) hg); have GE316 := m0 (bg (n := w.heap.size) hg); replace HB := sb HB hb; have NB315_316 := nl BK315 hg; have NB316_315 := ng (nl BK315 hg); replace BK315 := bb BK315 hb; clear hb hbox hg; have hnb11 := NB315_316.out; have hnc11 := NB316_315.out; obtain ⟨_, _⟩ := b1 BK315) | ((with_reducible refine gate_callee (f := 129) rfl ?_); refine gl (some 13) Tryd.func129 #[.agg #[.slice A0_0 l0_0.length c0_0], .int .i64 a1] ?_; (with_reducible refine (line_openNoise.calls k _ _ l0_0 a1 t317 t320 _ ?side1 ?side2 A4.out).mono ?_); (case side1 => exact cb HR0_0 HB); (case side2 => exact HC0_0.out); rintro e w13 ⟨v318, rfl, ho0, hb⟩; refine ⟨_, rfl, ?_⟩; have HO319 := m0 (Kd.R_lower ho0 (below_size bz)); replace BK315 := bb BK315 hb; replace BK316 := bb BK316 hb; replace HB := sb HB hb; (try clear hb); (try clear ho0)) | ((with_reducible refine gate_callee (f := 100) rfl ?_); refine gl (some 18) Tryd.func100 #[.int .i64 a2] ?_; (with_reducible refine (line_thresholdErr.calls a2 t321 _ A5.out).mono ?_); rintro e w' ⟨rfl, ⟨nd, rfl⟩⟩; refine ⟨_, rfl, ?_⟩; (try (rw [drewN_self w13]; generalize hq_ : World.drewN w13 _ = w13; replace HO319 := gr HO319 hq_; replace BK315 := gd BK315 hq_; replace BK316 := gd BK316 hq_; replace HB := gs HB hq_; clear hq_))) | ((with_reducible refine gate_dst (N := 19) rfl ?_); refine Kd.R_lit (Kd.int .i64) _ 31 ?hg (N := 19) ?hd (xs := ([t320, t321] : List Int)) (inner := [.int .i64 t320, .int .i64 t321]) (ok := fun _ => True) (okp := fun _ => True) ?hr ?hp (fun _ hk => hk) trivial (Below.refl _ _) (Nat.le_refl _) (by simp) ?_; (case hd => rfl); (case hg => rfl); (case hr => first | (go_simp; done) | (go_simp; rfl)); (case hp => exact (Reps.one (show Kd.M (Kd.int .i64) _ _ _ t320 [.int .i64 t320] from rfl) (Reps.one (show Kd.M (Kd.int .i64) _ _ _ t321 [.int .i64 t321] from rfl) (Reps.none _ _)))); intro v323 w14 ho15 hb hg_ hnew_; clear hg_ hnew_; (first | rw [← Ny322.out] at ho15 | (simp only [Int.reduceToNat] at ho15; rw [← Ny322.out] at ho15)); replace HO319 := rb HO319 hb; have HO324 := m0 (Kd.R_lower ho15 (below_size bz)); replace BK315 := bb BK315 hb; replace BK316 := bb BK316 hb; replace HB := sb HB hb; clear hb ho15; obtain ⟨Ao16, co16, eo16⟩ := Kd.R_slice HO324.out; subst eo16) | ((with_reducible refine gate_callee (f := 91) rfl ?_); refine gl (some 20) Tryd.func91 #[.slice Ao16 y322.length co16] ?_; (with_reducible refine (line_first.calls k _ _ y322 t325 _ ?side1 ?side2 A6.out).mono ?_); (case side1 => exact bc (Kd.R_reads' HO324.out).2.2); (case side2 => exact (Kd.R_reads' HO324.out).2.1); rintro e w' ⟨rfl, ⟨nd, rfl⟩⟩; refine ⟨_, rfl, ?_⟩; (try (rw [drewN_self w14]; generalize hq_ : World.drewN w14 _ = w14; replace HO319 := gr HO319 hq_; replace HO324 := gr HO324 hq_; replace BK315 := gd BK315 hq_; replace BK316 := gd BK316 hq_; replace HB := gs HB hq_; clear hq_)); obtain ⟨_, _⟩ := b1 BK315; obtain ⟨Ao18, co18, eo18⟩ := Kd.R_slice HO319.out; subst eo18) | ((with_reducible refine gate_callee (f := 101) rfl ?_); refine gl (some 28) Tryd.func101 #[.slice Ao18 t317.length co18, .agg #[.slice A0_0 l0_0.length c0_0], .int .i64 a2] ?_; (with_reducible refine (line_rate.calls k _ _ t317 _ _ l0_0 a2 t326 t327 _ ?side1 ?side2 ?side3 ?side4 A8.out).mono ?_); (case side1 => exact bc (Kd.R_reads' HO319.out).2.2); (case side2 => exact (Kd.R_reads' HO319.out).2.1); (case side3 => exact cb HR0_0 HB); (case side4 => exact HC0_0.out); rintro e w19 ⟨rfl, hb⟩; refine ⟨_, rfl, ?_⟩; replace HO319 := rb HO319 hb; replace HO324 := rb HO324 hb; replace BK315 := bb BK315 hb; replace BK316 := bb BK316 hb; replace HB := sb HB hb; (try clear hb); obtain ⟨_, _, _, _⟩ := b2 BK316))
  refine bodyPost_ret (results_ct rfl _ _ gb316 26 #[.int .i64 t326, .int .i64 t327] (0, 0) _ rfl (bq BK316.out) Tryd.underlying26 rfl (by kernel_rfl)) rfl ?_
  exact ez
 ·rw [if_neg c7] at H
  have c7b0 := beq_eq_false_iff_ne.mpr c7
  have c7b1 := bne_iff_ne.mpr c7
  simp only [Option.some.injEq, Prod.mk.injEq] at H
  obtain ⟨rfl, rfl, rfl⟩ := H
  go_enter Tryd.func83, Tryd.ntmps83
  go_wp2_with (first | ((with_reducible refine gate_dst (N := 3) rfl ?_); refine be 3 24 #[.slice A0_0 l0_0.length c0_0] ?_; intro gb315 hg w21 hbox hb; have BK315 := m0 hbox; have GW315 := m0 (bg (n := w.heap.size) hg); have GE315 := m0 (bg (n := w.heap.size) hg); replace HB := sb HB hb; clear hb hbox hg) | ((with_reducible refine gate_dst (N := 6) rfl ?_); refine be 6 26 #[.int .i64 0, .int .i64 0] ?_; intro gb316 hg w22 hbox hb; have BK316 := m0 hbox; have GW316 := m0 (bg (n := w.heap.size) hg); have GE316 := m0 (bg (n := w.heap.size) hg); replace HB := sb HB hb; have NB315_316 := nl BK315 hg; have NB316_315 := ng (nl BK315 hg); replace BK315 := bb BK315 hb; clear hb hbox hg; have hnb23 := NB315_316.out; have hnc23 := NB316_315.out; obtain ⟨_, _⟩ := b1 BK315) | ((with_reducible refine gate_callee (f := 129) rfl ?_); refine gl (some 13) Tryd.func129 #[.agg #[.slice A0_0 l0_0.length c0_0], .int .i64 a1] ?_; (with_reducible refine (line_openNoise.calls k _ _ l0_0 a1 t317 t320 _ ?side1 ?side2 A4.out).mono ?_); (case side1 => exact cb HR0_0 HB); (case side2 => exact HC0_0.out); rintro e w25 ⟨v318, rfl, ho0, hb⟩; refine ⟨_, rfl, ?_⟩; have HO319 := m0 (Kd.R_lower ho0 (below_size bz)); replace BK315 := bb BK315 hb; replace BK316 := bb BK316 hb; replace HB := sb HB hb; (try clear hb); (try clear ho0)) | ((with_reducible refine gate_callee (f := 100) rfl ?_); refine gl (some 18) Tryd.func100 #[.int .i64 a2] ?_; (with_reducible refine (line_thresholdErr.calls a2 t321 _ A5.out).mono ?_); rintro e w' ⟨rfl, ⟨nd, rfl⟩⟩; refine ⟨_, rfl, ?_⟩; (try (rw [drewN_self w25]; generalize hq_ : World.drewN w25 _ = w25; replace HO319 := gr HO319 hq_; replace BK315 := gd BK315 hq_; replace BK316 := gd BK316 hq_; replace HB := gs HB hq_; clear hq_))) | ((with_reducible refine gate_dst (N := 19) rfl ?_); refine Kd.R_lit (Kd.int .i64) _ 31 ?hg (N := 19) ?hd (xs := ([t320, t321] : List Int)) (inner := [.int .i64 t320, .int .i64 t321]) (ok := fun _ => True) (okp := fun _ => True) ?hr ?hp (fun _ hk => hk) trivial (Below.refl _ _) (Nat.le_refl _) (by simp) ?_; (case hd => rfl); (case hg => rfl); (case hr => first | (go_simp; done) | (go_simp; rfl)); (case hp => exact (Reps.one (show Kd.M (Kd.int .i64) _ _ _ t320 [.int .i64 t320] from rfl) (Reps.one (show Kd.M (Kd.int .i64) _ _ _ t321 [.int .i64 t321] from rfl) (Reps.none _ _)))); intro v323 w26 ho27 hb hg_ hnew_; clear hg_ hnew_; (first | rw [← Ny322.out] at ho27 | (simp only [Int.reduceToNat] at ho27; rw [← Ny322.out] at ho27)); replace HO319 := rb HO319 hb; have HO324 := m0 (Kd.R_lower ho27 (below_size bz)); replace BK315 := bb BK315 hb; replace BK316 := bb BK316 hb; replace HB := sb HB hb; clear hb ho27; obtain ⟨Ao28, co28, eo28⟩ := Kd.R_slice HO324.out; subst eo28) | ((with_reducible refine gate_callee (f := 91) rfl ?_); refine gl (some 20) Tryd.func91 #[.slice Ao28 y322.length co28] ?_; (with_reducible refine (line_first.calls k _ _ y322 t325 _ ?side1 ?side2 A6.out).mono ?_); (case side1 => exact bc (Kd.R_reads' HO324.out).2.2); (case side2 => exact (Kd.R_reads' HO324.out).2.1); rintro e w' ⟨rfl, ⟨nd, rfl⟩⟩; refine ⟨_, rfl, ?_⟩; (try (rw [drewN_self w26]; generalize hq_ : World.drewN w26 _ = w26; replace HO319 := gr HO319 hq_; replace HO324 := gr HO324 hq_; replace BK315 := gd BK315 hq_; replace BK316 := gd BK316 hq_; replace HB := gs HB hq_; clear hq_)); obtain ⟨_, _, _, _⟩ := b2 BK316))
  refine bodyPost_ret (results_ct rfl _ _ gb316 26 #[.int .i64 0, .int .i64 0] (0, 0) _ rfl (bq BK316.out) Tryd.underlying26 rfl (by kernel_rfl)) rfl ?_
  exact ez
end
section
theorem eqA36 (d : Nat) (w : World) (x0 y0 : Int) (x1 y1 : Int) (x2 y2 : Int) :
  (Op.equalIn (d + 3) 36 (.agg #[.int .i64 x0, .int .i64 x1, .int .i64 x2]) (.agg #[.int .i64 y0, .int .i64 y1, .int .i64 y2])).run Tryd.prog w = .ok ((x0 == y0 && (x1 == y1)) && (x2 == y2)) w := by
 refine eqA_of Tryd.underlying36 (by kernel_rfl) ?_
 refine eqf_cons (by rfl) (by go_simp) (by go_simp) (eqA26 (d + 0) w _ _ _ _) ?_
 exact eqf_last (by rfl) (by go_simp; rfl) (by go_simp; rfl) (by go_simp)
end
section
def line_CheckSpectrum.f (l0 : List Int) : Option (Int × Int) := (line_listErr.f l0 16 10000).bind fun bt105 => (some (bt105.1, bt105.2))
theorem line_CheckSpectrum.calls (A0 : Option Addr) (c0 : Nat) (l0 : List Int) (r1 : Int) (r2 : Int) (w : World) (hr0 : Kd.C (Kd.int .i64) w A0 l0.length l0) (hc0 : l0.length ≤ c0) (h : line_CheckSpectrum.f l0 = some (r1, r2)) :
  Calls Tryd.prog 75 #[.slice A0 l0.length c0] w fun e w' => e = .returned (.tuple #[.int .i64 r1, .int .i64 r2]) ∧ Below w.heap.size w w' := by
 have HR0 := m0 hr0
 have HC0 := m0 hc0
 clear hr0 hc0
 have HB := m0 (Below.refl w.heap.size w)
 have H : ((line_listErr.f l0 16 10000).bind fun bt105 => (some (bt105.1, bt105.2))) = some (r1, r2) := h
 clear h
 replace H := ob H
 obtain ⟨⟨t105, t106⟩, A20, H⟩ := H
 (try dsimp only at H)
 have A2 := m0 A20
 clear A20
 simp only [Option.some.injEq, Prod.mk.injEq] at H
 obtain ⟨rfl, rfl⟩ := H
 go_enter Tryd.func75, Tryd.ntmps75
 go_wp2_with (first | ((with_reducible refine gate_callee (f := 120) rfl ?_); refine gl (some 5) Tryd.func120 #[.slice A0 l0.length c0, .int .i64 16, .int .i64 10000] ?_; (with_reducible refine (line_listErr.calls _ _ l0 16 10000 t105 t106 _ ?side1 ?side2 A2.out).mono ?_); (case side1 => repeat (first | exact HR0.out | (with_reducible refine Kd.C_alloc ?_ _) | (with_reducible refine Kd.C_drewN ?_ _) | (with_reducible refine Kd.C_drew ?_))); (case side2 => exact HC0.out); rintro e w3 ⟨rfl, hb⟩; refine ⟨_, rfl, ?_⟩; replace HB := sb HB hb; (try clear hb)))
 go_ret2
 exact ez
end
section
def line_lowestErr.j0 : Nat → Int → Bool → Int → Int → Option (Int)
 | 0, _, _, _, _ => none
 | k + 1, x1, x15, x108000, x108001 => if x15 = true then (some 3) else ((line_within.f x108000 (wrap64 (-x1)) x1).bind fun t109 => (if t109 = true then ((line_unless.f (decide (x108001 ≤ x1)) 2).bind fun t110 => (some t110)) else ((line_unless.f false 2).bind fun t111 => (some t111))))
def line_lowestErr.f (k : Nat) (a0_0 : Int) (a0_1 : Int) (a1 : Int) : Option (Int) := if a0_1 ≤ 0 then (line_lowestErr.j0 k a1 true a0_0 a0_1) else ((line_divisor.f k a0_0 a0_1).bind fun t108 => (line_lowestErr.j0 k a1 (t108 != 1) a0_0 a0_1))
theorem line_lowestErr.mono_l : ∀ k, (∀ y0 y1 y2 y3, LeO (line_lowestErr.j0 k y0 y1 y2 y3) (line_lowestErr.j0 (k + 1) y0 y1 y2 y3))
 | 0 => fun _ _ _ _ r h => by simp [line_lowestErr.j0] at h
 | k + 1 => by
  have ih0 := line_lowestErr.mono_l k
  ·intro y0 y1 y2 y3
   unfold line_lowestErr.j0
   repeat' first
   | (with_reducible exact ih0 _ _ _ _)
   | (with_reducible exact line_divisor.mono _ _ _)
   | (with_reducible exact LeO.refl _)
   | (with_reducible exact LeO.none _)
   | (with_reducible refine LeO.ite ?_ ?_)
   | (with_reducible refine LeO.bind ?_ (fun _ => ?_))
   | exact ih0 _ _ _ _
   | exact line_divisor.mono _ _ _
   | exact LeO.none _
   | refine LeO.ite ?_ ?_
   | refine LeO.bind ?_ (fun _ => ?_)
theorem line_lowestErr.mono : ∀ a0 a1 a2 k, LeO (line_lowestErr.f k a0 a1 a2) (line_lowestErr.f (k + 1) a0 a1 a2) := by
 intro a0 a1 a2 k
 have ih0 := line_lowestErr.mono_l k
 unfold line_lowestErr.f
 repeat' first
   | (with_reducible exact ih0 _ _ _ _)
   | (with_reducible exact line_divisor.mono _ _ _)
   | (with_reducible exact LeO.refl _)
   | (with_reducible exact LeO.none _)
   | (with_reducible refine LeO.ite ?_ ?_)
   | (with_reducible refine LeO.bind ?_ (fun _ => ?_))
   | exact ih0 _ _ _ _
   | exact line_divisor.mono _ _ _
   | exact LeO.none _
   | refine LeO.ite ?_ ?_
   | refine LeO.bind ?_ (fun _ => ?_)
theorem line_lowestErr.calls (k : Nat) (a0_0 : Int) (a0_1 : Int) (a1 : Int) (r : Int) (w : World) (h : line_lowestErr.f k a0_0 a0_1 a1 = some r) :
  Calls Tryd.prog 109 #[.agg #[.int .i64 a0_0, .int .i64 a0_1], .int .i64 a1] w fun e w' => e = .returned (.int .i64 r) ∧ Below w.heap.size w w' := by
 have hu26 := Tryd.underlying26
 have HB := m0 (Below.refl w.heap.size w)
 have H : (if a0_1 ≤ 0 then (line_lowestErr.j0 k a1 true a0_0 a0_1) else ((line_divisor.f k a0_0 a0_1).bind fun t108 => (line_lowestErr.j0 k a1 (t108 != 1) a0_0 a0_1))) = some r := h
 clear h
 have HC3 := m0 H
 clear H
 go_enter Tryd.func109, Tryd.ntmps109
 go_upto_region 1 with (first | ((with_reducible refine gate_dst (N := 2) rfl ?_); refine be 2 26 #[.int .i64 a0_0, .int .i64 a0_1] ?_; intro gb107 hg w4 hbox hb; have BK107 := m0 hbox; have GW107 := m0 (bg (n := w.heap.size) hg); have GE107 := m0 (bg (n := w.heap.size) hg); replace HB := sb HB hb; clear hb hbox hg))
 (try simp only [Act.put, List.setIfInBounds_toArray, List.set_cons_zero, List.set_cons_succ])
 go_cut [15] (fun v15 wc => ∃ (kq : Nat) (x15_2 : Bool), v15 = .bool x15_2 ∧ Aside0 (line_lowestErr.j0 kq a1 x15_2 a0_0 a0_1 = some r) ∧ Aside0 (kq ≤ k) ∧ Aside0 (wc.heap[gb107]? = some (.cells #[.int .i64 a0_0, .int .i64 a0_1] 26 (0, 0))) ∧ Aside0 (Below w.heap.size w wc))
 case first =>
  have H := HC3.out
  clear HC3
  by_cases c5 : a0_1 ≤ 0
  ·rw [if_pos c5] at H
   have c5b0 := decide_eq_true c5
   clear c5
   (first | rw [c5b0] | (simp only [i64_w, i32_w]; rw [c5b0]) | skip)
   have H' := m0 H
   clear H
   obtain ⟨hcz6_0, hcz6_1, hfz6_0, hfz6_1⟩ := b2 BK107
   go_wp2
   go_meet
   case rel => exact ⟨_, (true), (by first | rfl | (simp; done) | (simp [*]; done)), H', ⟨by first | omega | exact Nat.le_refl _⟩, ⟨bk BK107.out⟩, ⟨bz⟩⟩
  ·rw [if_neg c5] at H
   have c5b0 := decide_eq_false c5
   clear c5
   (first | rw [c5b0] | (simp only [i64_w, i32_w]; rw [c5b0]) | skip)
   replace H := ob H
   obtain ⟨t108, A70, H⟩ := H
   (try dsimp only at H)
   have A7 := m0 A70
   clear A70
   have H' := m0 H
   clear H
   obtain ⟨hcz8_0, hcz8_1, hfz8_0, hfz8_1⟩ := b2 BK107
   go_wp2_with (first | (go_at_call 127; (with_reducible refine (line_divisor.calls k a0_0 a0_1 t108 _ A7.out).mono ?_); rintro e w9 ⟨rfl, hb⟩; replace BK107 := bb BK107 hb; replace HB := sb HB hb; (try clear hb)))
   go_meet
   case rel => exact ⟨_, ((t108 != 1)), (by first | rfl | (simp; done) | (simp [*]; done)), H', ⟨by first | omega | exact Nat.le_refl _⟩, ⟨bk BK107.out⟩, ⟨bz⟩⟩
 case rest =>
  clear HC3
  try clear c1
  try clear p2
  try clear c5
  try clear c5b0
  try clear hcz6_0
  try clear hcz6_1
  try clear hcz8_0
  try clear hcz8_1
  try clear hfz6_0
  try clear hfz6_1
  try clear hfz8_0
  try clear hfz8_1
  obtain ⟨kq, x15_2, rfl, HA, HJ2, BK107, HB⟩ := hcut
  cases kq with
  | zero => exact absurd HA.out (by simp [line_lowestErr.j0])
  | succ kj2 =>
   have H := HA.out
   clear HA
   simp only [line_lowestErr.j0] at H
   by_cases c10 : x15_2 = true
   ·subst c10
    rw [if_pos rfl] at H
    obtain rfl := Option.some.inj H
    go_wp2
    go_ret
    exact ez
   ·replace c10 := Bool.eq_false_iff.mpr c10
    subst c10
    rw [if_neg (show ¬ (false = true) by decide)] at H
    replace H := ob H
    obtain ⟨t109, A110, H⟩ := H
    (try dsimp only at H)
    have A11 := m0 A110
    clear A110
    by_cases c12 : t109 = true
    ·subst c12
     rw [if_pos rfl] at H
     replace H := ob H
     obtain ⟨t110, A130, H⟩ := H
     (try dsimp only at H)
     have A13 := m0 A130
     clear A130
     obtain rfl := Option.some.inj H
     obtain ⟨_, _, _, _⟩ := b2 BK107
     go_wp2_with (first | ((with_reducible refine gate_callee (f := 105) rfl ?_); refine gl (some 21) Tryd.func105 #[.int .i64 a0_0, .int .i64 (wrap64 (-a1)), .int .i64 a1] ?_; (with_reducible refine (line_within.calls a0_0 (wrap64 (-a1)) a1 true _ A11.out).mono ?_); rintro e w' ⟨rfl, ⟨nd, rfl⟩⟩; refine ⟨_, rfl, ?_⟩) | ((with_reducible refine gate_callee (f := 93) rfl ?_); refine gl (some 28) Tryd.func93 #[.bool (decide (a0_1 ≤ a1)), .int .i64 2] ?_; (with_reducible refine (line_unless.calls (decide (a0_1 ≤ a1)) 2 t110 _ A13.out).mono ?_); rintro e w' ⟨rfl, ⟨nd, rfl⟩⟩; refine ⟨_, rfl, ?_⟩))
     go_ret
     exact ez
    ·replace c12 := Bool.eq_false_iff.mpr c12
     subst c12
     rw [if_neg (show ¬ (false = true) by decide)] at H
     replace H := ob H
     obtain ⟨t111, A150, H⟩ := H
     (try dsimp only at H)
     have A15 := m0 A150
     clear A150
     obtain rfl := Option.some.inj H
     obtain ⟨_, _, _, _⟩ := b2 BK107
     go_wp2_with (first | ((with_reducible refine gate_callee (f := 105) rfl ?_); refine gl (some 21) Tryd.func105 #[.int .i64 a0_0, .int .i64 (wrap64 (-a1)), .int .i64 a1] ?_; (with_reducible refine (line_within.calls a0_0 (wrap64 (-a1)) a1 false _ A11.out).mono ?_); rintro e w' ⟨rfl, ⟨nd, rfl⟩⟩; refine ⟨_, rfl, ?_⟩) | ((with_reducible refine gate_callee (f := 93) rfl ?_); refine gl (some 28) Tryd.func93 #[.bool false, .int .i64 2] ?_; (with_reducible refine (line_unless.calls false 2 t111 _ A15.out).mono ?_); rintro e w' ⟨rfl, ⟨nd, rfl⟩⟩; refine ⟨_, rfl, ?_⟩))
     go_ret
     exact ez
end
section
def slices_Max_int_int.l0 : Nat → List Int → Int → Int → Option (Int)
  | 0, _, _, _ => none
  | k + 1, x0, x3, x4 => if x4 < (x0.length : Int) then (if 0 ≤ x4 then (slices_Max_int_int.l0 k x0 (mx x3 (rd x0 x4)) (wrap64 (x4 + 1))) else (none)) else (some x3)
def slices_Max_int_int.f (k : Nat) (l0 : List Int) : Option (Int) := if (l0.length : Int) < 1 then (none) else (if 0 < (l0.length : Int) then (slices_Max_int_int.l0 k l0 (rd l0 0) 1) else (none))
theorem slices_Max_int_int.mono_l : ∀ k, (∀ y0 y1 y2, LeO (slices_Max_int_int.l0 k y0 y1 y2) (slices_Max_int_int.l0 (k + 1) y0 y1 y2))
  | 0 => fun _ _ _ r h => by simp [slices_Max_int_int.l0] at h
  | k + 1 => by
    have ih0 := slices_Max_int_int.mono_l k
    · intro y0 y1 y2
      unfold slices_Max_int_int.l0
      repeat' first
      | (with_reducible exact ih0 _ _ _)
      | (with_reducible exact LeO.refl _)
      | (with_reducible exact LeO.none _)
      | (with_reducible refine LeO.ite ?_ ?_)
      | (with_reducible refine LeO.bind ?_ (fun _ => ?_))
      | exact ih0 _ _ _
      | exact LeO.none _
      | refine LeO.ite ?_ ?_
      | refine LeO.bind ?_ (fun _ => ?_)
theorem slices_Max_int_int.mono : ∀ a0 k, LeO (slices_Max_int_int.f k a0) (slices_Max_int_int.f (k + 1) a0) := by
  intro a0 k
  have ih0 := slices_Max_int_int.mono_l k
  unfold slices_Max_int_int.f
  repeat' first
      | (with_reducible exact ih0 _ _ _)
      | (with_reducible exact LeO.refl _)
      | (with_reducible exact LeO.none _)
      | (with_reducible refine LeO.ite ?_ ?_)
      | (with_reducible refine LeO.bind ?_ (fun _ => ?_))
      | exact ih0 _ _ _
      | exact LeO.none _
      | refine LeO.ite ?_ ?_
      | refine LeO.bind ?_ (fun _ => ?_)
theorem slices_Max_int_int.calls (k : Nat) (A0 : Option Addr) (c0 : Nat) (l0 : List Int) (r : Int) (w : World) (hr0 : Kd.C (Kd.int .i64) w A0 l0.length l0) (hc0 : l0.length ≤ c0) (h : slices_Max_int_int.f k l0 = some r) :
    Calls Tryd.prog 122 #[.slice A0 l0.length c0] w fun e w' => e = .returned (.int .i64 r) ∧ Below w.heap.size w w' := by
  have HR0 := m0 hr0
  have HC0 := m0 hc0
  clear hr0 hc0
  have HB := m0 (Below.refl w.heap.size w)
  have H : (if (l0.length : Int) < 1 then (none) else (if 0 < (l0.length : Int) then (slices_Max_int_int.l0 k l0 (rd l0 0) 1) else (none))) = some r := h
  clear h
  by_cases c2 : (l0.length : Int) < 1
  · rw [if_pos c2] at H
    exact absurd H (by simp)
  · rw [if_neg c2] at H
    have c2b0 := decide_eq_false c2
    have c2b1 : decide (l0.length < 1) = false := decide_eq_false (by omega)
    clear c2
    by_cases c3 : 0 < (l0.length : Int)
    · rw [if_pos c3] at H
      have c3b0 := decide_eq_true c3
      have c3b1 : decide (0 < l0.length) = true := decide_eq_true (by omega)
      clear c3
      have H' := m0 H
      clear H
      have p113 : 0 ≤ (0 : Int) := (by omega)
      have q113 : 0 < (l0.length : Int) := of_decide_eq_true (by first | (with_reducible assumption) | assumption)
      obtain ⟨ad113, e113, hx113_0⟩ := Kd.at_int HR0.out 0 p113 q113
      cases e113
      have qi113 : (0 < l0.length) = True := eq_true (by omega)
      (try rw [show ((0 : Int)).toNat = 0 from rfl] at hx113_0)
      (try rw [Addr.add_zero'] at hx113_0)
      replace p113 := eq_true p113
      replace q113 := eq_true q113
      go_enter Tryd.func122, Tryd.ntmps122
      go_wp2
      go_loopg [3, 4] k (fun kq v3 v4 w' => ∃ (x3_1 : Int) (x4_1 : Int), v3 = .int .i64 x3_1 ∧ v4 = .int .i64 x4_1 ∧ Aside0 (slices_Max_int_int.l0 kq l0 x3_1 x4_1 = some r) ∧ Aside0 (kq ≤ k) ∧ Aside0 (Below w.heap.size w w'))
      case atStart => exact ⟨(rd l0 0), (1), (by first | rfl | (simp; done) | (simp [*]; done)), (by first | rfl | (simp; done) | (simp [*]; done)), H', ⟨Nat.le_refl _⟩, ⟨bz⟩⟩
      case round =>
        clear H'
        try clear c1
        try clear p1
        try clear q1
        try clear hx1
        try clear qi1
        try clear c2
        try clear c2b0
        try clear c2b1
        try clear p2
        try clear c3
        try clear c3b0
        try clear c3b1
        try clear hx113_0
        try clear p113
        try clear q113
        obtain ⟨x3_1, x4_1, rfl, rfl, HA, HK1, HB⟩ := hrel
        cases gk with
        | zero => exact absurd HA.out (by simp [slices_Max_int_int.l0])
        | succ k1 =>
          have H := HA.out
          clear HA
          simp only [slices_Max_int_int.l0] at H
          by_cases c4 : x4_1 < (l0.length : Int)
          · rw [if_pos c4] at H
            have c4b0 := decide_eq_true c4
            clear c4
            by_cases c5 : 0 ≤ x4_1
            · rw [if_pos c5] at H
              have c5b0 := decide_eq_true c5
              clear c5
              obtain ⟨ji6, hji6⟩ : ∃ j_ : Int, (mx x3_1 (rd l0 x4_1)) = j_ := ⟨_, rfl⟩
              replace H : (slices_Max_int_int.l0 k1 l0 ji6 (wrap64 (x4_1 + 1))) = some r := by first | (rw [hji6] at H; exact H) | (simp only [hji6] at H ⊢; exact H)
              have hji6_ : (if x3_1 < (rd l0 x4_1) then (rd l0 x4_1) else x3_1) = ji6 := hji6
              have H' := m0 H
              clear H
              have p114 : 0 ≤ (x4_1 : Int) := of_decide_eq_true (by first | (with_reducible assumption) | assumption)
              have q114 : x4_1 < (l0.length : Int) := of_decide_eq_true (by first | (with_reducible assumption) | assumption)
              obtain ⟨ad114, e114, hx114_0⟩ := Kd.at_int HR0.out x4_1 p114 q114
              obtain rfl : ad113 = ad114 := (by injection e114)
              replace hx114_0 := (HB.out.cell (World.block_lt_of_cell? w _ hx114_0)).trans hx114_0
              replace p114 := eq_true p114
              replace q114 := eq_true q114
              go_wp2
              go_roundg k1
              case measure => have := HK1.out; omega
              case rel => exact ⟨(ji6), (wrap64 (x4_1 + 1)), (by first | rfl | (simp; done) | (simp only [← hji6] <;> (first | rfl | simp)) | (simp [*]; done)), (by first | rfl | (simp; done) | (simp [*]; done)), H', ⟨by have := HK1.out; omega⟩, ⟨bz⟩⟩
            · rw [if_neg c5] at H
              exact absurd H (by simp)
          · rw [if_neg c4] at H
            have c4b0 := decide_eq_false c4
            clear c4
            obtain rfl := Option.some.inj H
            go_wp2
            go_ret
            exact ez
    · rw [if_neg c3] at H
      exact absurd H (by simp)
end
end Go.Proofs.YtjnkphmcndaijaaDoor.A
