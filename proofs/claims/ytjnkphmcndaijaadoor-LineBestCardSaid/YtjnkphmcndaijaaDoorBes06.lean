/- Walks of the program's functions (printed, made shorter), each with what it computes. -/
import Derived.Test.YtjnkphmcndaijaaDoorBes04
import Derived.Test.YtjnkphmcndaijaaDoorBes05
import Derived.Test.YtjnkphmcndaijaaDoorBes03
import Derived.Shelf.Abstract
namespace Go.Proofs.YtjnkphmcndaijaaDoor.A
set_option maxHeartbeats 8000000
set_option maxRecDepth 100000
open Go.RowKit Go.Proofs.YtjnkphmcndaijaaDoorW.PrintWords Go.Proofs.YtjnkphmcndaijaaDoorW.PrintLast Go.Proofs.YtjnkphmcndaijaaDoorW.PrintMore
attribute [local go_sem] max2_int min2_int max_two min_two max_three min_three max_four min_four
set_option linter.unusedVariables false
set_option linter.unusedSimpArgs false
section
def line_each.Kp (n₀ Bx Bs : Nat) (W W' : World) : Prop := Below n₀ W W' ∧ W'.cell? ⟨Bx, 0, none⟩ = W.cell? ⟨Bx, 0, none⟩ ∧ W'.cell? ⟨Bs, 0, none⟩ = W.cell? ⟨Bs, 0, none⟩
theorem line_each.Kp.trans {n₀ Bx Bs : Nat} {A B C : World} (h : line_each.Kp n₀ Bx Bs A B) (k : line_each.Kp n₀ Bx Bs B C) : line_each.Kp n₀ Bx Bs A C := ⟨h.1.trans k.1, k.2.1.trans h.2.1, k.2.2.trans h.2.2⟩
def line_each.Rd (m : Nat) (row : Nat → List Int) (k : Nat) (x : Value) (W : World) : Prop := ∃ A c, x = .slice A (row k).length c ∧ (row k).length ≤ c ∧ Kd.C (Kd.int .i64) W A (row k).length (row k) ∧ ∀ ad, A = some ad → m ≤ ad.block
theorem line_each.Rd_putObj {m : Nat} {row : Nat → List Int} (k : Nat) (x : Value) (W : World) (l : Nat) (o o' : Obj) (hl : W.heap[l]? = some o) (ho : o.isCells = false) (h : line_each.Rd m row k x W) : line_each.Rd m row k x (W.putObj l o') := by
 obtain ⟨A, c, e, hc, hC, hm⟩ := h
 exact ⟨A, c, e, hc, C_putObj hl ho hC, hm⟩
theorem line_each.Kp_putObj {n₀ Bx Bs : Nat} {w : World} {v1 v2 : Value} (hn : n₀ ≤ w.heap.size) (W : World) (l : Nat) (o o' : Obj) (hl : w.heap.size ≤ l) (h : W.heap[l]? = some o) (hc : o.isCells = false) (hw : o.isWalk = false) (hx : Bx < w.heap.size) (hs : Bs < w.heap.size) : line_each.Kp n₀ Bx Bs W (W.putObj l o') :=
 ⟨belowK_b hn W l o o' hl h hc hw, World.cell?_of_block (World.putObj_heap_other (show Bx ≠ l by omega)), World.cell?_of_block (World.putObj_heap_other (show Bs ≠ l by omega))⟩
theorem blk_own {W W' : World} {row : Option Nat} {B g : Nat} {cs : Array Value} {t : TypeId} {mk : Nat × Nat} (h : W.heap[g]? = some (.cells cs t mk)) (hg : W.grownBy W' row) (hr : ∀ r, row = some r → B ≤ r ∧ ∃ o : Obj, W.heap[r]? = some o ∧ o.isCells = false) : W'.heap[g]? = some (.cells cs t mk) := by
 refine (hg.block g (blk_lt h) fun e => ?_).trans h
 obtain ⟨_, o, ho, hc⟩ := hr g e.symm
 rw [h] at ho
 cases ho
 cases hc
theorem others_below {W W' : World} (hb : Below W.heap.size W W') : KeepsOthers W W' := ⟨hb.size, fun k o h _ => (hb.block k (blk_lt h)).trans h⟩
theorem heap_setCell_ne {W : World} {b i g : Nat} {u : Value} (hne : g ≠ b) : (W.setCell ⟨b, i, none⟩ u).heap[g]? = W.heap[g]? := Below.heap_setCell W _ u g hne
theorem blk_ne_set {W : World} {b i g : Nat} {u : Value} {o : Obj} (h : W.heap[g]? = some o) (hne : g ≠ b) : (W.setCell ⟨b, i, none⟩ u).heap[g]? = some o := (heap_setCell_ne hne).trans h
theorem add_block (ad : Addr) (j : Nat) : (ad.add j).block = ad.block := by unfold Addr.add; split <;> rfl
theorem C_blocks {k : IntKind} {A : Option Addr} {n : Nat} {xs : List Int} {W W' : World} (h : Kd.C (Kd.int k) W A n xs) (hb : ∀ ad, A = some ad → W'.heap[ad.block]? = W.heap[ad.block]?) : Kd.C (Kd.int k) W' A n xs := by
 refine ⟨h.1, h.2.1, fun hn => ?_⟩
 obtain ⟨ad, e, hc⟩ := h.2.2 hn
 refine ⟨ad, e, fun j p hp => ?_⟩
 obtain ⟨c, h1, h2, h3⟩ := hc j p hp
 exact ⟨c, h1, h2, fun i' u' hu => (World.cell?_of_block (by rw [add_block]; exact hb ad e)).trans (h3 i' u' hu)⟩
theorem line_each.Kp.setCell {n₀ Bx Bs b i : Nat} {u : Value} {W W' : World} (h : line_each.Kp n₀ Bx Bs W W') (hb : n₀ ≤ b) (hx : Bx ≠ b) (hs : Bs ≠ b) : line_each.Kp n₀ Bx Bs W (W'.setCell ⟨b, i, none⟩ u) :=
 ⟨h.1.setCell (p := ⟨b, i, none⟩) hb _, (World.cell?_of_block (heap_setCell_ne hx)).trans h.2.1, (World.cell?_of_block (heap_setCell_ne hs)).trans h.2.2⟩
theorem line_each.Kp.drew {n₀ Bx Bs : Nat} {W W' : World} (h : line_each.Kp n₀ Bx Bs W W') : line_each.Kp n₀ Bx Bs W W'.drew := ⟨below_drew h.1, h.2.1, h.2.2⟩
theorem line_each.Kp.below {n₀ Bx Bs : Nat} {W W1 W' : World} (h : line_each.Kp n₀ Bx Bs W W1) (hn : n₀ ≤ W1.heap.size) (hx : Bx < W1.heap.size) (hs : Bs < W1.heap.size) (hb : Below W1.heap.size W1 W') : line_each.Kp n₀ Bx Bs W W' :=
 ⟨h.1.trans (hb.mono hn), (World.cell?_of_block (hb.block _ hx)).trans h.2.1, (World.cell?_of_block (hb.block _ hs)).trans h.2.2⟩
attribute [local go_sem] Oper.semAt_some
theorem line_each.yields (n kk : Nat) (hn : 1 ≤ n) (As Av : Option Addr) (cs cv : Nat) (ls lv : List Int) (all : Int) (few : Bool) (row : Nat → List Int) (we : World) (Bx Bs : Nat) (w : World)
  (hbe : Below we.heap.size we w) (hcx : w.cell? ⟨Bx, 0, none⟩ = some (.slice Av lv.length cv)) (hcs : w.cell? ⟨Bs, 0, none⟩ = some (.slice As ls.length cs))
  (hrs : Kd.C (Kd.int .i64) we As ls.length ls) (hsc : ls.length ≤ cs) (hrv : Kd.C (Kd.int .i64) we Av lv.length lv) (hvc : lv.length ≤ cv)
  (hall : line_cases.f kk lv ls.length = some (all, few)) (h0 : 0 ≤ all) (hbig : all ≤ 1000000) (hrow : ∀ k : Nat, (k : Int) < all → line_noisy.f kk ls lv k = some (row k)) :
  YieldsN Fence.wide n Tryd.prog 131 #[.pointer (some ⟨Bx, 0, none⟩), .pointer (some ⟨Bs, 0, none⟩)] (fun k x => #[.int .i64 (k : Int), x]) (line_each.Rd w.heap.size row) (line_each.Kp we.heap.size Bx Bs) all.toNat w := by
 intro l J Jx W hW hJ hJx hY hJ0
 have hcx' := pw_cell_below hW hcx
 have hcs' := pw_cell_below hW hcs
 have hbe' : Below we.heap.size we W := below_then hbe hbe.size hW
 refine callsIn_of_wp Tryd.func131 rfl trivial ?_ rfl
 simp only [Tryd.ntmps131, List.size_toArray, List.length_cons, List.length_nil, Nat.reduceAdd, Nat.reduceSub, Array.replicate_succ, Array.replicate_zero, List.push_toArray, List.append_toArray, List.nil_append, List.cons_append]
 have HB := m0 hbe'
 have HRS := m0 hrs
 have HRV := m0 hrv
 have HSC := m0 hsc
 have HVC := m0 hvc
 have HALL := m0 hall
 have HROW := m0 hrow
 have HY := m0 hY
 have HJ := m0 hJ
 have HBIG := m0 hbig
 have HH0 := m0 h0
 have hJ0' := m0 hJ0
 have HSZ := m0 hW.size
 clear hbe' hrs hrv hsc hvc hall hrow hY hJ hbig h0 hJ0 hJx hW hbe hcx hcs
 gi_wp2_with (first | (refine ⟨trivial, ?_⟩; gi_at_call 121; refine (callsIn_wide.2 (line_cases.calls kk Av cv lv ls.length all few W (Kd.C_below HRV.out HB.out) HVC.out HALL.out)).mono ?_; rintro e w1 ⟨rfl, hb⟩))
 gi_loopw [15] (fun i wr => ∃ k : Nat, i = .int .i64 k ∧ Aside0 ((k : Int) ≤ all) ∧ Aside0 (J k wr) ∧ Aside0 (Below we.heap.size we wr) ∧ Aside0 (w.heap.size ≤ wr.heap.size) ∧ wr.cell? ⟨Bx, 0, none⟩ = some (.slice Av lv.length cv) ∧ wr.cell? ⟨Bs, 0, none⟩ = some (.slice As ls.length cs)) (fun i _ => all.toNat - (intOf i).toNat)
 case atStart => exact ⟨0, rfl, ⟨HH0.out⟩, ⟨HJ.out 0 W w1 none hJ0'.out (grown_of_below hb none) (fun r e => by cases e)⟩, ⟨below_then HB.out HB.out.size hb⟩, ⟨Nat.le_trans HSZ.out hb.size⟩, pw_cell_below hb hcx', pw_cell_below hb hcs'⟩
 case round =>
  obtain ⟨k, rfl, hk, hJs, hB, hZ, hx1, hs1⟩ := hrel
  clear hcx' hcs' hb
  by_cases hlt : (k : Int) < all
  ·have hkb : (k : Int) < 1000000 := by have := HBIG.out; omega
   have HLT := m0 hlt
   gi_wp2_with (first | (refine ⟨trivial, ?_⟩; gi_at_call 123; refine (callsIn_wide.2 (line_noisy.calls kk As cs ls Av cv lv (k : Int) (row k) wr (Kd.C_below HRS.out hB.out) HSC.out (Kd.C_below HRV.out hB.out) HVC.out (HROW.out k HLT.out))).mono ?_; rintro e w2 ⟨v, rfl, ho, hb⟩; obtain ⟨Ao, co, eo⟩ := Kd.R_slice ho; subst eo; obtain ⟨fn, tmps, assign, body, hy, hR⟩ := HY.out k (.slice Ao (row k).length co) w2 (by have := HLT.out; omega) ⟨Ao, co, rfl, (Kd.R_reads' ho).2.1, (Kd.R_reads' ho).2.2, fun ad e => Nat.le_trans hZ.out (Kd.R_base ho ad.block (by rw [e]; rfl))⟩ (HJ.out k wr w2 none hJs.out (grown_of_below hb none) (fun r e => by cases e)); have HR := m0 hR; clear hR; have HB2 := m0 hb; clear hb ho))
   refine HR.out.mono ?_
   rintro e W3 (⟨rfl, hJ3, hk3, hx3, hs3⟩ | ⟨rfl, hJx3⟩)
   ·have hx4 := hx3.trans (pw_cell_below HB2.out hx1)
    have hs4 := hs3.trans (pw_cell_below HB2.out hs1)
    have HK3 := m0 hk3
    have HJ3 := m0 hJ3
    clear hk3 hx3 hs3 hx1 hs1 hJ3
    gi_wp2
    go_roundw
    case rel => exact ⟨k + 1, by go_num, ⟨by have := HLT.out; omega⟩, HJ3, ⟨(below_then hB.out hB.out.size HB2.out).trans HK3.out⟩, ⟨Nat.le_trans hZ.out (Nat.le_trans HB2.out.size HK3.out.size)⟩, hx4, hs4⟩
    case measure => have := HLT.out; simp [intOf]; omega
   ·have HJX := m0 hJx3
    clear hJx3
    gi_wp2
    refine bodyPost_ret (results_none rfl _ _ _) rfl ?_
    exact ⟨⟨_, rfl⟩, .inr ⟨k + 1, by have := HLT.out; omega, HJX.out⟩⟩
  ·have HN := m0 (show (k : Int) = all by have := hk.out; omega)
   gi_wp2
   go_end0
   refine ⟨⟨_, rfl⟩, .inl ?_⟩
   have e1 : all.toNat = k := by have := HN.out; omega
   rw [e1]
   exact hJs.out
theorem line_each.calls_own (As Av : Option Addr) (cs cv : Nat) (ls lv : List Int) (w : World) :
  Calls Tryd.prog 94 #[.slice As ls.length cs, .agg #[.slice Av lv.length cv]] w fun e w' => e = .returned (.func (.func 131) #[] #[.pointer (some ⟨w.heap.size + 1, 0, none⟩), .pointer (some ⟨w.heap.size, 0, none⟩)]) ∧ w' = (w.alloc (.cells #[.slice As ls.length cs] 22)).alloc (.cells #[.slice Av lv.length cv] 24) := by
 go_enter Tryd.func94, Tryd.ntmps94
 go_wp2
 go_ret
 exact ⟨rfl, rfl⟩
end
section
def line_first.l0 : Nat → List Int → Int → Int → Option (Int)
 | 0, _, _, _ => none
 | k + 1, x5, x6, x7 => if x7 < x6 then (if 0 ≤ x7 then (if x7 < (x5.length : Int) then (if (rd x5 x7) = 0 then (line_first.l0 k x5 x6 (wrap64 (x7 + 1))) else (some (rd x5 x7))) else (none)) else (none)) else (some 0)
def line_first.f (k : Nat) (l0 : List Int) : Option (Int) := line_first.l0 k l0 (l0.length : Int) 0
theorem line_first.mono_l : ∀ k, (∀ y0 y1 y2, LeO (line_first.l0 k y0 y1 y2) (line_first.l0 (k + 1) y0 y1 y2))
 | 0 => fun _ _ _ r h => by simp [line_first.l0] at h
 | k + 1 => by
  have ih0 := line_first.mono_l k
  ·intro y0 y1 y2
   unfold line_first.l0
   repeat' first
   | (with_reducible exact ih0 _ _ _)
   | (with_reducible exact LeO.refl _)
   | (with_reducible exact LeO.none _)
   | (with_reducible refine LeO.ite ?_ ?_)
   | (with_reducible refine LeO.bind ?_ (fun _ => ?_))
   | exact ih0 _ _ _
   | exact LeO.none _
   | refine LeO.ite ?_ ?_
   | refine LeO.bind ?_ (fun _ => ?_)
theorem line_first.mono : ∀ a0 k, LeO (line_first.f k a0) (line_first.f (k + 1) a0) := by
 intro a0 k
 have ih0 := line_first.mono_l k
 unfold line_first.f
 repeat' first
   | (with_reducible exact ih0 _ _ _)
   | (with_reducible exact LeO.refl _)
   | (with_reducible exact LeO.none _)
   | (with_reducible refine LeO.ite ?_ ?_)
   | (with_reducible refine LeO.bind ?_ (fun _ => ?_))
   | exact ih0 _ _ _
   | exact LeO.none _
   | refine LeO.ite ?_ ?_
   | refine LeO.bind ?_ (fun _ => ?_)
theorem line_first.calls (k : Nat) (A0 : Option Addr) (c0 : Nat) (l0 : List Int) (r : Int) (w : World) (hr0 : Kd.C (Kd.int .i64) w A0 l0.length l0) (hc0 : l0.length ≤ c0) (h : line_first.f k l0 = some r) :
  Calls Tryd.prog 91 #[.slice A0 l0.length c0] w fun e w' => e = .returned (.int .i64 r) ∧ Drawn0 w w' := by
 have HR0 := m0 hr0
 have HC0 := m0 hc0
 clear hr0 hc0
 have H : (line_first.l0 k l0 (l0.length : Int) 0) = some r := h
 clear h
 have H' := m0 H
 clear H
 go_enter Tryd.func91, Tryd.ntmps91
 go_wp2
 go_loopg [7] k (fun kq v7 w' => ∃ (x7_1 : Int), v7 = .int .i64 x7_1 ∧ Aside0 (line_first.l0 kq l0 (l0.length : Int) x7_1 = some r) ∧ Aside0 (kq ≤ k) ∧ Drawn0 w w')
 case atStart => exact ⟨(0), (by first | rfl | (simp; done) | (simp [*]; done)), H', ⟨Nat.le_refl _⟩, by repeat (first | exact Drawn0.refl _ | apply Drawn0.step)⟩
 case round =>
  clear H'
  obtain ⟨x7_1, rfl, HA, HK1, ⟨m1, rfl⟩⟩ := hrel
  cases gk with
  | zero => exact absurd HA.out (by simp [line_first.l0])
  | succ k1 =>
   have H := HA.out
   clear HA
   simp only [line_first.l0] at H
   by_cases c2 : x7_1 < (l0.length : Int)
   ·rw [if_pos c2] at H
    have c2b0 := decide_eq_true c2
    clear c2
    by_cases c3 : 0 ≤ x7_1
    ·rw [if_pos c3] at H
     have c3b0 := decide_eq_true c3
     clear c3
     by_cases c4 : x7_1 < (l0.length : Int)
     ·rw [if_pos c4] at H
      have c4b0 := decide_eq_true c4
      clear c4
      by_cases c5 : (rd l0 x7_1) = 0
      ·rw [if_pos c5] at H
       have c5b0 := beq_iff_eq.mpr c5
       have c5b1 := bne_eq_false_iff_eq.mpr c5
       clear c5
       have H' := m0 H
       clear H
       have p101 : 0 ≤ (x7_1 : Int) := of_decide_eq_true (by first | (with_reducible assumption) | assumption)
       have q101 : x7_1 < (l0.length : Int) := of_decide_eq_true (by first | (with_reducible assumption) | assumption)
       obtain ⟨ad101, e101, hx101_0⟩ := Kd.at_int HR0.out x7_1 p101 q101
       cases e101
       replace p101 := eq_true p101
       replace q101 := eq_true q101
       go_wp2
       go_roundg k1
       case measure => have := HK1.out; omega
       case rel => exact ⟨(wrap64 (x7_1 + 1)), (by first | rfl | (simp; done) | (simp [*]; done)), H', ⟨by have := HK1.out; omega⟩, by repeat (first | exact Drawn0.refl _ | apply Drawn0.step)⟩
      ·rw [if_neg c5] at H
       have c5b0 := beq_eq_false_iff_ne.mpr c5
       have c5b1 := bne_iff_ne.mpr c5
       obtain rfl := Option.some.inj H
       have p101 : 0 ≤ (x7_1 : Int) := of_decide_eq_true (by first | (with_reducible assumption) | assumption)
       have q101 : x7_1 < (l0.length : Int) := of_decide_eq_true (by first | (with_reducible assumption) | assumption)
       obtain ⟨ad101, e101, hx101_0⟩ := Kd.at_int HR0.out x7_1 p101 q101
       cases e101
       replace p101 := eq_true p101
       replace q101 := eq_true q101
       go_wp2
       go_ret
       exact ⟨by first | rfl | (simp; done) | (simp [*]; done), by repeat (first | exact Drawn0.refl _ | apply Drawn0.step)⟩
     ·rw [if_neg c4] at H
      exact absurd H (by simp)
    ·rw [if_neg c3] at H
     exact absurd H (by simp)
   ·rw [if_neg c2] at H
    have c2b0 := decide_eq_false c2
    clear c2
    obtain rfl := Option.some.inj H
    go_wp2
    go_ret
    exact ⟨by first | rfl | (simp; done) | (simp [*]; done), by repeat (first | exact Drawn0.refl _ | apply Drawn0.step)⟩
end
section
def line_unless.f (a0 : Bool) (a1 : Int) : Option (Int) := if a0 = true then (some 0) else (some a1)
theorem line_unless.calls (a0 : Bool) (a1 : Int) (r : Int) (w : World) (h : line_unless.f a0 a1 = some r) :
  Calls Tryd.prog 93 #[.bool a0, .int .i64 a1] w fun e w' => e = .returned (.int .i64 r) ∧ Drawn0 w w' := by
 have H : (if a0 = true then (some 0) else (some a1)) = some r := h
 clear h
 by_cases c3 : a0 = true
 ·subst c3
  rw [if_pos rfl] at H
  obtain rfl := Option.some.inj H
  go_enter Tryd.func93, Tryd.ntmps93
  go_wp2
  go_ret
  exact ⟨by first | rfl | (simp; done) | (simp [*]; done), by repeat (first | exact Drawn0.refl _ | apply Drawn0.step)⟩
 ·replace c3 := Bool.eq_false_iff.mpr c3
  subst c3
  rw [if_neg (show ¬ (false = true) by decide)] at H
  obtain rfl := Option.some.inj H
  go_enter Tryd.func93, Tryd.ntmps93
  go_wp2
  go_ret
  exact ⟨by first | rfl | (simp; done) | (simp [*]; done), by repeat (first | exact Drawn0.refl _ | apply Drawn0.step)⟩
end
section
theorem slices_IndexFunc_int_int.own (g : Nat) (lb : Array Value) (eg : ∀ args w, (callFunc g args).run Tryd.prog w = .ok (.enter g args) w) (p : Int → Bool) (A0 : Option Addr) (c0 : Nat) (l0 : List Int) (w : World) (hp : PredI g lb p w) (hr0 : Kd.C (Kd.int .i64) w A0 l0.length l0) :
  Calls Tryd.prog 141 #[.slice A0 l0.length c0, .func (.func g) #[] lb] w fun e w' => e = .returned (.int .i64 (idxF p l0)) ∧ Drawn0 w w' := by
 have HR0 := m0 hr0
 have HL := m0 (show (l0.length : Int) ≤ 9223372036854775807 from by have := hr0.2.1; omega)
 clear hr0
 have hpAt : ∀ (x : Int) (q : Nat), Calls Tryd.prog g (#[.int .i64 x] ++ lb) (w.drewN q) fun e w' => e = .returned (.bool (p x)) ∧ ∃ q', w' = (w.drewN q).drewN q' := fun x q => hp _ x (pw_below_drewN (Below.refl _ w) q)
 have HP := m0 hpAt
 clear hpAt hp
 go_enter Tryd.func141, Tryd.ntmps141
 go_wp2
 go_loopg [5, 8] l0.length (fun gg _ s8 wr => ∃ x : Int, s8 = .int .i64 x ∧ Aside0 (0 ≤ x ∧ x ≤ l0.length ∧ (l0.length : Int) - x ≤ gg ∧ ∀ j : Nat, (j : Int) < x → p (rd l0 j) = false) ∧ Drawn0 w wr)
 case atStart => exact ⟨0, rfl, ⟨by omega, by omega, by omega, fun j hj => by omega⟩, Drawn0.refl _⟩
 case round =>
  obtain ⟨x, rfl, HA, ⟨q, rfl⟩⟩ := hrel
  by_cases hlt : x < (l0.length : Int)
  ·obtain ⟨ad, e, hx⟩ := Kd.at_int HR0.out x HA.out.1 hlt
   cases e
   have c1 : decide (x < (l0.length : Int)) = true := decide_eq_true hlt
   have p1 := eq_true HA.out.1
   have q1 := eq_true hlt
   clear hlt
   have hcall := HP.out (rd l0 x)
   cases hq : p (rd l0 x) with
   | true =>
    rw [hq] at hcall
    have HQ := m0 hq
    have HC := m0 hcall
    clear hq hcall
    go_wp2_with (go_at_fn g; refine (HC.out _).mono ?_; rintro e w' ⟨rfl, q', rfl⟩)
    go_ret
    refine ⟨?_, ⟨⟨_, rfl⟩⟩⟩
    obtain ⟨h0, h1, h2, h3⟩ := HA.out
    have hc := of_decide_eq_true c1
    have hn : ((x.toNat : Nat) : Int) = x := by omega
    exact ret_int (by rw [idxF_hit p l0 x.toNat (by omega) (by rw [hn]; exact HQ.out) (fun j hj => h3 j (by omega)), hn])
   | false =>
    rw [hq] at hcall
    have HQ := m0 hq
    have HC := m0 hcall
    clear hq hcall
    go_wp2_with (go_at_fn g; refine (HC.out _).mono ?_; rintro e w' ⟨rfl, q', rfl⟩)
    obtain ⟨h0, h1, h2, h3⟩ := HA.out
    have hc := of_decide_eq_true c1
    have hL := HL.out
    go_roundg (l0.length - (x + 1)).toNat
    case measure => omega
    case rel =>
     refine ⟨wrap64 (x + 1), rfl, ⟨?_⟩, ⟨⟨_, rfl⟩⟩⟩
     have e1 : wrap64 (x + 1) = x + 1 := by unfold wrap64; omega
     rw [e1]
     refine ⟨by omega, by omega, by omega, fun j hj => ?_⟩
     by_cases e : (j : Int) = x
     ·rw [e]; exact HQ.out
     ·exact h3 j (by omega)
  ·have c1 : decide (x < (l0.length : Int)) = false := decide_eq_false hlt
   have HN := m0 hlt
   clear hlt
   go_wp2
   go_ret
   refine ⟨?_, ⟨⟨q, rfl⟩⟩⟩
   obtain ⟨h0, h1, h2, h3⟩ := HA.out
   have := HN.out
   exact ret_int (idxF_miss p l0 (fun j hj => h3 j (by omega))).symm
end
section
def line_listErr.f (l0 : List Int) (a1 a2 : Int) : Option (Int × Int) :=
 if l0.length = 0 then some (0, 10) else if a1 < l0.length then some (0, 8) else
  if idxF (fun x => !(decide (0 ≤ x) && decide (x ≤ a2))) l0 ≥ 0 then some (idxF (fun x => !(decide (0 ≤ x) && decide (x ≤ a2))) l0, 2) else some (0, 0)
theorem C_two {w : World} {b : Nat} {x y : Int} (h0 : w.cell? ⟨b, 0, none⟩ = some (.int .i64 x)) (h1 : w.cell? ⟨b, 1, none⟩ = some (.int .i64 y)) : Kd.C (Kd.int .i64) w (some ⟨b, 0, none⟩) [x, y].length [x, y] := by
 refine ⟨rfl, by simp, fun _ => ⟨_, rfl, ?_⟩⟩
 intro j p hp
 match j, hp with
 | 0, hp => exact ⟨[.int .i64 x], rfl, by cases hp; rfl, fun i u hu => by match i, hu with | 0, hu => cases hu; show w.cell? ((⟨b, 0, none⟩ : Addr).add 0) = _; rw [add_plain]; exact h0 | (k + 1), hu => simp at hu⟩
 | 1, hp => exact ⟨[.int .i64 y], rfl, by cases hp; rfl, fun i u hu => by match i, hu with | 0, hu => cases hu; show w.cell? ((⟨b, 0, none⟩ : Addr).add 1) = _; rw [add_plain]; exact h1 | (k + 1), hu => simp at hu⟩
 | (k + 2), hp => simp at hp
theorem first_two (x y : Int) : line_first.f 4 [x, y] = some (if x = 0 then y else x) := by
 by_cases hx : x = 0
 ·by_cases hy : y = 0 <;> simp [line_first.f, line_first.l0, rd, wrap64, hx, hy]
 ·simp [line_first.f, line_first.l0, rd, hx]
theorem first_two_calls {b : Nat} {x y : Int} (w : World) (h0 : w.cell? ⟨b, 0, none⟩ = some (.int .i64 x)) (h1 : w.cell? ⟨b, 1, none⟩ = some (.int .i64 y)) :
  Calls Tryd.prog 91 #[.slice (some ⟨b, 0, none⟩) 2 2] w fun e w' => e = .returned (.int .i64 (if x = 0 then y else x)) ∧ ∃ q, w' = w.drewN q :=
 (line_first.calls 4 (some ⟨b, 0, none⟩) 2 [x, y] _ w (C_two h0 h1) (by simp) (first_two x y)).mono fun _ _ ⟨he, hw⟩ => ⟨he, hw.out⟩
theorem unless_calls (b : Bool) (e : Int) (w : World) : Calls Tryd.prog 93 #[.bool b, .int .i64 e] w fun x w' => x = .returned (.int .i64 (if b = true then 0 else e)) ∧ ∃ q, w' = w.drewN q :=
 (line_unless.calls b e _ w (by cases b <;> rfl)).mono fun _ _ ⟨he, hw⟩ => ⟨he, hw.out⟩
theorem line_listErr.pred {B : Nat} {a2 : Int} {w : World} (hc : w.cell? ⟨B, 0, none⟩ = some (.int .i64 a2)) : PredI 142 #[.pointer (some ⟨B, 0, none⟩)] (fun x => !(decide (0 ≤ x) && decide (x ≤ a2))) w := by
 intro W x hb
 have hc' := pw_cell_below hb hc
 clear hc hb
 by_cases h1 : 0 ≤ x <;> by_cases h2 : x ≤ a2 <;> simp only [h1, h2, decide_true, decide_false, Bool.and_self, Bool.and_false, Bool.false_and, Bool.not_true, Bool.not_false]
 all_goals
  go_enter Tryd.func142, Tryd.ntmps142
  go_wp2
  go_ret
  exact ⟨rfl, 0, rfl⟩
theorem line_listErr.calls (A0 : Option Addr) (c0 : Nat) (l0 : List Int) (a1 a2 : Int) (r1 r2 : Int) (w : World) (hr0 : Kd.C (Kd.int .i64) w A0 l0.length l0) (hc0 : l0.length ≤ c0) (h : line_listErr.f l0 a1 a2 = some (r1, r2)) :
  Calls Tryd.prog 120 #[.slice A0 l0.length c0, .int .i64 a1, .int .i64 a2] w fun e w' => e = .returned (.tuple #[.int .i64 r1, .int .i64 r2]) ∧ Below w.heap.size w w' := by
 have HR0 := m0 hr0
 clear hr0 hc0
 have i150 : Tryd.prog.cellsOf 3 = 1 := by kernel_rfl
 by_cases h0 : l0.length = 0
 ·have t1 : decide ((0 : Int) < (l0.length : Int)) = false := decide_eq_false (by omega)
  have t2 : decide (0 < l0.length) = false := decide_eq_false (by omega)
  simp only [line_listErr.f, h0, if_pos] at h
  obtain ⟨rfl, rfl⟩ := h
  clear h0
  cases h3 : decide ((l0.length : Int) ≤ a1)
  ·go_enter Tryd.func120, Tryd.ntmps120
   go_wp2_with (first | (go_at_call 93; refine (unless_calls _ _ _).mono ?_; rintro e w' ⟨rfl, q, rfl⟩) | (go_at_call 91; refine (first_two_calls (x := 10) (y := 8) _ (by go_simp) (by go_simp)).mono ?_; rintro e w' ⟨rfl, q, rfl⟩))
   go_ret2
   exact ⟨rfl, by repeat (first | exact Below.refl _ _ | apply below_alloc | apply pw_below_drewN | apply below_drew)⟩
  ·go_enter Tryd.func120, Tryd.ntmps120
   go_wp2_with (first | (go_at_call 93; refine (unless_calls _ _ _).mono ?_; rintro e w' ⟨rfl, q, rfl⟩) | (go_at_call 91; refine (first_two_calls (x := 10) (y := 0) _ (by go_simp) (by go_simp)).mono ?_; rintro e w' ⟨rfl, q, rfl⟩))
   go_ret2
   exact ⟨rfl, by repeat (first | exact Below.refl _ _ | apply below_alloc | apply pw_below_drewN | apply below_drew)⟩
 ·have t1 : decide ((0 : Int) < (l0.length : Int)) = true := decide_eq_true (by omega)
  have t2 : decide (0 < l0.length) = true := decide_eq_true (by omega)
  simp only [line_listErr.f, h0, if_neg, not_false_eq_true] at h
  by_cases h3 : a1 < l0.length
  ·rw [if_pos h3] at h
   obtain ⟨rfl, rfl⟩ := h
   have t3 : decide ((l0.length : Int) ≤ a1) = false := decide_eq_false (by omega)
   clear h0 h3
   go_enter Tryd.func120, Tryd.ntmps120
   go_wp2_with (first | (go_at_call 93; refine (unless_calls _ _ _).mono ?_; rintro e w' ⟨rfl, q, rfl⟩) | (go_at_call 91; refine (first_two_calls (x := 0) (y := 8) _ (by go_simp) (by go_simp)).mono ?_; rintro e w' ⟨rfl, q, rfl⟩))
   go_ret2
   exact ⟨rfl, by repeat (first | exact Below.refl _ _ | apply below_alloc | apply pw_below_drewN | apply below_drew)⟩
  ·rw [if_neg h3] at h
   have t3 : decide ((l0.length : Int) ≤ a1) = true := decide_eq_true (by omega)
   clear h0 h3
   generalize hI : idxF (fun x => !(decide (0 ≤ x) && decide (x ≤ a2))) l0 = I at h
   have hcall : ∀ W : World, W.cell? ⟨w.heap.size, 0, none⟩ = some (.int .i64 a2) → Below w.heap.size w W → Calls Tryd.prog 141 #[.slice A0 l0.length c0, .func (.func 142) #[] #[.pointer (some ⟨w.heap.size, 0, none⟩)]] W fun e w' => e = .returned (.int .i64 I) ∧ ∃ q, w' = W.drewN q := fun W hc hb => by
    rw [← hI]
    exact (slices_IndexFunc_int_int.own _ _ (enters_of Tryd.func142 (by kernel_rfl) rfl) _ A0 c0 l0 W (line_listErr.pred hc) (Kd.C_below HR0.out hb)).mono fun _ _ ⟨he, hw⟩ => ⟨he, hw.out⟩
   have HC := m0 hcall
   clear hcall hI
   by_cases h4 : I ≥ 0
   ·rw [if_pos h4] at h
    simp only [Option.some.injEq, Prod.mk.injEq] at h
    obtain ⟨h5, rfl⟩ := h
    subst h5
    have t4 : decide (0 ≤ I) = true := decide_eq_true h4
    clear h4
    go_enter Tryd.func120, Tryd.ntmps120
    go_wp2_with (first | (go_at_call 93; refine (unless_calls _ _ _).mono ?_; rintro e w' ⟨rfl, q, rfl⟩) | (go_at_call 91; refine (first_two_calls (x := 0) (y := 0) _ (by go_simp) (by go_simp)).mono ?_; rintro e w' ⟨rfl, q, rfl⟩) | (go_at_call 141; refine (HC.out _ (by go_simp) (by repeat (first | exact Below.refl _ _ | apply below_alloc | apply pw_below_drewN | apply below_drew))).mono ?_; rintro e w' ⟨rfl, q, rfl⟩))
    go_ret2
    exact ⟨rfl, by repeat (first | exact Below.refl _ _ | apply below_alloc | apply pw_below_drewN | apply below_drew)⟩
   ·rw [if_neg h4] at h
    obtain ⟨rfl, rfl⟩ := h
    have t4 : decide (0 ≤ I) = false := decide_eq_false h4
    clear h4
    go_enter Tryd.func120, Tryd.ntmps120
    go_wp2_with (first | (go_at_call 93; refine (unless_calls _ _ _).mono ?_; rintro e w' ⟨rfl, q, rfl⟩) | (go_at_call 91; refine (first_two_calls (x := 0) (y := 0) _ (by go_simp) (by go_simp)).mono ?_; rintro e w' ⟨rfl, q, rfl⟩) | (go_at_call 141; refine (HC.out _ (by go_simp) (by repeat (first | exact Below.refl _ _ | apply below_alloc | apply pw_below_drewN | apply below_drew))).mono ?_; rintro e w' ⟨rfl, q, rfl⟩))
    go_ret2
    exact ⟨rfl, by repeat (first | exact Below.refl _ _ | apply below_alloc | apply pw_below_drewN | apply below_drew)⟩
end
section
def line_CheckNoise.f (l0_0 : List Int) : Option (Int × Int) := (line_listErr.f l0_0 4 1000).bind fun bt103 => (some (bt103.1, bt103.2))
theorem line_CheckNoise.calls (A0_0 : Option Addr) (c0_0 : Nat) (l0_0 : List Int) (r1 : Int) (r2 : Int) (w : World) (hr0_0 : Kd.C (Kd.int .i64) w A0_0 l0_0.length l0_0) (hc0_0 : l0_0.length ≤ c0_0) (h : line_CheckNoise.f l0_0 = some (r1, r2)) :
  Calls Tryd.prog 51 #[.agg #[.slice A0_0 l0_0.length c0_0]] w fun e w' => e = .returned (.tuple #[.int .i64 r1, .int .i64 r2]) ∧ Below w.heap.size w w' := by
 have hu24 := Tryd.underlying24
 have HR0_0 := m0 hr0_0
 have HC0_0 := m0 hc0_0
 clear hr0_0 hc0_0
 have HB := m0 (Below.refl w.heap.size w)
 have H : ((line_listErr.f l0_0 4 1000).bind fun bt103 => (some (bt103.1, bt103.2))) = some (r1, r2) := h
 clear h
 replace H := ob H
 obtain ⟨⟨t103, t104⟩, A20, H⟩ := H
 (try dsimp only at H)
 have A2 := m0 A20
 clear A20
 simp only [Option.some.injEq, Prod.mk.injEq] at H
 obtain ⟨rfl, rfl⟩ := H
 go_enter Tryd.func51, Tryd.ntmps51
 go_wp2_with (first | ((with_reducible refine gate_dst (N := 1) rfl ?_); refine be 1 24 #[.slice A0_0 l0_0.length c0_0] ?_; intro gb102 hg w3 hbox hb; have BK102 := m0 hbox; have GW102 := m0 (bg (n := w.heap.size) hg); have GE102 := m0 (bg (n := w.heap.size) hg); replace HB := sb HB hb; clear hb hbox hg; obtain ⟨_, _⟩ := b1 BK102) | ((with_reducible refine gate_callee (f := 120) rfl ?_); refine gl (some 6) Tryd.func120 #[.slice A0_0 l0_0.length c0_0, .int .i64 4, .int .i64 1000] ?_; (with_reducible refine (line_listErr.calls _ _ l0_0 4 1000 t103 t104 _ ?side1 ?side2 A2.out).mono ?_); (case side1 => exact cb HR0_0 HB); (case side2 => exact HC0_0.out); rintro e w5 ⟨rfl, hb⟩; refine ⟨_, rfl, ?_⟩; replace BK102 := bb BK102 hb; replace HB := sb HB hb; (try clear hb)))
 go_ret2
 exact ez
end
section
def line_CheckSpectrum.f (l0 : List Int) : Option (Int × Int) := (line_listErr.f l0 16 10000).bind fun bt105 => (some (bt105.1, bt105.2))
theorem line_CheckSpectrum.calls (A0 : Option Addr) (c0 : Nat) (l0 : List Int) (r1 : Int) (r2 : Int) (w : World) (hr0 : Kd.C (Kd.int .i64) w A0 l0.length l0) (hc0 : l0.length ≤ c0) (h : line_CheckSpectrum.f l0 = some (r1, r2)) :
  Calls Tryd.prog 75 #[.slice A0 l0.length c0] w fun e w' => e = .returned (.tuple #[.int .i64 r1, .int .i64 r2]) ∧ Below w.heap.size w w' := by
 have HR0 := m0 hr0
 have HC0 := m0 hc0
 clear hr0 hc0
 have HB := m0 (Below.refl w.heap.size w)
 have H : ((line_listErr.f l0 16 10000).bind fun bt105 => (some (bt105.1, bt105.2))) = some (r1, r2) := h
 clear h
 replace H := ob H
 obtain ⟨⟨t105, t106⟩, A20, H⟩ := H
 (try dsimp only at H)
 have A2 := m0 A20
 clear A20
 simp only [Option.some.injEq, Prod.mk.injEq] at H
 obtain ⟨rfl, rfl⟩ := H
 go_enter Tryd.func75, Tryd.ntmps75
 go_wp2_with (first | ((with_reducible refine gate_callee (f := 120) rfl ?_); refine gl (some 5) Tryd.func120 #[.slice A0 l0.length c0, .int .i64 16, .int .i64 10000] ?_; (with_reducible refine (line_listErr.calls _ _ l0 16 10000 t105 t106 _ ?side1 ?side2 A2.out).mono ?_); (case side1 => repeat (first | exact HR0.out | (with_reducible refine Kd.C_alloc ?_ _) | (with_reducible refine Kd.C_drewN ?_ _) | (with_reducible refine Kd.C_drew ?_))); (case side2 => exact HC0.out); rintro e w3 ⟨rfl, hb⟩; refine ⟨_, rfl, ?_⟩; replace HB := sb HB hb; (try clear hb)))
 go_ret2
 exact ez
end
section
def line_within.f (a0 : Int) (a1 : Int) (a2 : Int) : Option (Bool) := if a1 ≤ a0 then (some (decide (a0 ≤ a2))) else (some false)
theorem line_within.calls (a0 : Int) (a1 : Int) (a2 : Int) (r : Bool) (w : World) (h : line_within.f a0 a1 a2 = some r) :
  Calls Tryd.prog 105 #[.int .i64 a0, .int .i64 a1, .int .i64 a2] w fun e w' => e = .returned (.bool r) ∧ Drawn0 w w' := by
 have H : (if a1 ≤ a0 then (some (decide (a0 ≤ a2))) else (some false)) = some r := h
 clear h
 by_cases c4 : a1 ≤ a0
 ·rw [if_pos c4] at H
  have c4b0 := decide_eq_true c4
  clear c4
  obtain rfl := Option.some.inj H
  go_enter Tryd.func105, Tryd.ntmps105
  go_wp2
  go_ret
  exact ⟨by first | rfl | (simp; done) | (simp [*]; done), by repeat (first | exact Drawn0.refl _ | apply Drawn0.step)⟩
 ·rw [if_neg c4] at H
  have c4b0 := decide_eq_false c4
  clear c4
  obtain rfl := Option.some.inj H
  go_enter Tryd.func105, Tryd.ntmps105
  go_wp2
  go_ret
  exact ⟨by first | rfl | (simp; done) | (simp [*]; done), by repeat (first | exact Drawn0.refl _ | apply Drawn0.step)⟩
end
section
def line_divisor.l0 : Nat → Int → Int → Option (Int)
 | 0, _, _ => none
 | k + 1, x0, x1 => if x1 = 0 then (some (mx x0 (wrap64 (-x0)))) else (line_divisor.l0 k x1 (Int.tmod x0 x1))
def line_divisor.f (k : Nat) (a0 : Int) (a1 : Int) : Option (Int) := line_divisor.l0 k a0 a1
theorem line_divisor.mono_l : ∀ k, (∀ y0 y1, LeO (line_divisor.l0 k y0 y1) (line_divisor.l0 (k + 1) y0 y1))
 | 0 => fun _ _ r h => by simp [line_divisor.l0] at h
 | k + 1 => by
  have ih0 := line_divisor.mono_l k
  ·intro y0 y1
   unfold line_divisor.l0
   repeat' first
   | (with_reducible exact ih0 _ _)
   | (with_reducible exact LeO.refl _)
   | (with_reducible exact LeO.none _)
   | (with_reducible refine LeO.ite ?_ ?_)
   | (with_reducible refine LeO.bind ?_ (fun _ => ?_))
   | exact ih0 _ _
   | exact LeO.none _
   | refine LeO.ite ?_ ?_
   | refine LeO.bind ?_ (fun _ => ?_)
theorem line_divisor.mono : ∀ a0 a1 k, LeO (line_divisor.f k a0 a1) (line_divisor.f (k + 1) a0 a1) := by
 intro a0 a1 k
 have ih0 := line_divisor.mono_l k
 unfold line_divisor.f
 repeat' first
   | (with_reducible exact ih0 _ _)
   | (with_reducible exact LeO.refl _)
   | (with_reducible exact LeO.none _)
   | (with_reducible refine LeO.ite ?_ ?_)
   | (with_reducible refine LeO.bind ?_ (fun _ => ?_))
   | exact ih0 _ _
   | exact LeO.none _
   | refine LeO.ite ?_ ?_
   | refine LeO.bind ?_ (fun _ => ?_)
theorem line_divisor.calls (k : Nat) (a0 : Int) (a1 : Int) (r : Int) (w : World) (h : line_divisor.f k a0 a1 = some r) :
  Calls Tryd.prog 127 #[.int .i64 a0, .int .i64 a1] w fun e w' => e = .returned (.int .i64 r) ∧ Below w.heap.size w w' := by
 have HB := m0 (Below.refl w.heap.size w)
 have H : (line_divisor.l0 k a0 a1) = some r := h
 clear h
 have H' := m0 H
 clear H
 go_enter Tryd.func127, Tryd.ntmps127
 go_wp2
 repeat (go_quiet (fail); try go_wp2)
 go_loopg [0, 1] k (fun kq v0 v1 w' => ∃ (x0_1 : Int) (x1_1 : Int), v0 = .int .i64 x0_1 ∧ v1 = .int .i64 x1_1 ∧ Aside0 (line_divisor.l0 kq x0_1 x1_1 = some r) ∧ Aside0 (kq ≤ k) ∧ Aside0 (Below w.heap.size w w'))
 case atStart => exact ⟨(a0), (a1), (by first | rfl | (simp; done) | (simp [*]; done)), (by first | rfl | (simp; done) | (simp [*]; done)), H', ⟨Nat.le_refl _⟩, ⟨bz⟩⟩
 case round =>
  clear H'
  try clear c1
  try clear p2
  obtain ⟨x0_1, x1_1, rfl, rfl, HA, HK1, HB⟩ := hrel
  cases gk with
  | zero => exact absurd HA.out (by simp [line_divisor.l0])
  | succ k1 =>
   have H := HA.out
   clear HA
   simp only [line_divisor.l0] at H
   by_cases c3 : x1_1 = 0
   ·rw [if_pos c3] at H
    have c3b0 := beq_iff_eq.mpr c3
    have c3b1 := bne_eq_false_iff_eq.mpr c3
    clear c3
    obtain ⟨ji4, hji4⟩ : ∃ j_ : Int, (mx x0_1 (wrap64 (-x0_1))) = j_ := ⟨_, rfl⟩
    replace H : (some ji4) = some r := by first | (rw [hji4] at H; exact H) | (simp only [hji4] at H ⊢; exact H)
    have hji4_ : (if x0_1 < (wrap64 (-x0_1)) then (wrap64 (-x0_1)) else x0_1) = ji4 := hji4
    obtain rfl := Option.some.inj H
    go_wp2
    repeat (go_quiet (fail); try go_wp2)
    go_ret
    exact ⟨by first | rfl | (simp [errW_none, errW_some] <;> rfl) | (simp only [← hji4]; first | rfl | (simp [errW_none, errW_some] <;> rfl)) | (simp [*, errW_none, errW_some] <;> rfl), by repeat (first | (with_reducible first | exact HB.out | apply below_alloc | apply pw_below_drewN | apply below_drew1) | exact HB.out)⟩
   ·rw [if_neg c3] at H
    have c3b0 := beq_eq_false_iff_ne.mpr c3
    have c3b1 := bne_iff_ne.mpr c3
    have H' := m0 H
    clear H
    go_wp2
    repeat (go_quiet (fail); try go_wp2)
    go_roundg k1
    case measure => have := HK1.out; omega
    case rel => exact ⟨(x1_1), (Int.tmod x0_1 x1_1), (by first | rfl | (simp; done) | (simp [*]; done)), (by first | rfl | (simp; done) | (simp [*]; done)), H', ⟨by have := HK1.out; omega⟩, ⟨bz⟩⟩
end
section
def line_lowestErr.j0 : Nat → Int → Bool → Int → Int → Option (Int)
 | 0, _, _, _, _ => none
 | k + 1, x1, x15, x108000, x108001 => if x15 = true then (some 3) else ((line_within.f x108000 (wrap64 (-x1)) x1).bind fun t109 => (if t109 = true then ((line_unless.f (decide (x108001 ≤ x1)) 2).bind fun t110 => (some t110)) else ((line_unless.f false 2).bind fun t111 => (some t111))))
def line_lowestErr.f (k : Nat) (a0_0 : Int) (a0_1 : Int) (a1 : Int) : Option (Int) := if a0_1 ≤ 0 then (line_lowestErr.j0 k a1 true a0_0 a0_1) else ((line_divisor.f k a0_0 a0_1).bind fun t108 => (line_lowestErr.j0 k a1 (t108 != 1) a0_0 a0_1))
theorem line_lowestErr.mono_l : ∀ k, (∀ y0 y1 y2 y3, LeO (line_lowestErr.j0 k y0 y1 y2 y3) (line_lowestErr.j0 (k + 1) y0 y1 y2 y3))
 | 0 => fun _ _ _ _ r h => by simp [line_lowestErr.j0] at h
 | k + 1 => by
  have ih0 := line_lowestErr.mono_l k
  ·intro y0 y1 y2 y3
   unfold line_lowestErr.j0
   repeat' first
   | (with_reducible exact ih0 _ _ _ _)
   | (with_reducible exact line_divisor.mono _ _ _)
   | (with_reducible exact LeO.refl _)
   | (with_reducible exact LeO.none _)
   | (with_reducible refine LeO.ite ?_ ?_)
   | (with_reducible refine LeO.bind ?_ (fun _ => ?_))
   | exact ih0 _ _ _ _
   | exact line_divisor.mono _ _ _
   | exact LeO.none _
   | refine LeO.ite ?_ ?_
   | refine LeO.bind ?_ (fun _ => ?_)
theorem line_lowestErr.mono : ∀ a0 a1 a2 k, LeO (line_lowestErr.f k a0 a1 a2) (line_lowestErr.f (k + 1) a0 a1 a2) := by
 intro a0 a1 a2 k
 have ih0 := line_lowestErr.mono_l k
 unfold line_lowestErr.f
 repeat' first
   | (with_reducible exact ih0 _ _ _ _)
   | (with_reducible exact line_divisor.mono _ _ _)
   | (with_reducible exact LeO.refl _)
   | (with_reducible exact LeO.none _)
   | (with_reducible refine LeO.ite ?_ ?_)
   | (with_reducible refine LeO.bind ?_ (fun _ => ?_))
   | exact ih0 _ _ _ _
   | exact line_divisor.mono _ _ _
   | exact LeO.none _
   | refine LeO.ite ?_ ?_
   | refine LeO.bind ?_ (fun _ => ?_)
theorem line_lowestErr.calls (k : Nat) (a0_0 : Int) (a0_1 : Int) (a1 : Int) (r : Int) (w : World) (h : line_lowestErr.f k a0_0 a0_1 a1 = some r) :
  Calls Tryd.prog 109 #[.agg #[.int .i64 a0_0, .int .i64 a0_1], .int .i64 a1] w fun e w' => e = .returned (.int .i64 r) ∧ Below w.heap.size w w' := by
 have hu26 := Tryd.underlying26
 have HB := m0 (Below.refl w.heap.size w)
 have H : (if a0_1 ≤ 0 then (line_lowestErr.j0 k a1 true a0_0 a0_1) else ((line_divisor.f k a0_0 a0_1).bind fun t108 => (line_lowestErr.j0 k a1 (t108 != 1) a0_0 a0_1))) = some r := h
 clear h
 have HC3 := m0 H
 clear H
 go_enter Tryd.func109, Tryd.ntmps109
 go_upto_region 1 with (first | ((with_reducible refine gate_dst (N := 2) rfl ?_); refine be 2 26 #[.int .i64 a0_0, .int .i64 a0_1] ?_; intro gb107 hg w4 hbox hb; have BK107 := m0 hbox; have GW107 := m0 (bg (n := w.heap.size) hg); have GE107 := m0 (bg (n := w.heap.size) hg); replace HB := sb HB hb; clear hb hbox hg))
 (try simp only [Act.put, List.setIfInBounds_toArray, List.set_cons_zero, List.set_cons_succ])
 go_cut [15] (fun v15 wc => ∃ (kq : Nat) (x15_2 : Bool), v15 = .bool x15_2 ∧ Aside0 (line_lowestErr.j0 kq a1 x15_2 a0_0 a0_1 = some r) ∧ Aside0 (kq ≤ k) ∧ Aside0 (wc.heap[gb107]? = some (.cells #[.int .i64 a0_0, .int .i64 a0_1] 26 (0, 0))) ∧ Aside0 (Below w.heap.size w wc))
 case first =>
  have H := HC3.out
  clear HC3
  by_cases c5 : a0_1 ≤ 0
  ·rw [if_pos c5] at H
   have c5b0 := decide_eq_true c5
   clear c5
   (first | rw [c5b0] | (simp only [i64_w, i32_w]; rw [c5b0]) | skip)
   have H' := m0 H
   clear H
   obtain ⟨hcz6_0, hcz6_1, hfz6_0, hfz6_1⟩ := b2 BK107
   go_wp2
   go_meet
   case rel => exact ⟨_, (true), (by first | rfl | (simp; done) | (simp [*]; done)), H', ⟨by first | omega | exact Nat.le_refl _⟩, ⟨bk BK107.out⟩, ⟨bz⟩⟩
  ·rw [if_neg c5] at H
   have c5b0 := decide_eq_false c5
   clear c5
   (first | rw [c5b0] | (simp only [i64_w, i32_w]; rw [c5b0]) | skip)
   replace H := ob H
   obtain ⟨t108, A70, H⟩ := H
   (try dsimp only at H)
   have A7 := m0 A70
   clear A70
   have H' := m0 H
   clear H
   obtain ⟨hcz8_0, hcz8_1, hfz8_0, hfz8_1⟩ := b2 BK107
   go_wp2_with (first | (go_at_call 127; (with_reducible refine (line_divisor.calls k a0_0 a0_1 t108 _ A7.out).mono ?_); rintro e w9 ⟨rfl, hb⟩; replace BK107 := bb BK107 hb; replace HB := sb HB hb; (try clear hb)))
   go_meet
   case rel => exact ⟨_, ((t108 != 1)), (by first | rfl | (simp; done) | (simp [*]; done)), H', ⟨by first | omega | exact Nat.le_refl _⟩, ⟨bk BK107.out⟩, ⟨bz⟩⟩
 case rest =>
  clear HC3
  try clear c1
  try clear p2
  try clear c5
  try clear c5b0
  try clear hcz6_0
  try clear hcz6_1
  try clear hcz8_0
  try clear hcz8_1
  try clear hfz6_0
  try clear hfz6_1
  try clear hfz8_0
  try clear hfz8_1
  obtain ⟨kq, x15_2, rfl, HA, HJ2, BK107, HB⟩ := hcut
  cases kq with
  | zero => exact absurd HA.out (by simp [line_lowestErr.j0])
  | succ kj2 =>
   have H := HA.out
   clear HA
   simp only [line_lowestErr.j0] at H
   by_cases c10 : x15_2 = true
   ·subst c10
    rw [if_pos rfl] at H
    obtain rfl := Option.some.inj H
    go_wp2
    go_ret
    exact ez
   ·replace c10 := Bool.eq_false_iff.mpr c10
    subst c10
    rw [if_neg (show ¬ (false = true) by decide)] at H
    replace H := ob H
    obtain ⟨t109, A110, H⟩ := H
    (try dsimp only at H)
    have A11 := m0 A110
    clear A110
    by_cases c12 : t109 = true
    ·subst c12
     rw [if_pos rfl] at H
     replace H := ob H
     obtain ⟨t110, A130, H⟩ := H
     (try dsimp only at H)
     have A13 := m0 A130
     clear A130
     obtain rfl := Option.some.inj H
     obtain ⟨_, _, _, _⟩ := b2 BK107
     go_wp2_with (first | ((with_reducible refine gate_callee (f := 105) rfl ?_); refine gl (some 21) Tryd.func105 #[.int .i64 a0_0, .int .i64 (wrap64 (-a1)), .int .i64 a1] ?_; (with_reducible refine (line_within.calls a0_0 (wrap64 (-a1)) a1 true _ A11.out).mono ?_); rintro e w' ⟨rfl, ⟨nd, rfl⟩⟩; refine ⟨_, rfl, ?_⟩) | ((with_reducible refine gate_callee (f := 93) rfl ?_); refine gl (some 28) Tryd.func93 #[.bool (decide (a0_1 ≤ a1)), .int .i64 2] ?_; (with_reducible refine (line_unless.calls (decide (a0_1 ≤ a1)) 2 t110 _ A13.out).mono ?_); rintro e w' ⟨rfl, ⟨nd, rfl⟩⟩; refine ⟨_, rfl, ?_⟩))
     go_ret
     exact ez
    ·replace c12 := Bool.eq_false_iff.mpr c12
     subst c12
     rw [if_neg (show ¬ (false = true) by decide)] at H
     replace H := ob H
     obtain ⟨t111, A150, H⟩ := H
     (try dsimp only at H)
     have A15 := m0 A150
     clear A150
     obtain rfl := Option.some.inj H
     obtain ⟨_, _, _, _⟩ := b2 BK107
     go_wp2_with (first | ((with_reducible refine gate_callee (f := 105) rfl ?_); refine gl (some 21) Tryd.func105 #[.int .i64 a0_0, .int .i64 (wrap64 (-a1)), .int .i64 a1] ?_; (with_reducible refine (line_within.calls a0_0 (wrap64 (-a1)) a1 false _ A11.out).mono ?_); rintro e w' ⟨rfl, ⟨nd, rfl⟩⟩; refine ⟨_, rfl, ?_⟩) | ((with_reducible refine gate_callee (f := 93) rfl ?_); refine gl (some 28) Tryd.func93 #[.bool false, .int .i64 2] ?_; (with_reducible refine (line_unless.calls false 2 t111 _ A15.out).mono ?_); rintro e w' ⟨rfl, ⟨nd, rfl⟩⟩; refine ⟨_, rfl, ?_⟩))
     go_ret
     exact ez
end
section
def slices_Max_int_int.l0 : Nat → List Int → Int → Int → Option (Int)
  | 0, _, _, _ => none
  | k + 1, x0, x3, x4 => if x4 < (x0.length : Int) then (if 0 ≤ x4 then (slices_Max_int_int.l0 k x0 (mx x3 (rd x0 x4)) (wrap64 (x4 + 1))) else (none)) else (some x3)
def slices_Max_int_int.f (k : Nat) (l0 : List Int) : Option (Int) := if (l0.length : Int) < 1 then (none) else (if 0 < (l0.length : Int) then (slices_Max_int_int.l0 k l0 (rd l0 0) 1) else (none))
theorem slices_Max_int_int.mono_l : ∀ k, (∀ y0 y1 y2, LeO (slices_Max_int_int.l0 k y0 y1 y2) (slices_Max_int_int.l0 (k + 1) y0 y1 y2))
  | 0 => fun _ _ _ r h => by simp [slices_Max_int_int.l0] at h
  | k + 1 => by
    have ih0 := slices_Max_int_int.mono_l k
    · intro y0 y1 y2
      unfold slices_Max_int_int.l0
      repeat' first
      | (with_reducible exact ih0 _ _ _)
      | (with_reducible exact LeO.refl _)
      | (with_reducible exact LeO.none _)
      | (with_reducible refine LeO.ite ?_ ?_)
      | (with_reducible refine LeO.bind ?_ (fun _ => ?_))
      | exact ih0 _ _ _
      | exact LeO.none _
      | refine LeO.ite ?_ ?_
      | refine LeO.bind ?_ (fun _ => ?_)
theorem slices_Max_int_int.mono : ∀ a0 k, LeO (slices_Max_int_int.f k a0) (slices_Max_int_int.f (k + 1) a0) := by
  intro a0 k
  have ih0 := slices_Max_int_int.mono_l k
  unfold slices_Max_int_int.f
  repeat' first
      | (with_reducible exact ih0 _ _ _)
      | (with_reducible exact LeO.refl _)
      | (with_reducible exact LeO.none _)
      | (with_reducible refine LeO.ite ?_ ?_)
      | (with_reducible refine LeO.bind ?_ (fun _ => ?_))
      | exact ih0 _ _ _
      | exact LeO.none _
      | refine LeO.ite ?_ ?_
      | refine LeO.bind ?_ (fun _ => ?_)
theorem slices_Max_int_int.calls (k : Nat) (A0 : Option Addr) (c0 : Nat) (l0 : List Int) (r : Int) (w : World) (hr0 : Kd.C (Kd.int .i64) w A0 l0.length l0) (hc0 : l0.length ≤ c0) (h : slices_Max_int_int.f k l0 = some r) :
    Calls Tryd.prog 122 #[.slice A0 l0.length c0] w fun e w' => e = .returned (.int .i64 r) ∧ Below w.heap.size w w' := by
  have HR0 := m0 hr0
  have HC0 := m0 hc0
  clear hr0 hc0
  have HB := m0 (Below.refl w.heap.size w)
  have H : (if (l0.length : Int) < 1 then (none) else (if 0 < (l0.length : Int) then (slices_Max_int_int.l0 k l0 (rd l0 0) 1) else (none))) = some r := h
  clear h
  by_cases c2 : (l0.length : Int) < 1
  · rw [if_pos c2] at H
    exact absurd H (by simp)
  · rw [if_neg c2] at H
    have c2b0 := decide_eq_false c2
    have c2b1 : decide (l0.length < 1) = false := decide_eq_false (by omega)
    clear c2
    by_cases c3 : 0 < (l0.length : Int)
    · rw [if_pos c3] at H
      have c3b0 := decide_eq_true c3
      have c3b1 : decide (0 < l0.length) = true := decide_eq_true (by omega)
      clear c3
      have H' := m0 H
      clear H
      have p113 : 0 ≤ (0 : Int) := (by omega)
      have q113 : 0 < (l0.length : Int) := of_decide_eq_true (by first | (with_reducible assumption) | assumption)
      obtain ⟨ad113, e113, hx113_0⟩ := Kd.at_int HR0.out 0 p113 q113
      cases e113
      have qi113 : (0 < l0.length) = True := eq_true (by omega)
      (try rw [show ((0 : Int)).toNat = 0 from rfl] at hx113_0)
      (try rw [Addr.add_zero'] at hx113_0)
      replace p113 := eq_true p113
      replace q113 := eq_true q113
      go_enter Tryd.func122, Tryd.ntmps122
      go_wp2
      go_loopg [3, 4] k (fun kq v3 v4 w' => ∃ (x3_1 : Int) (x4_1 : Int), v3 = .int .i64 x3_1 ∧ v4 = .int .i64 x4_1 ∧ Aside0 (slices_Max_int_int.l0 kq l0 x3_1 x4_1 = some r) ∧ Aside0 (kq ≤ k) ∧ Aside0 (Below w.heap.size w w'))
      case atStart => exact ⟨(rd l0 0), (1), (by first | rfl | (simp; done) | (simp [*]; done)), (by first | rfl | (simp; done) | (simp [*]; done)), H', ⟨Nat.le_refl _⟩, ⟨bz⟩⟩
      case round =>
        clear H'
        try clear c1
        try clear p1
        try clear q1
        try clear hx1
        try clear qi1
        try clear c2
        try clear c2b0
        try clear c2b1
        try clear p2
        try clear c3
        try clear c3b0
        try clear c3b1
        try clear hx113_0
        try clear p113
        try clear q113
        obtain ⟨x3_1, x4_1, rfl, rfl, HA, HK1, HB⟩ := hrel
        cases gk with
        | zero => exact absurd HA.out (by simp [slices_Max_int_int.l0])
        | succ k1 =>
          have H := HA.out
          clear HA
          simp only [slices_Max_int_int.l0] at H
          by_cases c4 : x4_1 < (l0.length : Int)
          · rw [if_pos c4] at H
            have c4b0 := decide_eq_true c4
            clear c4
            by_cases c5 : 0 ≤ x4_1
            · rw [if_pos c5] at H
              have c5b0 := decide_eq_true c5
              clear c5
              obtain ⟨ji6, hji6⟩ : ∃ j_ : Int, (mx x3_1 (rd l0 x4_1)) = j_ := ⟨_, rfl⟩
              replace H : (slices_Max_int_int.l0 k1 l0 ji6 (wrap64 (x4_1 + 1))) = some r := by first | (rw [hji6] at H; exact H) | (simp only [hji6] at H ⊢; exact H)
              have hji6_ : (if x3_1 < (rd l0 x4_1) then (rd l0 x4_1) else x3_1) = ji6 := hji6
              have H' := m0 H
              clear H
              have p114 : 0 ≤ (x4_1 : Int) := of_decide_eq_true (by first | (with_reducible assumption) | assumption)
              have q114 : x4_1 < (l0.length : Int) := of_decide_eq_true (by first | (with_reducible assumption) | assumption)
              obtain ⟨ad114, e114, hx114_0⟩ := Kd.at_int HR0.out x4_1 p114 q114
              obtain rfl : ad113 = ad114 := (by injection e114)
              replace hx114_0 := (HB.out.cell (World.block_lt_of_cell? w _ hx114_0)).trans hx114_0
              replace p114 := eq_true p114
              replace q114 := eq_true q114
              go_wp2
              go_roundg k1
              case measure => have := HK1.out; omega
              case rel => exact ⟨(ji6), (wrap64 (x4_1 + 1)), (by first | rfl | (simp; done) | (simp only [← hji6] <;> (first | rfl | simp)) | (simp [*]; done)), (by first | rfl | (simp; done) | (simp [*]; done)), H', ⟨by have := HK1.out; omega⟩, ⟨bz⟩⟩
            · rw [if_neg c5] at H
              exact absurd H (by simp)
          · rw [if_neg c4] at H
            have c4b0 := decide_eq_false c4
            clear c4
            obtain rfl := Option.some.inj H
            go_wp2
            go_ret
            exact ez
    · rw [if_neg c3] at H
      exact absurd H (by simp)
end
section
def line_CheckCase.f (k : Nat) (l0_0 : List Int) (l0_1 : List Int) (a0_2 : Int) (a0_3 : Int) : Option (Int) := (line_CheckSpectrum.f l0_0).bind fun bt116 => ((line_CheckNoise.f l0_1).bind fun bt118 => ((line_first.f k (([bt116.2, bt118.2] : List Int))).bind fun t123 => (if t123 = 0 then ((line_cases.f k l0_1 (l0_0.length : Int)).bind fun bt124 => ((slices_Max_int_int.f k l0_0).bind fun t126 => ((line_unless.f (decide (t126 ≤ 9000)) 2).bind fun t127 => ((line_unless.f bt124.2 8).bind fun t128 => ((line_lowestErr.f k a0_2 a0_3 100).bind fun t129 => ((line_first.f k (([t127, t128, t129] : List Int))).bind fun t133 => (some t133))))))) else (some t123))))
theorem line_CheckCase.mono : ∀ a0 a1 a2 a3 k, LeO (line_CheckCase.f k a0 a1 a2 a3) (line_CheckCase.f (k + 1) a0 a1 a2 a3) := by
 intro a0 a1 a2 a3 k
 unfold line_CheckCase.f
 repeat' first
   | (with_reducible exact line_cases.mono _ _ _)
   | (with_reducible exact line_first.mono _ _)
   | (with_reducible exact line_lowestErr.mono _ _ _ _)
   | (with_reducible exact slices_Max_int_int.mono _ _)
   | (with_reducible exact LeO.refl _)
   | (with_reducible exact LeO.none _)
   | (with_reducible refine LeO.ite ?_ ?_)
   | (with_reducible refine LeO.bind ?_ (fun _ => ?_))
   | exact line_cases.mono _ _ _
   | exact line_first.mono _ _
   | exact line_lowestErr.mono _ _ _ _
   | exact slices_Max_int_int.mono _ _
   | exact LeO.none _
   | refine LeO.ite ?_ ?_
   | refine LeO.bind ?_ (fun _ => ?_)
def line_CheckCase.T7 : Bool × List (List Nat × List Nat) := (true, [([], []), ([0], [0]), ([1], [1]), ([2], [2]), ([3, 2], [3]), ([], []), ([5, 4], [5]), ([], []), ([7], [7]), ([8, 6], [8]), ([4, 6, 9], [4, 6, 9]), ([10, 9], [10]), ([11, 11, 0, 1, 2, 3, 4, 5, 6, 7, 8, 9, 10, 11], [11])])
def line_CheckCase.B7 : List Nat := [0, 1, 3, 7, 15, 0, 63, 0, 128, 511, 1023, 2047, 4095]
theorem line_CheckCase.tab7 : rtab .any (opsOf Tryd.f53 7) = line_CheckCase.T7 := by kernel_rfl
theorem line_CheckCase.bits7 : waitsOk line_CheckCase.T7.2 line_CheckCase.B7 = true := by kernel_rfl
theorem line_CheckCase.calls (k : Nat) (A0_0 : Option Addr) (c0_0 : Nat) (l0_0 : List Int) (A0_1 : Option Addr) (c0_1 : Nat) (l0_1 : List Int) (a0_2 : Int) (a0_3 : Int) (r : Int) (w : World) (hr0_0 : Kd.C (Kd.int .i64) w A0_0 l0_0.length l0_0) (hc0_0 : l0_0.length ≤ c0_0) (hr0_1 : Kd.C (Kd.int .i64) w A0_1 l0_1.length l0_1) (hc0_1 : l0_1.length ≤ c0_1) (h : line_CheckCase.f k l0_0 l0_1 a0_2 a0_3 = some r) :
  Calls Tryd.prog 53 #[.agg #[.slice A0_0 l0_0.length c0_0, .slice A0_1 l0_1.length c0_1, .int .i64 a0_2, .int .i64 a0_3]] w fun e w' => e = .returned (.int .i64 r) ∧ Below w.heap.size w w' := by
 have hu28 := Tryd.underlying28
 have hu24 := Tryd.underlying24
 have hu26 := Tryd.underlying26
 have HR0_0 := m0 hr0_0
 have HC0_0 := m0 hc0_0
 clear hr0_0 hc0_0
 have HR0_1 := m0 hr0_1
 have HC0_1 := m0 hc0_1
 clear hr0_1 hc0_1
 have HB := m0 (Below.refl w.heap.size w)
 have H : ((line_CheckSpectrum.f l0_0).bind fun bt116 => ((line_CheckNoise.f l0_1).bind fun bt118 => ((line_first.f k (([bt116.2, bt118.2] : List Int))).bind fun t123 => (if t123 = 0 then ((line_cases.f k l0_1 (l0_0.length : Int)).bind fun bt124 => ((slices_Max_int_int.f k l0_0).bind fun t126 => ((line_unless.f (decide (t126 ≤ 9000)) 2).bind fun t127 => ((line_unless.f bt124.2 8).bind fun t128 => ((line_lowestErr.f k a0_2 a0_3 100).bind fun t129 => ((line_first.f k (([t127, t128, t129] : List Int))).bind fun t133 => (some t133))))))) else (some t123))))) = some r := h
 clear h
 replace H := ob H
 obtain ⟨⟨t116, t117⟩, A20, H⟩ := H
 (try dsimp only at H)
 have A2 := m0 A20
 clear A20
 replace H := ob H
 obtain ⟨⟨t118, t119⟩, A30, H⟩ := H
 (try dsimp only at H)
 have A3 := m0 A30
 clear A30
 obtain ⟨y120, hy120⟩ : ∃ y_ : List Int, y_ = (([t117, t119] : List Int)) := ⟨_, rfl⟩
 replace H : ((line_first.f k y120).bind fun t123 => (if t123 = 0 then ((line_cases.f k l0_1 (l0_0.length : Int)).bind fun bt124 => ((slices_Max_int_int.f k l0_0).bind fun t126 => ((line_unless.f (decide (t126 ≤ 9000)) 2).bind fun t127 => ((line_unless.f bt124.2 8).bind fun t128 => ((line_lowestErr.f k a0_2 a0_3 100).bind fun t129 => ((line_first.f k (([t127, t128, t129] : List Int))).bind fun t133 => (some t133))))))) else (some t123))) = some r := by first | (rw [hy120]; with_reducible exact H) | (have H2_ := (Option.bind_some _ _).symm.trans H; rw [hy120]; with_reducible exact H2_) | (have H2_ := (Option.bind_some _ _).symm.trans H; with_reducible exact H2_) | with_reducible exact H | (rw [hy120]; exact H) | exact H
 have Ny120 := m0 hy120
 clear hy120
 replace H := ob H
 obtain ⟨t123, A40, H⟩ := H
 (try dsimp only at H)
 have A4 := m0 A40
 clear A40
 by_cases c5 : t123 = 0
 ·rw [if_pos c5] at H
  have c5b0 := beq_iff_eq.mpr c5
  have c5b1 := bne_eq_false_iff_eq.mpr c5
  clear c5
  replace H := ob H
  obtain ⟨⟨t124, t125⟩, A60, H⟩ := H
  (try dsimp only at H)
  have A6 := m0 A60
  clear A60
  replace H := ob H
  obtain ⟨t126, A70, H⟩ := H
  (try dsimp only at H)
  have A7 := m0 A70
  clear A70
  replace H := ob H
  obtain ⟨t127, A80, H⟩ := H
  (try dsimp only at H)
  have A8 := m0 A80
  clear A80
  replace H := ob H
  obtain ⟨t128, A90, H⟩ := H
  (try dsimp only at H)
  have A9 := m0 A90
  clear A90
  replace H := ob H
  obtain ⟨t129, A100, H⟩ := H
  (try dsimp only at H)
  have A10 := m0 A100
  clear A100
  obtain ⟨y130, hy130⟩ : ∃ y_ : List Int, y_ = (([t127, t128, t129] : List Int)) := ⟨_, rfl⟩
  replace H : ((line_first.f k y130).bind fun t133 => (some t133)) = some r := by first | (rw [hy130]; with_reducible exact H) | (have H2_ := (Option.bind_some _ _).symm.trans H; rw [hy130]; with_reducible exact H2_) | (have H2_ := (Option.bind_some _ _).symm.trans H; with_reducible exact H2_) | with_reducible exact H | (rw [hy130]; exact H) | exact H
  have Ny130 := m0 hy130
  clear hy130
  replace H := ob H
  obtain ⟨t133, A110, H⟩ := H
  (try dsimp only at H)
  have A11 := m0 A110
  clear A110
  obtain rfl := Option.some.inj H
  go_enter Tryd.func53, Tryd.ntmps53
  try go_wp2_with (first | ((with_reducible refine gate_dst (N := 1) rfl ?_); refine be 1 28 #[.slice A0_0 l0_0.length c0_0, .slice A0_1 l0_1.length c0_1, .int .i64 a0_2, .int .i64 a0_3] ?_; intro gb115 hg w12 hbox hb; have BK115 := m0 hbox; have GW115 := m0 (bg (n := w.heap.size) hg); have GE115 := m0 (bg (n := w.heap.size) hg); replace HB := sb HB hb; clear hb hbox hg; obtain ⟨_, _, _, _, _, _, _, _⟩ := b4 BK115) | ((with_reducible refine gate_callee (f := 75) rfl ?_); refine gl (some 12) Tryd.func75 #[.slice A0_0 l0_0.length c0_0] ?_; (with_reducible refine (line_CheckSpectrum.calls _ _ l0_0 t116 t117 _ ?side1 ?side2 A2.out).mono ?_); (case side1 => exact cb HR0_0 HB); (case side2 => exact HC0_0.out); rintro e w14 ⟨rfl, hb⟩; refine ⟨_, rfl, ?_⟩; replace BK115 := bb BK115 hb; replace HB := sb HB hb; (try clear hb); obtain ⟨_, _, _, _, _, _, _, _⟩ := b4 BK115) | ((with_reducible refine gate_callee (f := 51) rfl ?_); refine gl (some 18) Tryd.func51 #[.agg #[.slice A0_1 l0_1.length c0_1]] ?_; (with_reducible refine (line_CheckNoise.calls _ _ l0_1 t118 t119 _ ?side1 ?side2 A3.out).mono ?_); (case side1 => exact cb HR0_1 HB); (case side2 => exact HC0_1.out); rintro e w16 ⟨rfl, hb⟩; refine ⟨_, rfl, ?_⟩; replace BK115 := bb BK115 hb; replace HB := sb HB hb; (try clear hb)) | ((with_reducible refine gate_dst (N := 23) rfl ?_); refine Kd.R_lit (Kd.int .i64) _ 31 ?hg (N := 23) ?hd (xs := ([t117, t119] : List Int)) (inner := [.int .i64 t117, .int .i64 t119]) (ok := fun _ => True) (okp := fun _ => True) ?hr ?hp (fun _ hk => hk) trivial (Below.refl _ _) (Nat.le_refl _) (by simp) ?_; (case hd => rfl); (case hg => rfl); (case hr => first | (go_simp; done) | (go_simp; rfl)); (case hp => exact (Reps.one (show Kd.M (Kd.int .i64) _ _ _ t117 [.int .i64 t117] from rfl) (Reps.one (show Kd.M (Kd.int .i64) _ _ _ t119 [.int .i64 t119] from rfl) (Reps.none _ _)))); intro v121 w17 ho18 hb hg_ hnew_; clear hg_ hnew_; (first | rw [← Ny120.out] at ho18 | (simp only [Int.reduceToNat] at ho18; rw [← Ny120.out] at ho18)); have HO122 := m0 (Kd.R_lower ho18 (below_size bz)); replace BK115 := bb BK115 hb; replace HB := sb HB hb; clear hb ho18; obtain ⟨Ao19, co19, eo19⟩ := Kd.R_slice HO122.out; subst eo19) | ((with_reducible refine gate_callee (f := 91) rfl ?_); refine gl (some 24) Tryd.func91 #[.slice Ao19 y120.length co19] ?_; (with_reducible refine (line_first.calls k _ _ y120 t123 _ ?side1 ?side2 A4.out).mono ?_); (case side1 => exact bc (Kd.R_reads' HO122.out).2.2); (case side2 => exact (Kd.R_reads' HO122.out).2.1); rintro e w' ⟨rfl, ⟨nd, rfl⟩⟩; refine ⟨_, rfl, ?_⟩; obtain ⟨_, _, _, _, _, _, _, _⟩ := b4 BK115) | ((with_reducible refine gate_callee (f := 121) rfl ?_); refine gl (some 34) Tryd.func121 #[.agg #[.slice A0_1 l0_1.length c0_1], .int .i64 (l0_0.length : Int)] ?_; (with_reducible refine (line_cases.calls k _ _ l0_1 (l0_0.length : Int) t124 t125 _ ?side1 ?side2 A6.out).mono ?_); (case side1 => repeat (first | exact (Kd.C_below HR0_1.out bz) | (with_reducible refine Kd.C_alloc ?_ _) | (with_reducible refine Kd.C_drewN ?_ _) | (with_reducible refine Kd.C_drew ?_))); (case side2 => exact HC0_1.out); rintro e w21 ⟨rfl, hb⟩; refine ⟨_, rfl, ?_⟩; replace HO122 := rb HO122 hb; replace BK115 := bb BK115 hb; replace HB := sb HB hb; (try clear hb)))
  replace HO122 := m0 (Kd.R_drew HO122.out); replace BK115 := bd BK115; replace HB := sd HB
  refine start_ (n := 13) (S := fun w' => w'.cell? ⟨gb115, 0, none⟩ = some (.slice A0_0 l0_0.length c0_0) ∧ w'.cell? ⟨gb115, 1, none⟩ = some (.slice A0_1 l0_1.length c0_1) ∧ w'.cell? ⟨gb115, 2, none⟩ = some (.int .i64 a0_2) ∧ w'.cell? ⟨gb115, 3, none⟩ = some (.int .i64 a0_3)) (ds := []) #[false, false, false, false, false, false, false, false, false, false, false, false, false] (by kernel_rfl) rfl rfl cz (fun hHeld => ?_); refine with_tabW line_CheckCase.tab7 line_CheckCase.bits7 (fun HT_ HW_ => ?_)
  generalize w21.drew = w22 at HO122 BK115 HB hHeld ⊢
  refine pureZ (i := 0) (N := some 37) (bs 13 1) HT_ ?_
  refine pureZ (i := 5) (N := some 42) (bs 13 33) HT_ ?_
  refine pureZ (i := 7) (N := some 44) (bs 13 161) HT_ ?_
  refine takeZ 1 (some 38) (bs 13 163) (take_ofW HT_.out HW_.out (by kernel_rfl)) hHeld ?_
  refine takeZ 8 (some 45) (bs 13 419) (take_ofW HT_.out HW_.out (by kernel_rfl)) hHeld ?_
  refine oneZ 2 (some 39) (bs 13 423) (one_of HT_.out (by kernel_rfl)) fun K hK => ?_
  refine goes_ Tryd.func122 (by kernel_rfl) rfl #[.slice A0_0 l0_0.length c0_0] (by rfl) rfl rfl mz ?_
  with_reducible refine (slices_Max_int_int.calls k _ _ l0_0 t126 _ ?side1 ?side2 A7.out).mono ?_
  (case side1 => exact cb HR0_0 HB)
  (case side2 => exact HC0_0.out)
  rintro e w23 ⟨rfl, hb⟩
  refine ⟨_, rfl, ?_⟩
  replace HO122 := rb HO122 hb; replace BK115 := bb BK115 hb; replace HB := sb HB hb
  (try clear hb)
  refine hK.out _ _ cz (fun hHeld => ?_)
  clear hK K
  refine norm_ (a' := ?_) ?_ ?_
  rotate_left
  ·show Act.put _ (some 39) _ = _
   exact pz
  refine pureZ (i := 3) (N := some 40) (bs 13 431) HT_ ?_
  refine oneZ 4 (some 41) (bs 13 447) (one_of HT_.out (by kernel_rfl)) fun K hK => ?_
  refine goes_ Tryd.func93 (by kernel_rfl) rfl #[.bool (decide (t126 ≤ 9000)), .int .i64 2] (by rfl) rfl rfl mz ?_
  with_reducible refine (line_unless.calls (decide (t126 ≤ 9000)) 2 t127 _ A8.out).mono ?_
  rintro e w' ⟨rfl, ⟨nd, rfl⟩⟩
  refine ⟨_, rfl, ?_⟩
  refine hK.out _ _ cz (fun hHeld => ?_)
  clear hK K
  refine norm_ (a' := ?_) ?_ ?_
  rotate_left
  ·show Act.put _ (some 41) _ = _
   exact pz
  refine oneZ 6 (some 43) (bs 13 511) (one_of HT_.out (by kernel_rfl)) fun K hK => ?_
  refine goes_ Tryd.func93 (by kernel_rfl) rfl #[.bool t125, .int .i64 8] (by rfl) rfl rfl mz ?_
  with_reducible refine (line_unless.calls t125 8 t128 _ A9.out).mono ?_
  rintro e w' ⟨rfl, ⟨nd, rfl⟩⟩
  refine ⟨_, rfl, ?_⟩
  refine hK.out _ _ cz (fun hHeld => ?_)
  clear hK K
  refine norm_ (a' := ?_) ?_ ?_
  rotate_left
  ·show Act.put _ (some 43) _ = _
   exact pz
  refine oneZ 9 (some 46) (bs 13 1023) (one_of HT_.out (by kernel_rfl)) fun K hK => ?_
  refine goes_ Tryd.func109 (by kernel_rfl) rfl #[.agg #[.int .i64 a0_2, .int .i64 a0_3], .int .i64 100] (by rfl) rfl rfl mz ?_
  with_reducible refine (line_lowestErr.calls k a0_2 a0_3 100 t129 _ A10.out).mono ?_
  rintro e w24 ⟨rfl, hb⟩
  refine ⟨_, rfl, ?_⟩
  replace HO122 := rb HO122 hb; replace BK115 := bb BK115 hb; replace HB := sb HB hb
  (try clear hb)
  refine hK.out _ _ cz (fun hHeld => ?_)
  clear hK K
  refine norm_ (a' := ?_) ?_ ?_
  rotate_left
  ·show Act.put _ (some 46) _ = _
   exact pz
  refine oneZ 10 (some 47) (bs 13 2047) (one_of HT_.out (by kernel_rfl)) fun K hK => ?_
  refine Kd.R_lit_step (Kd.int .i64) _ 31 ?hg (N := 47) ?hd (xs := ([t127, t128, t129] : List Int)) (inner := [.int .i64 t127, .int .i64 t128, .int .i64 t129]) (ok := fun _ => True) (okp := fun _ => True) ?hr ?hp (fun _ hk => hk) trivial (Below.refl _ _) (Nat.le_refl _) (by simp) ?_; (case hd => rfl); (case hg => rfl); (case hr => first | (go_simp; done) | (go_simp; rfl)); (case hp => exact (Reps.one (show Kd.M (Kd.int .i64) _ _ _ t127 [.int .i64 t127] from rfl) (Reps.one (show Kd.M (Kd.int .i64) _ _ _ t128 [.int .i64 t128] from rfl) (Reps.one (show Kd.M (Kd.int .i64) _ _ _ t129 [.int .i64 t129] from rfl) (Reps.none _ _)))))
  intro v131 w25 ho26 hb hg_ hnew_
  clear hg_ hnew_
  (first | rw [← Ny130.out] at ho26 | (simp only [Int.reduceToNat] at ho26; rw [← Ny130.out] at ho26))
  have HO132 := m0 (Kd.R_lower (Kd.R_new' ho26 (Kd.R_lt (br HO122.out))) (below_size bz)); replace HO122 := m0 (Kd.R_elder' (br HO122.out) (Kd.R_base ho26) hb); replace BK115 := bb BK115 hb; replace HB := sb HB hb
  clear hb ho26
  obtain ⟨Ao27, co27, eo27⟩ := Kd.R_slice HO132.out
  (first | subst eo27 | (injection eo27 with f1_ f2_ f3_; have f4_ := f1_.symm; have f5_ := f3_.symm; clear f1_ f2_ f3_; subst f4_; subst f5_))
  refine hK.out _ _ cz (fun hHeld => ?_)
  clear hK K
  refine norm_ (a' := ?_) ?_ ?_
  rotate_left
  ·show Act.put _ (some 47) _ = _
   exact pz
  refine oneZ 11 (some 48) (bs 13 4095) (one_of HT_.out (by kernel_rfl)) fun K hK => ?_
  refine goes_ Tryd.func91 (by kernel_rfl) rfl #[.slice Ao27 y130.length co27] (by rfl) rfl rfl mz ?_
  with_reducible refine (line_first.calls k _ _ y130 t133 _ ?side1 ?side2 A11.out).mono ?_
  (case side1 => exact bc (Kd.R_reads' HO132.out).2.2)
  (case side2 => exact (Kd.R_reads' HO132.out).2.1)
  rintro e w' ⟨rfl, ⟨nd, rfl⟩⟩
  refine ⟨_, rfl, ?_⟩
  refine hK.out _ _ cz (fun hHeld => ?_)
  clear hK K
  refine norm_ (a' := ?_) ?_ ?_
  rotate_left
  ·show Act.put _ (some 48) _ = _
   exact pz
  refine pureZ (i := 12) (N := some 2) (bs 13 8191) HT_ ?_
  refine done_ (done_of HT_.out (by kernel_rfl)) ?_
  try go_wp2
  go_ret
  exact ez
 ·rw [if_neg c5] at H
  have c5b0 := beq_eq_false_iff_ne.mpr c5
  have c5b1 := bne_iff_ne.mpr c5
  obtain rfl := Option.some.inj H
  go_enter Tryd.func53, Tryd.ntmps53
  go_wp2_with (first | ((with_reducible refine gate_dst (N := 1) rfl ?_); refine be 1 28 #[.slice A0_0 l0_0.length c0_0, .slice A0_1 l0_1.length c0_1, .int .i64 a0_2, .int .i64 a0_3] ?_; intro gb115 hg w28 hbox hb; have BK115 := m0 hbox; have GW115 := m0 (bg (n := w.heap.size) hg); have GE115 := m0 (bg (n := w.heap.size) hg); replace HB := sb HB hb; clear hb hbox hg; obtain ⟨_, _, _, _, _, _, _, _⟩ := b4 BK115) | ((with_reducible refine gate_callee (f := 75) rfl ?_); refine gl (some 12) Tryd.func75 #[.slice A0_0 l0_0.length c0_0] ?_; (with_reducible refine (line_CheckSpectrum.calls _ _ l0_0 t116 t117 _ ?side1 ?side2 A2.out).mono ?_); (case side1 => exact cb HR0_0 HB); (case side2 => exact HC0_0.out); rintro e w30 ⟨rfl, hb⟩; refine ⟨_, rfl, ?_⟩; replace BK115 := bb BK115 hb; replace HB := sb HB hb; (try clear hb); obtain ⟨_, _, _, _, _, _, _, _⟩ := b4 BK115) | ((with_reducible refine gate_callee (f := 51) rfl ?_); refine gl (some 18) Tryd.func51 #[.agg #[.slice A0_1 l0_1.length c0_1]] ?_; (with_reducible refine (line_CheckNoise.calls _ _ l0_1 t118 t119 _ ?side1 ?side2 A3.out).mono ?_); (case side1 => exact cb HR0_1 HB); (case side2 => exact HC0_1.out); rintro e w32 ⟨rfl, hb⟩; refine ⟨_, rfl, ?_⟩; replace BK115 := bb BK115 hb; replace HB := sb HB hb; (try clear hb)) | ((with_reducible refine gate_dst (N := 23) rfl ?_); refine Kd.R_lit (Kd.int .i64) _ 31 ?hg (N := 23) ?hd (xs := ([t117, t119] : List Int)) (inner := [.int .i64 t117, .int .i64 t119]) (ok := fun _ => True) (okp := fun _ => True) ?hr ?hp (fun _ hk => hk) trivial (Below.refl _ _) (Nat.le_refl _) (by simp) ?_; (case hd => rfl); (case hg => rfl); (case hr => first | (go_simp; done) | (go_simp; rfl)); (case hp => exact (Reps.one (show Kd.M (Kd.int .i64) _ _ _ t117 [.int .i64 t117] from rfl) (Reps.one (show Kd.M (Kd.int .i64) _ _ _ t119 [.int .i64 t119] from rfl) (Reps.none _ _)))); intro v121 w33 ho34 hb hg_ hnew_; clear hg_ hnew_; (first | rw [← Ny120.out] at ho34 | (simp only [Int.reduceToNat] at ho34; rw [← Ny120.out] at ho34)); have HO122 := m0 (Kd.R_lower ho34 (below_size bz)); replace BK115 := bb BK115 hb; replace HB := sb HB hb; clear hb ho34; obtain ⟨Ao35, co35, eo35⟩ := Kd.R_slice HO122.out; subst eo35) | ((with_reducible refine gate_callee (f := 91) rfl ?_); refine gl (some 24) Tryd.func91 #[.slice Ao35 y120.length co35] ?_; (with_reducible refine (line_first.calls k _ _ y120 t123 _ ?side1 ?side2 A4.out).mono ?_); (case side1 => exact bc (Kd.R_reads' HO122.out).2.2); (case side2 => exact (Kd.R_reads' HO122.out).2.1); rintro e w' ⟨rfl, ⟨nd, rfl⟩⟩; refine ⟨_, rfl, ?_⟩))
  go_ret
  exact ez
end
section
def line_kindErr.f (a0 : Int) : Option (Int) := (line_within.f a0 0 3).bind fun t134 => ((line_unless.f t134 14).bind fun t135 => (some t135))
theorem line_kindErr.calls (a0 : Int) (r : Int) (w : World) (h : line_kindErr.f a0 = some r) :
  Calls Tryd.prog 92 #[.int .i64 a0] w fun e w' => e = .returned (.int .i64 r) ∧ Drawn0 w w' := by
 have H : ((line_within.f a0 0 3).bind fun t134 => ((line_unless.f t134 14).bind fun t135 => (some t135))) = some r := h
 clear h
 replace H := ob H
 obtain ⟨t134, A20, H⟩ := H
 (try dsimp only at H)
 have A2 := m0 A20
 clear A20
 replace H := ob H
 obtain ⟨t135, A30, H⟩ := H
 (try dsimp only at H)
 have A3 := m0 A30
 clear A30
 obtain rfl := Option.some.inj H
 go_enter Tryd.func92, Tryd.ntmps92
 go_wp2_with (first | ((with_reducible refine gate_callee (f := 105) rfl ?_); refine gl (some 4) Tryd.func105 #[.int .i64 a0, .int .i64 0, .int .i64 3] ?_; (with_reducible refine (line_within.calls a0 0 3 t134 _ A2.out).mono ?_); rintro e w' ⟨rfl, ⟨nd, rfl⟩⟩; refine ⟨_, rfl, ?_⟩) | ((with_reducible refine gate_callee (f := 93) rfl ?_); refine gl (some 5) Tryd.func93 #[.bool t134, .int .i64 14] ?_; (with_reducible refine (line_unless.calls t134 14 t135 _ A3.out).mono ?_); rintro e w' ⟨rfl, ⟨nd, rfl⟩⟩; refine ⟨_, rfl, ?_⟩))
 go_ret
 exact ⟨by first | rfl | (simp; done) | (simp [*]; done), by repeat (first | exact Drawn0.refl _ | apply Drawn0.step)⟩
end
section
def line_less.f (a0_0 : Int) (a0_1 : Int) (a1_0 : Int) (a1_1 : Int) : Option (Bool) := some (decide ((wrap64 (a0_0 * a1_1)) < (wrap64 (a1_0 * a0_1))))
theorem line_less.calls (a0_0 : Int) (a0_1 : Int) (a1_0 : Int) (a1_1 : Int) (r : Bool) (w : World) (h : line_less.f a0_0 a0_1 a1_0 a1_1 = some r) :
  Calls Tryd.prog 126 #[.agg #[.int .i64 a0_0, .int .i64 a0_1], .agg #[.int .i64 a1_0, .int .i64 a1_1]] w fun e w' => e = .returned (.bool r) ∧ Below w.heap.size w w' := by
 have hu26 := Tryd.underlying26
 have HB := m0 (Below.refl w.heap.size w)
 have H : (some (decide ((wrap64 (a0_0 * a1_1)) < (wrap64 (a1_0 * a0_1))))) = some r := h
 clear h
 obtain rfl := Option.some.inj H
 go_enter Tryd.func126, Tryd.ntmps126
 go_wp2_with (first | ((with_reducible refine gate_dst (N := 2) rfl ?_); refine be 2 26 #[.int .i64 a0_0, .int .i64 a0_1] ?_; intro gb204 hg w3 hbox hb; have BK204 := m0 hbox; have GW204 := m0 (bg (n := w.heap.size) hg); have GE204 := m0 (bg (n := w.heap.size) hg); replace HB := sb HB hb; clear hb hbox hg) | ((with_reducible refine gate_dst (N := 3) rfl ?_); refine be 3 26 #[.int .i64 a1_0, .int .i64 a1_1] ?_; intro gb205 hg w4 hbox hb; have BK205 := m0 hbox; have GW205 := m0 (bg (n := w.heap.size) hg); have GE205 := m0 (bg (n := w.heap.size) hg); replace HB := sb HB hb; have NB204_205 := nl BK204 hg; have NB205_204 := ng (nl BK204 hg); replace BK204 := bb BK204 hb; clear hb hbox hg; have hnb5 := NB204_205.out; have hnc5 := NB205_204.out; obtain ⟨_, _, _, _⟩ := b2 BK204; obtain ⟨_, _, _, _⟩ := b2 BK205))
 go_ret
 exact ez
end
section
def line_fraction.f (k : Nat) (a0 : Int) (a1 : Int) : Option (Int × Int) := (line_divisor.f k a0 a1).bind fun t143 => (if t143 = 0 then (none) else (some (wrap64 (Int.tdiv a0 t143), wrap64 (Int.tdiv a1 t143))))
theorem line_fraction.mono : ∀ a0 a1 k, LeO (line_fraction.f k a0 a1) (line_fraction.f (k + 1) a0 a1) := by
 intro a0 a1 k
 unfold line_fraction.f
 repeat' first
   | (with_reducible exact line_divisor.mono _ _ _)
   | (with_reducible exact LeO.refl _)
   | (with_reducible exact LeO.none _)
   | (with_reducible refine LeO.ite ?_ ?_)
   | (with_reducible refine LeO.bind ?_ (fun _ => ?_))
   | exact line_divisor.mono _ _ _
   | exact LeO.none _
   | refine LeO.ite ?_ ?_
   | refine LeO.bind ?_ (fun _ => ?_)
def line_fraction.T2 : Bool × List (List Nat × List Nat) := (true, [([], []), ([], []), ([0, 1], [0, 1]), ([], []), ([], []), ([3, 4], [3, 4]), ([2, 5], [2, 5]), ([6, 0, 1, 2, 3, 4, 5, 6], [6])])
def line_fraction.B2 : List Nat := [0, 0, 3, 0, 0, 24, 63, 127]
theorem line_fraction.tab2 : rtab .any (opsOf Tryd.f96 2) = line_fraction.T2 := by kernel_rfl
theorem line_fraction.bits2 : waitsOk line_fraction.T2.2 line_fraction.B2 = true := by kernel_rfl
theorem line_fraction.calls (k : Nat) (a0 : Int) (a1 : Int) (r1 : Int) (r2 : Int) (w : World) (h : line_fraction.f k a0 a1 = some (r1, r2)) :
  Calls Tryd.prog 96 #[.int .i64 a0, .int .i64 a1] w fun e w' => e = .returned (.agg #[.int .i64 r1, .int .i64 r2]) ∧ Below w.heap.size w w' := by
 have hu26 := Tryd.underlying26
 have HB := m0 (Below.refl w.heap.size w)
 have H : ((line_divisor.f k a0 a1).bind fun t143 => (if t143 = 0 then (none) else (some (wrap64 (Int.tdiv a0 t143), wrap64 (Int.tdiv a1 t143))))) = some (r1, r2) := h
 clear h
 replace H := ob H
 obtain ⟨t143, A30, H⟩ := H
 (try dsimp only at H)
 have A3 := m0 A30
 clear A30
 by_cases c4 : t143 = 0
 ·rw [if_pos c4] at H
  exact absurd H (by simp)
 ·rw [if_neg c4] at H
  have c4b0 := beq_eq_false_iff_ne.mpr c4
  have c4b1 := bne_iff_ne.mpr c4
  simp only [Option.some.injEq, Prod.mk.injEq] at H
  obtain ⟨rfl, rfl⟩ := H
  go_enter Tryd.func96, Tryd.ntmps96
  try go_wp2_with (first | ((with_reducible refine gate_dst (N := 4) rfl ?_); refine be 4 26 #[.int .i64 0, .int .i64 0] ?_; intro gb142 hg w5 hbox hb; have BK142 := m0 hbox; have GW142 := m0 (bg (n := w.heap.size) hg); have GE142 := m0 (bg (n := w.heap.size) hg); replace HB := sb HB hb; clear hb hbox hg) | ((with_reducible refine gate_callee (f := 127) rfl ?_); refine gl (some 8) Tryd.func127 #[.int .i64 a0, .int .i64 a1] ?_; (with_reducible refine (line_divisor.calls k a0 a1 t143 _ A3.out).mono ?_); rintro e w6 ⟨rfl, hb⟩; refine ⟨_, rfl, ?_⟩; replace BK142 := bb BK142 hb; replace HB := sb HB hb; (try clear hb)))
  replace BK142 := bd BK142; replace HB := sd HB
  refine start_ (n := 8) (S := fun w' => True) (ds := []) #[false, false, false, false, false, false, false, false] (by kernel_rfl) rfl rfl trivial (fun hHeld => ?_); refine with_tabW line_fraction.tab2 line_fraction.bits2 (fun HT_ HW_ => ?_)
  generalize w6.drew = w7 at BK142 HB hHeld ⊢
  refine pureZ (i := 0) (N := some 9) #[true, false, false, false, false, false, false, false] HT_ ?_
  refine pureZ (i := 1) (N := some 10) #[true, true, false, false, false, false, false, false] HT_ ?_
  refine pureZ (i := 2) (N := some 11) #[true, true, true, false, false, false, false, false] HT_ ?_
  refine pureZ (i := 3) (N := some 12) #[true, true, true, true, false, false, false, false] HT_ ?_
  refine pureZ (i := 4) (N := some 13) #[true, true, true, true, true, false, false, false] HT_ ?_
  refine pureZ (i := 5) (N := some 14) #[true, true, true, true, true, true, false, false] HT_ ?_
  refine pureZ (i := 6) (N := some 15) #[true, true, true, true, true, true, true, false] HT_ ?_
  refine oneZ 7 (none) #[true, true, true, true, true, true, true, true] (one_of HT_.out (by kernel_rfl)) fun K hK => ?_
  have hs8 : w7.cell? ⟨gb142, 0, none⟩ = some (.int .i64 0) := (blk_cell BK142.out 0).trans rfl
  have hfs8 := blk_frozen BK142.out 0
  have hs9 : w7.cell? ⟨gb142, 1, none⟩ = some (.int .i64 0) := (blk_cell BK142.out 1).trans rfl
  have hfs9 := blk_frozen BK142.out 1
  refine skip_ (w1 := ?_) (by rfl) rfl ?_ ?_
  rotate_left
  ·go_simp
   rfl
  refine hK.out _ _ trivial (fun hHeld => ?_)
  clear hK K
  refine done_ (done_of HT_.out (by kernel_rfl)) ?_
  try go_wp2
  refine bodyPost_ret (results_cell_row rfl _ _ gb142 26 #[.int .i64 (wrap64 (Int.tdiv a0 t143)), .int .i64 (wrap64 (Int.tdiv a1 t143))] (0, 0) _ rfl (bq BK142.out) Tryd.underlying26 rfl (by kernel_rfl)) rfl ?_
  exact ez
end
section
def Sp_int_106.l0 : Nat → List Int → Int → Int → Option (Int)
  | 0, _, _, _ => none
  | k + 1, x0, x3, x4 => if x4 < (x0.length : Int) then (if 0 ≤ x4 then (Sp_int_106.l0 k x0 (mx x3 (rd x0 x4)) (wrap64 (x4 + 1))) else (none)) else (some x3)
def Sp_int_106.f (k : Nat) (l0 : List Int) : Option (Int) := if (l0.length : Int) < 1 then (none) else (if 0 < (l0.length : Int) then (Sp_int_106.l0 k l0 (rd l0 0) 1) else (none))
theorem Sp_int_106.mono_l : ∀ k, (∀ y0 y1 y2, LeO (Sp_int_106.l0 k y0 y1 y2) (Sp_int_106.l0 (k + 1) y0 y1 y2))
  | 0 => fun _ _ _ r h => by simp [Sp_int_106.l0] at h
  | k + 1 => by
    have ih0 := Sp_int_106.mono_l k
    · intro y0 y1 y2
      unfold Sp_int_106.l0
      repeat' first
      | (with_reducible exact ih0 _ _ _)
      | (with_reducible exact LeO.refl _)
      | (with_reducible exact LeO.none _)
      | (with_reducible refine LeO.ite ?_ ?_)
      | (with_reducible refine LeO.bind ?_ (fun _ => ?_))
      | exact ih0 _ _ _
      | exact LeO.none _
      | refine LeO.ite ?_ ?_
      | refine LeO.bind ?_ (fun _ => ?_)
theorem Sp_int_106.mono : ∀ a0 k, LeO (Sp_int_106.f k a0) (Sp_int_106.f (k + 1) a0) := by
  intro a0 k
  have ih0 := Sp_int_106.mono_l k
  unfold Sp_int_106.f
  repeat' first
      | (with_reducible exact ih0 _ _ _)
      | (with_reducible exact LeO.refl _)
      | (with_reducible exact LeO.none _)
      | (with_reducible refine LeO.ite ?_ ?_)
      | (with_reducible refine LeO.bind ?_ (fun _ => ?_))
      | exact ih0 _ _ _
      | exact LeO.none _
      | refine LeO.ite ?_ ?_
      | refine LeO.bind ?_ (fun _ => ?_)
theorem Sp_int_106.calls (k : Nat) (A0 : Option Addr) (c0 : Nat) (l0 : List Int) (r : Int) (w : World) (hr0 : Kd.C (Kd.int .i64) w A0 l0.length l0) (hc0 : l0.length ≤ c0) (h : Sp_int_106.f k l0 = some r) :
    Calls Tryd.prog 106 #[.slice A0 l0.length c0] w fun e w' => e = .returned (.int .i64 r) ∧ Below w.heap.size w w' := by
  have HR0 := m0 hr0
  have HC0 := m0 hc0
  clear hr0 hc0
  have HB := m0 (Below.refl w.heap.size w)
  have H : (if (l0.length : Int) < 1 then (none) else (if 0 < (l0.length : Int) then (Sp_int_106.l0 k l0 (rd l0 0) 1) else (none))) = some r := h
  clear h
  by_cases c2 : (l0.length : Int) < 1
  · rw [if_pos c2] at H
    exact absurd H (by simp)
  · rw [if_neg c2] at H
    have c2b0 := decide_eq_false c2
    have c2b1 : decide (l0.length < 1) = false := decide_eq_false (by omega)
    clear c2
    by_cases c3 : 0 < (l0.length : Int)
    · rw [if_pos c3] at H
      have c3b0 := decide_eq_true c3
      have c3b1 : decide (0 < l0.length) = true := decide_eq_true (by omega)
      clear c3
      have H' := m0 H
      clear H
      have p144 : 0 ≤ (0 : Int) := (by omega)
      have q144 : 0 < (l0.length : Int) := of_decide_eq_true (by first | (with_reducible assumption) | assumption)
      obtain ⟨ad144, e144, hx144_0⟩ := Kd.at_int HR0.out 0 p144 q144
      cases e144
      have qi144 : (0 < l0.length) = True := eq_true (by omega)
      (try rw [show ((0 : Int)).toNat = 0 from rfl] at hx144_0)
      (try rw [Addr.add_zero'] at hx144_0)
      replace p144 := eq_true p144
      replace q144 := eq_true q144
      go_enter Tryd.func106, Tryd.ntmps106
      go_wp2
      go_loopg [3, 4] k (fun kq v3 v4 w' => ∃ (x3_1 : Int) (x4_1 : Int), v3 = .int .i64 x3_1 ∧ v4 = .int .i64 x4_1 ∧ Aside0 (Sp_int_106.l0 kq l0 x3_1 x4_1 = some r) ∧ Aside0 (kq ≤ k) ∧ Aside0 (Below w.heap.size w w'))
      case atStart => exact ⟨(rd l0 0), (1), (by first | rfl | (simp; done) | (simp [*]; done)), (by first | rfl | (simp; done) | (simp [*]; done)), H', ⟨Nat.le_refl _⟩, ⟨bz⟩⟩
      case round =>
        clear H'
        try clear c1
        try clear p1
        try clear q1
        try clear hx1
        try clear qi1
        try clear c2
        try clear c2b0
        try clear c2b1
        try clear p2
        try clear c3
        try clear c3b0
        try clear c3b1
        try clear hx144_0
        try clear p144
        try clear q144
        obtain ⟨x3_1, x4_1, rfl, rfl, HA, HK1, HB⟩ := hrel
        cases gk with
        | zero => exact absurd HA.out (by simp [Sp_int_106.l0])
        | succ k1 =>
          have H := HA.out
          clear HA
          simp only [Sp_int_106.l0] at H
          by_cases c4 : x4_1 < (l0.length : Int)
          · rw [if_pos c4] at H
            have c4b0 := decide_eq_true c4
            clear c4
            by_cases c5 : 0 ≤ x4_1
            · rw [if_pos c5] at H
              have c5b0 := decide_eq_true c5
              clear c5
              obtain ⟨ji6, hji6⟩ : ∃ j_ : Int, (mx x3_1 (rd l0 x4_1)) = j_ := ⟨_, rfl⟩
              replace H : (Sp_int_106.l0 k1 l0 ji6 (wrap64 (x4_1 + 1))) = some r := by first | (rw [hji6] at H; exact H) | (simp only [hji6] at H ⊢; exact H)
              have hji6_ : (if x3_1 < (rd l0 x4_1) then (rd l0 x4_1) else x3_1) = ji6 := hji6
              have H' := m0 H
              clear H
              have p145 : 0 ≤ (x4_1 : Int) := of_decide_eq_true (by first | (with_reducible assumption) | assumption)
              have q145 : x4_1 < (l0.length : Int) := of_decide_eq_true (by first | (with_reducible assumption) | assumption)
              obtain ⟨ad145, e145, hx145_0⟩ := Kd.at_int HR0.out x4_1 p145 q145
              obtain rfl : ad144 = ad145 := (by injection e145)
              replace hx145_0 := (HB.out.cell (World.block_lt_of_cell? w _ hx145_0)).trans hx145_0
              replace p145 := eq_true p145
              replace q145 := eq_true q145
              go_wp2
              go_roundg k1
              case measure => have := HK1.out; omega
              case rel => exact ⟨(ji6), (wrap64 (x4_1 + 1)), (by first | rfl | (simp; done) | (simp only [← hji6] <;> (first | rfl | simp)) | (simp [*]; done)), (by first | rfl | (simp; done) | (simp [*]; done)), H', ⟨by have := HK1.out; omega⟩, ⟨bz⟩⟩
            · rw [if_neg c5] at H
              exact absurd H (by simp)
          · rw [if_neg c4] at H
            have c4b0 := decide_eq_false c4
            clear c4
            obtain rfl := Option.some.inj H
            go_wp2
            go_ret
            exact ez
    · rw [if_neg c3] at H
      exact absurd H (by simp)
end
section
def Sp_int_132.l0 : Nat → List Int → Int → Int → Int → Option (Int)
 | 0, _, _, _, _ => none
 | k + 1, x0, x1, x7, x8 => if x8 < x7 then (if 0 ≤ x8 then (if x8 < (x0.length : Int) then (if x1 = (rd x0 x8) then (some x8) else (Sp_int_132.l0 k x0 x1 x7 (wrap64 (x8 + 1)))) else (none)) else (none)) else (some (-1))
def Sp_int_132.f (k : Nat) (l0 : List Int) (a1 : Int) : Option (Int) := Sp_int_132.l0 k l0 a1 (l0.length : Int) 0
theorem Sp_int_132.mono_l : ∀ k, (∀ y0 y1 y2 y3, LeO (Sp_int_132.l0 k y0 y1 y2 y3) (Sp_int_132.l0 (k + 1) y0 y1 y2 y3))
 | 0 => fun _ _ _ _ r h => by simp [Sp_int_132.l0] at h
 | k + 1 => by
  have ih0 := Sp_int_132.mono_l k
  ·intro y0 y1 y2 y3
   unfold Sp_int_132.l0
   repeat' first
   | (with_reducible exact ih0 _ _ _ _)
   | (with_reducible exact LeO.refl _)
   | (with_reducible exact LeO.none _)
   | (with_reducible refine LeO.ite ?_ ?_)
   | (with_reducible refine LeO.bind ?_ (fun _ => ?_))
   | exact ih0 _ _ _ _
   | exact LeO.none _
   | refine LeO.ite ?_ ?_
   | refine LeO.bind ?_ (fun _ => ?_)
theorem Sp_int_132.mono : ∀ a0 a1 k, LeO (Sp_int_132.f k a0 a1) (Sp_int_132.f (k + 1) a0 a1) := by
 intro a0 a1 k
 have ih0 := Sp_int_132.mono_l k
 unfold Sp_int_132.f
 repeat' first
   | (with_reducible exact ih0 _ _ _ _)
   | (with_reducible exact LeO.refl _)
   | (with_reducible exact LeO.none _)
   | (with_reducible refine LeO.ite ?_ ?_)
   | (with_reducible refine LeO.bind ?_ (fun _ => ?_))
   | exact ih0 _ _ _ _
   | exact LeO.none _
   | refine LeO.ite ?_ ?_
   | refine LeO.bind ?_ (fun _ => ?_)
theorem Sp_int_132.calls (k : Nat) (A0 : Option Addr) (c0 : Nat) (l0 : List Int) (a1 : Int) (r : Int) (w : World) (hr0 : Kd.C (Kd.int .i64) w A0 l0.length l0) (hc0 : l0.length ≤ c0) (h : Sp_int_132.f k l0 a1 = some r) :
  Calls Tryd.prog 132 #[.slice A0 l0.length c0, .int .i64 a1] w fun e w' => e = .returned (.int .i64 r) ∧ Drawn0 w w' := by
 have HR0 := m0 hr0
 have HC0 := m0 hc0
 clear hr0 hc0
 have H : (Sp_int_132.l0 k l0 a1 (l0.length : Int) 0) = some r := h
 clear h
 have H' := m0 H
 clear H
 go_enter Tryd.func132, Tryd.ntmps132
 go_wp2
 go_loopg [8] k (fun kq v8 w' => ∃ (x8_1 : Int), v8 = .int .i64 x8_1 ∧ Aside0 (Sp_int_132.l0 kq l0 a1 (l0.length : Int) x8_1 = some r) ∧ Aside0 (kq ≤ k) ∧ Drawn0 w w')
 case atStart => exact ⟨(0), (by first | rfl | (simp; done) | (simp [*]; done)), H', ⟨Nat.le_refl _⟩, by repeat (first | exact Drawn0.refl _ | apply Drawn0.step)⟩
 case round =>
  clear H'
  try clear c1
  try clear p2
  obtain ⟨x8_1, rfl, HA, HK1, ⟨m1, rfl⟩⟩ := hrel
  cases gk with
  | zero => exact absurd HA.out (by simp [Sp_int_132.l0])
  | succ k1 =>
   have H := HA.out
   clear HA
   simp only [Sp_int_132.l0] at H
   by_cases c3 : x8_1 < (l0.length : Int)
   ·rw [if_pos c3] at H
    have c3b0 := decide_eq_true c3
    clear c3
    by_cases c4 : 0 ≤ x8_1
    ·rw [if_pos c4] at H
     have c4b0 := decide_eq_true c4
     clear c4
     by_cases c5 : x8_1 < (l0.length : Int)
     ·rw [if_pos c5] at H
      have c5b0 := decide_eq_true c5
      clear c5
      by_cases c6 : a1 = (rd l0 x8_1)
      ·rw [if_pos c6] at H
       have c6b0 := beq_iff_eq.mpr c6
       have c6b1 := bne_eq_false_iff_eq.mpr c6
       clear c6
       obtain rfl := Option.some.inj H
       have p146 : 0 ≤ (x8_1 : Int) := of_decide_eq_true (by first | (with_reducible assumption) | assumption)
       have q146 : x8_1 < (l0.length : Int) := of_decide_eq_true (by first | (with_reducible assumption) | assumption)
       obtain ⟨ad146, e146, hx146_0⟩ := Kd.at_int HR0.out x8_1 p146 q146
       cases e146
       replace p146 := eq_true p146
       replace q146 := eq_true q146
       go_wp2
       go_ret
       exact ⟨by first | rfl | (simp; done) | (simp [*]; done), by repeat (first | exact Drawn0.refl _ | apply Drawn0.step)⟩
      ·rw [if_neg c6] at H
       have c6b0 := beq_eq_false_iff_ne.mpr c6
       have c6b1 := bne_iff_ne.mpr c6
       have H' := m0 H
       clear H
       have p146 : 0 ≤ (x8_1 : Int) := of_decide_eq_true (by first | (with_reducible assumption) | assumption)
       have q146 : x8_1 < (l0.length : Int) := of_decide_eq_true (by first | (with_reducible assumption) | assumption)
       obtain ⟨ad146, e146, hx146_0⟩ := Kd.at_int HR0.out x8_1 p146 q146
       cases e146
       replace p146 := eq_true p146
       replace q146 := eq_true q146
       go_wp2
       go_roundg k1
       case measure => have := HK1.out; omega
       case rel => exact ⟨(wrap64 (x8_1 + 1)), (by first | rfl | (simp; done) | (simp [*]; done)), H', ⟨by have := HK1.out; omega⟩, by repeat (first | exact Drawn0.refl _ | apply Drawn0.step)⟩
     ·rw [if_neg c5] at H
      exact absurd H (by simp)
    ·rw [if_neg c4] at H
     exact absurd H (by simp)
   ·rw [if_neg c3] at H
    have c3b0 := decide_eq_false c3
    clear c3
    obtain rfl := Option.some.inj H
    go_wp2
    go_ret
    exact ⟨by first | rfl | (simp; done) | (simp [*]; done), by repeat (first | exact Drawn0.refl _ | apply Drawn0.step)⟩
end
section
def Sp_peak.f (k : Nat) (l0 : List Int) : Option (Int) := (Sp_int_106.f k l0).bind fun t147 => ((Sp_int_132.f k l0 t147).bind fun t148 => (some t148))
theorem Sp_peak.mono : ∀ a0 k, LeO (Sp_peak.f k a0) (Sp_peak.f (k + 1) a0) := by
 intro a0 k
 unfold Sp_peak.f
 repeat' first
   | (with_reducible exact Sp_int_106.mono _ _)
   | (with_reducible exact Sp_int_132.mono _ _ _)
   | (with_reducible exact LeO.refl _)
   | (with_reducible exact LeO.none _)
   | (with_reducible refine LeO.ite ?_ ?_)
   | (with_reducible refine LeO.bind ?_ (fun _ => ?_))
   | exact Sp_int_106.mono _ _
   | exact Sp_int_132.mono _ _ _
   | exact LeO.none _
   | refine LeO.ite ?_ ?_
   | refine LeO.bind ?_ (fun _ => ?_)
theorem Sp_peak.calls (k : Nat) (A0 : Option Addr) (c0 : Nat) (l0 : List Int) (r : Int) (w : World) (hr0 : Kd.C (Kd.int .i64) w A0 l0.length l0) (hc0 : l0.length ≤ c0) (h : Sp_peak.f k l0 = some r) :
  Calls Tryd.prog 103 #[.slice A0 l0.length c0] w fun e w' => e = .returned (.int .i64 r) ∧ Below w.heap.size w w' := by
 have HR0 := m0 hr0
 have HC0 := m0 hc0
 clear hr0 hc0
 have HB := m0 (Below.refl w.heap.size w)
 have H : ((Sp_int_106.f k l0).bind fun t147 => ((Sp_int_132.f k l0 t147).bind fun t148 => (some t148))) = some r := h
 clear h
 replace H := ob H
 obtain ⟨t147, A20, H⟩ := H
 (try dsimp only at H)
 have A2 := m0 A20
 clear A20
 replace H := ob H
 obtain ⟨t148, A30, H⟩ := H
 (try dsimp only at H)
 have A3 := m0 A30
 clear A30
 obtain rfl := Option.some.inj H
 go_enter Tryd.func103, Tryd.ntmps103
 go_wp2_with (first | ((with_reducible refine gate_callee (f := 106) rfl ?_); refine gl (some 5) Tryd.func106 #[.slice A0 l0.length c0] ?_; (with_reducible refine (Sp_int_106.calls k _ _ l0 t147 _ ?side1 ?side2 A2.out).mono ?_); (case side1 => repeat (first | exact HR0.out | (with_reducible refine Kd.C_alloc ?_ _) | (with_reducible refine Kd.C_drewN ?_ _) | (with_reducible refine Kd.C_drew ?_))); (case side2 => exact HC0.out); rintro e w4 ⟨rfl, hb⟩; refine ⟨_, rfl, ?_⟩; replace HB := sb HB hb; (try clear hb)) | ((with_reducible refine gate_callee (f := 132) rfl ?_); refine gl (some 6) Tryd.func132 #[.slice A0 l0.length c0, .int .i64 t147] ?_; (with_reducible refine (Sp_int_132.calls k _ _ l0 t147 t148 _ ?side1 ?side2 A3.out).mono ?_); (case side1 => exact cb HR0 HB); (case side2 => exact HC0.out); rintro e w' ⟨rfl, ⟨nd, rfl⟩⟩; refine ⟨_, rfl, ?_⟩))
 go_ret
 exact ez
end
section
def Sp_highest.f (k : Nat) (l0 : List Int) : Option (Int × Int) := (Sp_peak.f k l0).bind fun t150 => ((line_fraction.f k t150 1).bind fun bt151 => (some (bt151.1, bt151.2)))
theorem Sp_highest.mono : ∀ a0 k, LeO (Sp_highest.f k a0) (Sp_highest.f (k + 1) a0) := by
 intro a0 k
 unfold Sp_highest.f
 repeat' first
   | (with_reducible exact line_fraction.mono _ _ _)
   | (with_reducible exact Sp_peak.mono _ _)
   | (with_reducible exact LeO.refl _)
   | (with_reducible exact LeO.none _)
   | (with_reducible refine LeO.ite ?_ ?_)
   | (with_reducible refine LeO.bind ?_ (fun _ => ?_))
   | exact line_fraction.mono _ _ _
   | exact Sp_peak.mono _ _
   | exact LeO.none _
   | refine LeO.ite ?_ ?_
   | refine LeO.bind ?_ (fun _ => ?_)
theorem Sp_highest.calls (k : Nat) (A0 : Option Addr) (c0 : Nat) (l0 : List Int) (r1 : Int) (r2 : Int) (w : World) (hr0 : Kd.C (Kd.int .i64) w A0 l0.length l0) (hc0 : l0.length ≤ c0) (h : Sp_highest.f k l0 = some (r1, r2)) :
  Calls Tryd.prog 192 #[.slice A0 l0.length c0] w fun e w' => e = .returned (.agg #[.int .i64 r1, .int .i64 r2]) ∧ Below w.heap.size w w' := by
 have hu26 := Tryd.underlying26
 have HR0 := m0 hr0
 have HC0 := m0 hc0
 clear hr0 hc0
 have HB := m0 (Below.refl w.heap.size w)
 have H : ((Sp_peak.f k l0).bind fun t150 => ((line_fraction.f k t150 1).bind fun bt151 => (some (bt151.1, bt151.2)))) = some (r1, r2) := h
 clear h
 replace H := ob H
 obtain ⟨t150, A20, H⟩ := H
 (try dsimp only at H)
 have A2 := m0 A20
 clear A20
 replace H := ob H
 obtain ⟨⟨t151, t152⟩, A30, H⟩ := H
 (try dsimp only at H)
 have A3 := m0 A30
 clear A30
 simp only [Option.some.injEq, Prod.mk.injEq] at H
 obtain ⟨rfl, rfl⟩ := H
 go_enter Tryd.func192, Tryd.ntmps192
 go_wp2_with (first | ((with_reducible refine gate_dst (N := 2) rfl ?_); refine be 2 26 #[.int .i64 0, .int .i64 0] ?_; intro gb149 hg w4 hbox hb; have BK149 := m0 hbox; have GW149 := m0 (bg (n := w.heap.size) hg); have GE149 := m0 (bg (n := w.heap.size) hg); replace HB := sb HB hb; clear hb hbox hg) | ((with_reducible refine gate_callee (f := 103) rfl ?_); refine gl (some 4) Tryd.func103 #[.slice A0 l0.length c0] ?_; (with_reducible refine (Sp_peak.calls k _ _ l0 t150 _ ?side1 ?side2 A2.out).mono ?_); (case side1 => exact cb HR0 HB); (case side2 => exact HC0.out); rintro e w5 ⟨rfl, hb⟩; refine ⟨_, rfl, ?_⟩; replace BK149 := bb BK149 hb; replace HB := sb HB hb; (try clear hb)) | ((with_reducible refine gate_callee (f := 96) rfl ?_); refine gl (some 5) Tryd.func96 #[.int .i64 t150, .int .i64 1] ?_; (with_reducible refine (line_fraction.calls k t150 1 t151 t152 _ A3.out).mono ?_); rintro e w6 ⟨rfl, hb⟩; refine ⟨_, rfl, ?_⟩; replace BK149 := bb BK149 hb; replace HB := sb HB hb; (try clear hb); obtain ⟨_, _, _, _⟩ := b2 BK149))
 refine bodyPost_ret (results_cell_row rfl _ _ gb149 26 #[.int .i64 t151, .int .i64 t152] (0, 0) _ rfl (bq BK149.out) Tryd.underlying26 rfl (by kernel_rfl)) rfl ?_
 exact ez
end
section
def line_sum.l0 : Nat → Int → List Int → Int → Int → Option (Int)
 | 0, _, _, _, _ => none
 | k + 1, x3, x6, x7, x8 => if x8 < x7 then (if 0 ≤ x8 then (if x8 < (x6.length : Int) then (line_sum.l0 k (wrap64 (x3 + (rd x6 x8))) x6 x7 (wrap64 (x8 + 1))) else (none)) else (none)) else (some x3)
def line_sum.f (k : Nat) (l0 : List Int) : Option (Int) := line_sum.l0 k 0 l0 (l0.length : Int) 0
theorem line_sum.mono_l : ∀ k, (∀ y0 y1 y2 y3, LeO (line_sum.l0 k y0 y1 y2 y3) (line_sum.l0 (k + 1) y0 y1 y2 y3))
 | 0 => fun _ _ _ _ r h => by simp [line_sum.l0] at h
 | k + 1 => by
  have ih0 := line_sum.mono_l k
  ·intro y0 y1 y2 y3
   unfold line_sum.l0
   repeat' first
   | (with_reducible exact ih0 _ _ _ _)
   | (with_reducible exact LeO.refl _)
   | (with_reducible exact LeO.none _)
   | (with_reducible refine LeO.ite ?_ ?_)
   | (with_reducible refine LeO.bind ?_ (fun _ => ?_))
   | exact ih0 _ _ _ _
   | exact LeO.none _
   | refine LeO.ite ?_ ?_
   | refine LeO.bind ?_ (fun _ => ?_)
theorem line_sum.mono : ∀ a0 k, LeO (line_sum.f k a0) (line_sum.f (k + 1) a0) := by
 intro a0 k
 have ih0 := line_sum.mono_l k
 unfold line_sum.f
 repeat' first
   | (with_reducible exact ih0 _ _ _ _)
   | (with_reducible exact LeO.refl _)
   | (with_reducible exact LeO.none _)
   | (with_reducible refine LeO.ite ?_ ?_)
   | (with_reducible refine LeO.bind ?_ (fun _ => ?_))
   | exact ih0 _ _ _ _
   | exact LeO.none _
   | refine LeO.ite ?_ ?_
   | refine LeO.bind ?_ (fun _ => ?_)
theorem line_sum.calls (k : Nat) (A0 : Option Addr) (c0 : Nat) (l0 : List Int) (r : Int) (w : World) (hr0 : Kd.C (Kd.int .i64) w A0 l0.length l0) (hc0 : l0.length ≤ c0) (h : line_sum.f k l0 = some r) :
  Calls Tryd.prog 125 #[.slice A0 l0.length c0] w fun e w' => e = .returned (.int .i64 r) ∧ Drawn0 w w' := by
 have HR0 := m0 hr0
 have HC0 := m0 hc0
 clear hr0 hc0
 have H : (line_sum.l0 k 0 l0 (l0.length : Int) 0) = some r := h
 clear h
 have H' := m0 H
 clear H
 go_enter Tryd.func125, Tryd.ntmps125
 go_wp2
 go_loopg [3, 8] k (fun kq v3 v8 w' => ∃ (x3_1 : Int) (x8_1 : Int), v3 = .int .i64 x3_1 ∧ v8 = .int .i64 x8_1 ∧ Aside0 (line_sum.l0 kq x3_1 l0 (l0.length : Int) x8_1 = some r) ∧ Aside0 (kq ≤ k) ∧ Drawn0 w w')
 case atStart => exact ⟨(0), (0), (by first | rfl | (simp; done) | (simp [*]; done)), (by first | rfl | (simp; done) | (simp [*]; done)), H', ⟨Nat.le_refl _⟩, by repeat (first | exact Drawn0.refl _ | apply Drawn0.step)⟩
 case round =>
  clear H'
  try clear c1
  obtain ⟨x3_1, x8_1, rfl, rfl, HA, HK1, ⟨m1, rfl⟩⟩ := hrel
  cases gk with
  | zero => exact absurd HA.out (by simp [line_sum.l0])
  | succ k1 =>
   have H := HA.out
   clear HA
   simp only [line_sum.l0] at H
   by_cases c2 : x8_1 < (l0.length : Int)
   ·rw [if_pos c2] at H
    have c2b0 := decide_eq_true c2
    clear c2
    by_cases c3 : 0 ≤ x8_1
    ·rw [if_pos c3] at H
     have c3b0 := decide_eq_true c3
     clear c3
     by_cases c4 : x8_1 < (l0.length : Int)
     ·rw [if_pos c4] at H
      have c4b0 := decide_eq_true c4
      clear c4
      have H' := m0 H
      clear H
      have p153 : 0 ≤ (x8_1 : Int) := of_decide_eq_true (by first | (with_reducible assumption) | assumption)
      have q153 : x8_1 < (l0.length : Int) := of_decide_eq_true (by first | (with_reducible assumption) | assumption)
      obtain ⟨ad153, e153, hx153_0⟩ := Kd.at_int HR0.out x8_1 p153 q153
      cases e153
      replace p153 := eq_true p153
      replace q153 := eq_true q153
      go_wp2
      go_roundg k1
      case measure => have := HK1.out; omega
      case rel => exact ⟨(wrap64 (x3_1 + (rd l0 x8_1))), (wrap64 (x8_1 + 1)), (by first | rfl | (simp; done) | (simp [*]; done)), (by first | rfl | (simp; done) | (simp [*]; done)), H', ⟨by have := HK1.out; omega⟩, by repeat (first | exact Drawn0.refl _ | apply Drawn0.step)⟩
     ·rw [if_neg c4] at H
      exact absurd H (by simp)
    ·rw [if_neg c3] at H
     exact absurd H (by simp)
   ·rw [if_neg c2] at H
    have c2b0 := decide_eq_false c2
    clear c2
    obtain rfl := Option.some.inj H
    go_wp2
    go_ret
    exact ⟨by first | rfl | (simp; done) | (simp [*]; done), by repeat (first | exact Drawn0.refl _ | apply Drawn0.step)⟩
end
end Go.Proofs.YtjnkphmcndaijaaDoor.A
