/- Walks of the program's functions (printed, made shorter), each with what it computes. -/
import Derived.Test.YtjnkphmcndaijaaDoorSpd04
import Derived.Test.YtjnkphmcndaijaaDoorSpd05
import Derived.Test.YtjnkphmcndaijaaDoorSpd06
import Derived.Test.YtjnkphmcndaijaaDoorSpd03
import Derived.Shelf.Abstract
namespace Go.Proofs.YtjnkphmcndaijaaDoor.A
set_option maxHeartbeats 8000000
set_option maxRecDepth 100000
open Go.RowKit Go.Proofs.YtjnkphmcndaijaaDoorW.PrintWords Go.Proofs.YtjnkphmcndaijaaDoorW.PrintLast Go.Proofs.YtjnkphmcndaijaaDoorW.PrintMore
attribute [local go_sem] max2_int min2_int max_two min_two max_three min_three max_four min_four
set_option linter.unusedVariables false
set_option linter.unusedSimpArgs false
section
def L_each.Kp (n₀ Bx Bs : Nat) (W W' : World) : Prop := Below n₀ W W' ∧ W'.cell? ⟨Bx, 0, none⟩ = W.cell? ⟨Bx, 0, none⟩ ∧ W'.cell? ⟨Bs, 0, none⟩ = W.cell? ⟨Bs, 0, none⟩
theorem L_each.Kp.trans {n₀ Bx Bs : Nat} {A B C : World} (h : L_each.Kp n₀ Bx Bs A B) (k : L_each.Kp n₀ Bx Bs B C) : L_each.Kp n₀ Bx Bs A C := ⟨h.1.trans k.1, k.2.1.trans h.2.1, k.2.2.trans h.2.2⟩
def L_each.Rd (m : Nat) (row : Nat → List Int) (k : Nat) (x : Value) (W : World) : Prop := ∃ A c, x = .slice A (row k).length c ∧ (row k).length ≤ c ∧ Kd.C (Kd.int .i64) W A (row k).length (row k) ∧ ∀ ad, A = some ad → m ≤ ad.block
theorem L_each.Rd_putObj {m : Nat} {row : Nat → List Int} (k : Nat) (x : Value) (W : World) (l : Nat) (o o' : Obj) (hl : W.heap[l]? = some o) (ho : o.isCells = false) (h : L_each.Rd m row k x W) : L_each.Rd m row k x (W.putObj l o') := by
 obtain ⟨A, c, e, hc, hC, hm⟩ := h
 exact ⟨A, c, e, hc, C_putObj hl ho hC, hm⟩
theorem L_each.Kp_putObj {n₀ Bx Bs : Nat} {w : World} {v1 v2 : Value} (hn : n₀ ≤ w.heap.size) (W : World) (l : Nat) (o o' : Obj) (hl : w.heap.size ≤ l) (h : W.heap[l]? = some o) (hc : o.isCells = false) (hw : o.isWalk = false) (hx : Bx < w.heap.size) (hs : Bs < w.heap.size) : L_each.Kp n₀ Bx Bs W (W.putObj l o') :=
 ⟨belowK_b hn W l o o' hl h hc hw, World.cell?_of_block (World.putObj_heap_other (show Bx ≠ l by omega)), World.cell?_of_block (World.putObj_heap_other (show Bs ≠ l by omega))⟩
theorem blk_own {W W' : World} {row : Option Nat} {B g : Nat} {cs : Array Value} {t : TypeId} {mk : Nat × Nat} (h : W.heap[g]? = some (.cells cs t mk)) (hg : W.grownBy W' row) (hr : ∀ r, row = some r → B ≤ r ∧ ∃ o : Obj, W.heap[r]? = some o ∧ o.isCells = false) : W'.heap[g]? = some (.cells cs t mk) := by
 refine (hg.block g (blk_lt h) fun e => ?_).trans h
 obtain ⟨_, o, ho, hc⟩ := hr g e.symm
 rw [h] at ho
 cases ho
 cases hc
theorem others_below {W W' : World} (hb : Below W.heap.size W W') : KeepsOthers W W' := ⟨hb.size, fun k o h _ => (hb.block k (blk_lt h)).trans h⟩
theorem heap_setCell_ne {W : World} {b i g : Nat} {u : Value} (hne : g ≠ b) : (W.setCell ⟨b, i, none⟩ u).heap[g]? = W.heap[g]? := Below.heap_setCell W _ u g hne
theorem blk_ne_set {W : World} {b i g : Nat} {u : Value} {o : Obj} (h : W.heap[g]? = some o) (hne : g ≠ b) : (W.setCell ⟨b, i, none⟩ u).heap[g]? = some o := (heap_setCell_ne hne).trans h
theorem add_block (ad : Addr) (j : Nat) : (ad.add j).block = ad.block := by unfold Addr.add; split <;> rfl
theorem C_blocks {k : IntKind} {A : Option Addr} {n : Nat} {xs : List Int} {W W' : World} (h : Kd.C (Kd.int k) W A n xs) (hb : ∀ ad, A = some ad → W'.heap[ad.block]? = W.heap[ad.block]?) : Kd.C (Kd.int k) W' A n xs := by
 refine ⟨h.1, h.2.1, fun hn => ?_⟩
 obtain ⟨ad, e, hc⟩ := h.2.2 hn
 refine ⟨ad, e, fun j p hp => ?_⟩
 obtain ⟨c, h1, h2, h3⟩ := hc j p hp
 exact ⟨c, h1, h2, fun i' u' hu => (World.cell?_of_block (by rw [add_block]; exact hb ad e)).trans (h3 i' u' hu)⟩
theorem L_each.Kp.setCell {n₀ Bx Bs b i : Nat} {u : Value} {W W' : World} (h : L_each.Kp n₀ Bx Bs W W') (hb : n₀ ≤ b) (hx : Bx ≠ b) (hs : Bs ≠ b) : L_each.Kp n₀ Bx Bs W (W'.setCell ⟨b, i, none⟩ u) :=
 ⟨h.1.setCell (p := ⟨b, i, none⟩) hb _, (World.cell?_of_block (heap_setCell_ne hx)).trans h.2.1, (World.cell?_of_block (heap_setCell_ne hs)).trans h.2.2⟩
theorem L_each.Kp.drew {n₀ Bx Bs : Nat} {W W' : World} (h : L_each.Kp n₀ Bx Bs W W') : L_each.Kp n₀ Bx Bs W W'.drew := ⟨below_drew h.1, h.2.1, h.2.2⟩
theorem L_each.Kp.below {n₀ Bx Bs : Nat} {W W1 W' : World} (h : L_each.Kp n₀ Bx Bs W W1) (hn : n₀ ≤ W1.heap.size) (hx : Bx < W1.heap.size) (hs : Bs < W1.heap.size) (hb : Below W1.heap.size W1 W') : L_each.Kp n₀ Bx Bs W W' :=
 ⟨h.1.trans (hb.mono hn), (World.cell?_of_block (hb.block _ hx)).trans h.2.1, (World.cell?_of_block (hb.block _ hs)).trans h.2.2⟩
attribute [local go_sem] Oper.semAt_some
theorem L_each.yields (n kk : Nat) (hn : 1 ≤ n) (As Av : Option Addr) (cs cv : Nat) (ls lv : List Int) (all : Int) (few : Bool) (row : Nat → List Int) (we : World) (Bx Bs : Nat) (w : World)
  (hbe : Below we.heap.size we w) (hcx : w.cell? ⟨Bx, 0, none⟩ = some (.slice Av lv.length cv)) (hcs : w.cell? ⟨Bs, 0, none⟩ = some (.slice As ls.length cs))
  (hrs : Kd.C (Kd.int .i64) we As ls.length ls) (hsc : ls.length ≤ cs) (hrv : Kd.C (Kd.int .i64) we Av lv.length lv) (hvc : lv.length ≤ cv)
  (hall : L_cases.f kk lv ls.length = some (all, few)) (h0 : 0 ≤ all) (hbig : all ≤ 1000000) (hrow : ∀ k : Nat, (k : Int) < all → L_noisy.f kk ls lv k = some (row k)) :
  YieldsN Fence.wide n Tryd.prog 131 #[.pointer (some ⟨Bx, 0, none⟩), .pointer (some ⟨Bs, 0, none⟩)] (fun k x => #[.int .i64 (k : Int), x]) (L_each.Rd w.heap.size row) (L_each.Kp we.heap.size Bx Bs) all.toNat w := by
 intro l J Jx W hW hJ hJx hY hJ0
 have hcx' := pw_cell_below hW hcx
 have hcs' := pw_cell_below hW hcs
 have hbe' : Below we.heap.size we W := below_then hbe hbe.size hW
 refine callsIn_of_wp Tryd.func131 rfl trivial ?_ rfl
 simp only [Tryd.ntmps131, List.size_toArray, List.length_cons, List.length_nil, Nat.reduceAdd, Nat.reduceSub, Array.replicate_succ, Array.replicate_zero, List.push_toArray, List.append_toArray, List.nil_append, List.cons_append]
 have HB := m0 hbe'
 have HRS := m0 hrs
 have HRV := m0 hrv
 have HSC := m0 hsc
 have HVC := m0 hvc
 have HALL := m0 hall
 have HROW := m0 hrow
 have HY := m0 hY
 have HJ := m0 hJ
 have HBIG := m0 hbig
 have HH0 := m0 h0
 have hJ0' := m0 hJ0
 have HSZ := m0 hW.size
 clear hbe' hrs hrv hsc hvc hall hrow hY hJ hbig h0 hJ0 hJx hW hbe hcx hcs
 gi_wp2_with (first | (refine ⟨trivial, ?_⟩; gi_at_call 121; refine (callsIn_wide.2 (L_cases.calls kk Av cv lv ls.length all few W (Kd.C_below HRV.out HB.out) HVC.out HALL.out)).mono ?_; rintro e w1 ⟨rfl, hb⟩))
 gi_loopw [15] (fun i wr => ∃ k : Nat, i = .int .i64 k ∧ Aside0 ((k : Int) ≤ all) ∧ Aside0 (J k wr) ∧ Aside0 (Below we.heap.size we wr) ∧ Aside0 (w.heap.size ≤ wr.heap.size) ∧ wr.cell? ⟨Bx, 0, none⟩ = some (.slice Av lv.length cv) ∧ wr.cell? ⟨Bs, 0, none⟩ = some (.slice As ls.length cs)) (fun i _ => all.toNat - (intOf i).toNat)
 case atStart => exact ⟨0, rfl, ⟨HH0.out⟩, ⟨HJ.out 0 W w1 none hJ0'.out (grown_of_below hb none) (fun r e => by cases e)⟩, ⟨below_then HB.out HB.out.size hb⟩, ⟨Nat.le_trans HSZ.out hb.size⟩, pw_cell_below hb hcx', pw_cell_below hb hcs'⟩
 case round =>
  obtain ⟨k, rfl, hk, hJs, hB, hZ, hx1, hs1⟩ := hrel
  clear hcx' hcs' hb
  by_cases hlt : (k : Int) < all
  ·have hkb : (k : Int) < 1000000 := by have := HBIG.out; omega
   have HLT := m0 hlt
   gi_wp2_with (first | (refine ⟨trivial, ?_⟩; gi_at_call 123; refine (callsIn_wide.2 (L_noisy.calls kk As cs ls Av cv lv (k : Int) (row k) wr (Kd.C_below HRS.out hB.out) HSC.out (Kd.C_below HRV.out hB.out) HVC.out (HROW.out k HLT.out))).mono ?_; rintro e w2 ⟨v, rfl, ho, hb⟩; obtain ⟨Ao, co, eo⟩ := Kd.R_slice ho; subst eo; obtain ⟨fn, tmps, assign, body, hy, hR⟩ := HY.out k (.slice Ao (row k).length co) w2 (by have := HLT.out; omega) ⟨Ao, co, rfl, (Kd.R_reads' ho).2.1, (Kd.R_reads' ho).2.2, fun ad e => Nat.le_trans hZ.out (Kd.R_base ho ad.block (by rw [e]; rfl))⟩ (HJ.out k wr w2 none hJs.out (grown_of_below hb none) (fun r e => by cases e)); have HR := m0 hR; clear hR; have HB2 := m0 hb; clear hb ho))
   refine HR.out.mono ?_
   rintro e W3 (⟨rfl, hJ3, hk3, hx3, hs3⟩ | ⟨rfl, hJx3⟩)
   ·have hx4 := hx3.trans (pw_cell_below HB2.out hx1)
    have hs4 := hs3.trans (pw_cell_below HB2.out hs1)
    have HK3 := m0 hk3
    have HJ3 := m0 hJ3
    clear hk3 hx3 hs3 hx1 hs1 hJ3
    gi_wp2
    go_roundw
    case rel => exact ⟨k + 1, by go_num, ⟨by have := HLT.out; omega⟩, HJ3, ⟨(below_then hB.out hB.out.size HB2.out).trans HK3.out⟩, ⟨Nat.le_trans hZ.out (Nat.le_trans HB2.out.size HK3.out.size)⟩, hx4, hs4⟩
    case measure => have := HLT.out; simp [intOf]; omega
   ·have HJX := m0 hJx3
    clear hJx3
    gi_wp2
    refine bodyPost_ret (results_none rfl _ _ _) rfl ?_
    exact ⟨⟨_, rfl⟩, .inr ⟨k + 1, by have := HLT.out; omega, HJX.out⟩⟩
  ·have HN := m0 (show (k : Int) = all by have := hk.out; omega)
   gi_wp2
   go_end0
   refine ⟨⟨_, rfl⟩, .inl ?_⟩
   have e1 : all.toNat = k := by have := HN.out; omega
   rw [e1]
   exact hJs.out
theorem L_each.calls_own (As Av : Option Addr) (cs cv : Nat) (ls lv : List Int) (w : World) :
  Calls Tryd.prog 94 #[.slice As ls.length cs, .agg #[.slice Av lv.length cv]] w fun e w' => e = .returned (.func (.func 131) #[] #[.pointer (some ⟨w.heap.size + 1, 0, none⟩), .pointer (some ⟨w.heap.size, 0, none⟩)]) ∧ w' = (w.alloc (.cells #[.slice As ls.length cs] 22)).alloc (.cells #[.slice Av lv.length cv] 24) := by
 go_enter Tryd.func94, Tryd.ntmps94
 go_wp2
 go_ret
 exact ⟨rfl, rfl⟩
end
section
def Sp_int_106.l0 : Nat → List Int → Int → Int → Option (Int)
  | 0, _, _, _ => none
  | k + 1, x0, x3, x4 => if x4 < (x0.length : Int) then (if 0 ≤ x4 then (Sp_int_106.l0 k x0 (mx x3 (rd x0 x4)) (wrap64 (x4 + 1))) else (none)) else (some x3)
def Sp_int_106.f (k : Nat) (l0 : List Int) : Option (Int) := if (l0.length : Int) < 1 then (none) else (if 0 < (l0.length : Int) then (Sp_int_106.l0 k l0 (rd l0 0) 1) else (none))
theorem Sp_int_106.mono_l : ∀ k, (∀ y0 y1 y2, LeO (Sp_int_106.l0 k y0 y1 y2) (Sp_int_106.l0 (k + 1) y0 y1 y2))
  | 0 => fun _ _ _ r h => by simp [Sp_int_106.l0] at h
  | k + 1 => by
    have ih0 := Sp_int_106.mono_l k
    · intro y0 y1 y2
      unfold Sp_int_106.l0
      repeat' with_reducible first
        | exact ih0 ..
        | exact LeO.refl ..
        | exact LeO.none ..
        | refine LeO.ite ?_ ?_
        | refine LeO.bind ?_ (fun _ => ?_)
theorem Sp_int_106.mono : ∀ a0 k, LeO (Sp_int_106.f k a0) (Sp_int_106.f (k + 1) a0) := by
  intro a0 k
  have ih0 := Sp_int_106.mono_l k
  unfold Sp_int_106.f
  repeat' with_reducible first
    | exact ih0 ..
    | exact LeO.refl ..
    | exact LeO.none ..
    | refine LeO.ite ?_ ?_
    | refine LeO.bind ?_ (fun _ => ?_)
theorem Sp_int_106.calls (k : Nat) (A0 : Option Addr) (c0 : Nat) (l0 : List Int) (r : Int) (w : World) (hr0 : Kd.C (Kd.int .i64) w A0 l0.length l0) (hc0 : l0.length ≤ c0) (h : Sp_int_106.f k l0 = some r) :
    Calls Tryd.prog 106 #[.slice A0 l0.length c0] w fun e w' => e = .returned (.int .i64 r) ∧ Below w.heap.size w w' := by
  have HR0 := m0 hr0
  have HC0 := m0 hc0
  clear hr0 hc0
  have HB := m0 (Below.refl w.heap.size w)
  have H : (if (l0.length : Int) < 1 then (none) else (if 0 < (l0.length : Int) then (Sp_int_106.l0 k l0 (rd l0 0) 1) else (none))) = some r := h
  clear h
  by_cases c2 : (l0.length : Int) < 1
  · rw [if_pos c2] at H
    exact absurd H (by simp)
  · rw [if_neg c2] at H
    have c2b0 := decide_eq_false c2
    have c2b1 : decide (l0.length < 1) = false := decide_eq_false (by omega)
    clear c2
    by_cases c3 : 0 < (l0.length : Int)
    · rw [if_pos c3] at H
      have c3b0 := decide_eq_true c3
      have c3b1 : decide (0 < l0.length) = true := decide_eq_true (by omega)
      clear c3
      have H' := m0 H
      clear H
      have p144 : 0 ≤ (0 : Int) := (by omega)
      have q144 : 0 < (l0.length : Int) := od
      obtain ⟨ad144, e144, hx144_0⟩ := Kd.at_int HR0.out 0 p144 q144
      cases e144
      have qi144 : (0 < l0.length) = True := eq_true (by omega)
      (try rw [show ((0 : Int)).toNat = 0 from rfl] at hx144_0)
      (try rw [Addr.add_zero'] at hx144_0)
      replace p144 := eq_true p144
      replace q144 := eq_true q144
      go_enter Tryd.func106, Tryd.ntmps106
      go_wp2
      go_loopg [3, 4] k (fun kq v3 v4 w' => ∃ (x3_1 : Int) (x4_1 : Int), v3 = .int .i64 x3_1 ∧ v4 = .int .i64 x4_1 ∧ Aside0 (Sp_int_106.l0 kq l0 x3_1 x4_1 = some r) ∧ Aside0 (kq ≤ k) ∧ Aside0 (Below w.heap.size w w'))
      case atStart => exact ⟨(rd l0 0), (1), (by first | rfl | (simp; done) | (simp [*]; done)), (by first | rfl | (simp; done) | (simp [*]; done)), H', ⟨Nat.le_refl _⟩, ⟨bz⟩⟩
      case round =>
        clear H'
        try clear hx1
        try clear qi1
        try clear hx144_0
        obtain ⟨x3_1, x4_1, rfl, rfl, HA, HK1, HB⟩ := hrel
        cases gk with
        | zero => exact absurd HA.out (by simp [Sp_int_106.l0])
        | succ k1 =>
          have H := HA.out
          clear HA
          simp only [Sp_int_106.l0] at H
          by_cases c4 : x4_1 < (l0.length : Int)
          · rw [if_pos c4] at H
            have c4b0 := decide_eq_true c4
            clear c4
            by_cases c5 : 0 ≤ x4_1
            · rw [if_pos c5] at H
              have c5b0 := decide_eq_true c5
              clear c5
              obtain ⟨ji6, hji6⟩ : ∃ j_ : Int, (mx x3_1 (rd l0 x4_1)) = j_ := ⟨_, rfl⟩
              replace H : (Sp_int_106.l0 k1 l0 ji6 (wrap64 (x4_1 + 1))) = some r := by first | (rw [hji6] at H; exact H) | (simp only [hji6] at H ⊢; exact H)
              have hji6_ : (if x3_1 < (rd l0 x4_1) then (rd l0 x4_1) else x3_1) = ji6 := hji6
              have H' := m0 H
              clear H
              have p145 : 0 ≤ (x4_1 : Int) := od
              have q145 : x4_1 < (l0.length : Int) := od
              obtain ⟨ad145, e145, hx145_0⟩ := Kd.at_int HR0.out x4_1 p145 q145
              obtain rfl : ad144 = ad145 := (by injection e145)
              replace hx145_0 := (HB.out.cell (World.block_lt_of_cell? w _ hx145_0)).trans hx145_0
              replace p145 := eq_true p145
              replace q145 := eq_true q145
              go_wp2
              go_roundg k1
              case measure => have := HK1.out; omega
              case rel => exact ⟨(ji6), (wrap64 (x4_1 + 1)), (by first | rfl | (simp; done) | (simp only [← hji6] <;> (first | rfl | simp)) | (simp [*]; done)), (by first | rfl | (simp; done) | (simp [*]; done)), H', ⟨by have := HK1.out; omega⟩, ⟨bz⟩⟩
            · rw [if_neg c5] at H
              exact absurd H (by simp)
          · rw [if_neg c4] at H
            have c4b0 := decide_eq_false c4
            clear c4
            obtain rfl := Option.some.inj H
            go_wp2
            go_ret
            exact ez
    · rw [if_neg c3] at H
      exact absurd H (by simp)
end
section
def Sp_int_132.l0 : Nat → List Int → Int → Int → Int → Option (Int)
 | 0, _, _, _, _ => none
 | k + 1, x0, x1, x7, x8 => if x8 < x7 then (if 0 ≤ x8 then (if x8 < (x0.length : Int) then (if x1 = (rd x0 x8) then (some x8) else (Sp_int_132.l0 k x0 x1 x7 (wrap64 (x8 + 1)))) else (none)) else (none)) else (some (-1))
def Sp_int_132.f (k : Nat) (l0 : List Int) (a1 : Int) : Option (Int) := Sp_int_132.l0 k l0 a1 (l0.length : Int) 0
theorem Sp_int_132.mono_l : ∀ k, (∀ y0 y1 y2 y3, LeO (Sp_int_132.l0 k y0 y1 y2 y3) (Sp_int_132.l0 (k + 1) y0 y1 y2 y3))
 | 0 => fun _ _ _ _ r h => by simp [Sp_int_132.l0] at h
 | k + 1 => by
  have ih0 := Sp_int_132.mono_l k
  ·intro y0 y1 y2 y3
   unfold Sp_int_132.l0
   repeat' with_reducible first
    | exact ih0 ..
    | exact LeO.refl ..
    | exact LeO.none ..
    | refine LeO.ite ?_ ?_
    | refine LeO.bind ?_ (fun _ => ?_)
theorem Sp_int_132.mono : ∀ a0 a1 k, LeO (Sp_int_132.f k a0 a1) (Sp_int_132.f (k + 1) a0 a1) := by
 intro a0 a1 k
 have ih0 := Sp_int_132.mono_l k
 unfold Sp_int_132.f
 repeat' with_reducible first
  | exact ih0 ..
  | exact LeO.refl ..
  | exact LeO.none ..
  | refine LeO.ite ?_ ?_
  | refine LeO.bind ?_ (fun _ => ?_)
theorem Sp_int_132.calls (k : Nat) (A0 : Option Addr) (c0 : Nat) (l0 : List Int) (a1 : Int) (r : Int) (w : World) (hr0 : Kd.C (Kd.int .i64) w A0 l0.length l0) (hc0 : l0.length ≤ c0) (h : Sp_int_132.f k l0 a1 = some r) :
  Calls Tryd.prog 132 #[.slice A0 l0.length c0, .int .i64 a1] w fun e w' => e = .returned (.int .i64 r) ∧ Drawn0 w w' := by
 have HR0 := m0 hr0
 have HC0 := m0 hc0
 clear hr0 hc0
 have H : (Sp_int_132.l0 k l0 a1 (l0.length : Int) 0) = some r := h
 clear h
 have H' := m0 H
 clear H
 go_enter Tryd.func132, Tryd.ntmps132
 go_wp2
 go_loopg [8] k (fun kq v8 w' => ∃ (x8_1 : Int), v8 = .int .i64 x8_1 ∧ Aside0 (Sp_int_132.l0 kq l0 a1 (l0.length : Int) x8_1 = some r) ∧ Aside0 (kq ≤ k) ∧ Drawn0 w w')
 case atStart => exact ⟨(0), (by first | rfl | (simp; done) | (simp [*]; done)), H', ⟨Nat.le_refl _⟩, by repeat (first | exact Drawn0.refl _ | apply Drawn0.step)⟩
 case round =>
  clear H'
  obtain ⟨x8_1, rfl, HA, HK1, ⟨m1, rfl⟩⟩ := hrel
  cases gk with
  | zero => exact absurd HA.out (by simp [Sp_int_132.l0])
  | succ k1 =>
   have H := HA.out
   clear HA
   simp only [Sp_int_132.l0] at H
   by_cases c3 : x8_1 < (l0.length : Int)
   ·rw [if_pos c3] at H
    have c3b0 := decide_eq_true c3
    clear c3
    by_cases c4 : 0 ≤ x8_1
    ·rw [if_pos c4] at H
     have c4b0 := decide_eq_true c4
     clear c4
     by_cases c5 : x8_1 < (l0.length : Int)
     ·rw [if_pos c5] at H
      have c5b0 := decide_eq_true c5
      clear c5
      by_cases c6 : a1 = (rd l0 x8_1)
      ·rw [if_pos c6] at H
       have c6b0 := beq_iff_eq.mpr c6
       have c6b1 := bne_eq_false_iff_eq.mpr c6
       clear c6
       obtain rfl := Option.some.inj H
       have p146 : 0 ≤ (x8_1 : Int) := od
       have q146 : x8_1 < (l0.length : Int) := od
       obtain ⟨ad146, e146, hx146_0⟩ := Kd.at_int HR0.out x8_1 p146 q146
       cases e146
       replace p146 := eq_true p146
       replace q146 := eq_true q146
       go_wp2
       go_ret
       exact ⟨by first | rfl | (simp; done) | (simp [*]; done), by repeat (first | exact Drawn0.refl _ | apply Drawn0.step)⟩
      ·rw [if_neg c6] at H
       have c6b0 := beq_eq_false_iff_ne.mpr c6
       have c6b1 := bne_iff_ne.mpr c6
       have H' := m0 H
       clear H
       have p146 : 0 ≤ (x8_1 : Int) := od
       have q146 : x8_1 < (l0.length : Int) := od
       obtain ⟨ad146, e146, hx146_0⟩ := Kd.at_int HR0.out x8_1 p146 q146
       cases e146
       replace p146 := eq_true p146
       replace q146 := eq_true q146
       go_wp2
       go_roundg k1
       case measure => have := HK1.out; omega
       case rel => exact ⟨(wrap64 (x8_1 + 1)), (by first | rfl | (simp; done) | (simp [*]; done)), H', ⟨by have := HK1.out; omega⟩, by repeat (first | exact Drawn0.refl _ | apply Drawn0.step)⟩
     ·rw [if_neg c5] at H
      exact absurd H (by simp)
    ·rw [if_neg c4] at H
     exact absurd H (by simp)
   ·rw [if_neg c3] at H
    have c3b0 := decide_eq_false c3
    clear c3
    obtain rfl := Option.some.inj H
    go_wp2
    go_ret
    exact ⟨by first | rfl | (simp; done) | (simp [*]; done), by repeat (first | exact Drawn0.refl _ | apply Drawn0.step)⟩
end
section
def Sp_peak.f (k : Nat) (l0 : List Int) : Option (Int) := (Sp_int_106.f k l0).bind fun t147 => ((Sp_int_132.f k l0 t147).bind fun t148 => (some t148))
theorem Sp_peak.mono : ∀ a0 k, LeO (Sp_peak.f k a0) (Sp_peak.f (k + 1) a0) := by
 intro a0 k
 unfold Sp_peak.f
 repeat' with_reducible first
  | exact Sp_int_106.mono ..
  | exact Sp_int_132.mono ..
  | exact LeO.refl ..
  | exact LeO.none ..
  | refine LeO.ite ?_ ?_
  | refine LeO.bind ?_ (fun _ => ?_)
theorem Sp_peak.calls (k : Nat) (A0 : Option Addr) (c0 : Nat) (l0 : List Int) (r : Int) (w : World) (hr0 : Kd.C (Kd.int .i64) w A0 l0.length l0) (hc0 : l0.length ≤ c0) (h : Sp_peak.f k l0 = some r) :
  Calls Tryd.prog 103 #[.slice A0 l0.length c0] w fun e w' => e = .returned (.int .i64 r) ∧ Below w.heap.size w w' := by
 have HR0 := m0 hr0
 have HC0 := m0 hc0
 clear hr0 hc0
 have HB := m0 (Below.refl w.heap.size w)
 have H : ((Sp_int_106.f k l0).bind fun t147 => ((Sp_int_132.f k l0 t147).bind fun t148 => (some t148))) = some r := h
 clear h
 replace H := ob H
 obtain ⟨t147, A2, H⟩ := H
 (try dsimp only at H)
 replace A2 := m0 A2
 replace H := ob H
 obtain ⟨t148, A3, H⟩ := H
 (try dsimp only at H)
 replace A3 := m0 A3
 obtain rfl := Option.some.inj H
 go_enter Tryd.func103, Tryd.ntmps103
 go_wp2_with (first | ((with_reducible refine gate_callee (f := 106) rfl ?_); refine gl (some 5) Tryd.func106 #[.slice A0 l0.length c0] ?_; (with_reducible refine (Sp_int_106.calls k _ _ l0 t147 _ ?side1 ?side2 A2.out).mono ?_); (case side1 => repeat (first | exact HR0.out | (with_reducible refine Kd.C_alloc ?_ _) | (with_reducible refine Kd.C_drewN ?_ _) | (with_reducible refine Kd.C_drew ?_))); (case side2 => exact HC0.out); rintro e w4 ⟨rfl, hb⟩; refine ⟨_, rfl, ?_⟩; replace HB := sb HB hb; (try clear hb)) | ((with_reducible refine gate_callee (f := 132) rfl ?_); refine gl (some 6) Tryd.func132 #[.slice A0 l0.length c0, .int .i64 t147] ?_; (with_reducible refine (Sp_int_132.calls k _ _ l0 t147 t148 _ ?side1 ?side2 A3.out).mono ?_); (case side1 => exact cb HR0 HB); (case side2 => exact HC0.out); rintro e w' ⟨rfl, ⟨nd, rfl⟩⟩; refine ⟨_, rfl, ?_⟩))
 go_ret
 exact ez
end
section
def Sp_highest.f (k : Nat) (l0 : List Int) : Option (Int × Int) := (Sp_peak.f k l0).bind fun t150 => ((L_fraction.f k t150 1).bind fun bt151 => (some (bt151.1, bt151.2)))
theorem Sp_highest.mono : ∀ a0 k, LeO (Sp_highest.f k a0) (Sp_highest.f (k + 1) a0) := by
 intro a0 k
 unfold Sp_highest.f
 repeat' with_reducible first
  | exact L_fraction.mono ..
  | exact Sp_peak.mono ..
  | exact LeO.refl ..
  | exact LeO.none ..
  | refine LeO.ite ?_ ?_
  | refine LeO.bind ?_ (fun _ => ?_)
theorem Sp_highest.calls (k : Nat) (A0 : Option Addr) (c0 : Nat) (l0 : List Int) (r1 : Int) (r2 : Int) (w : World) (hr0 : Kd.C (Kd.int .i64) w A0 l0.length l0) (hc0 : l0.length ≤ c0) (h : Sp_highest.f k l0 = some (r1, r2)) :
  Calls Tryd.prog 192 #[.slice A0 l0.length c0] w fun e w' => e = .returned (.agg #[.int .i64 r1, .int .i64 r2]) ∧ Below w.heap.size w w' := by
 have hu26 := Tryd.underlying26
 have HR0 := m0 hr0
 have HC0 := m0 hc0
 clear hr0 hc0
 have HB := m0 (Below.refl w.heap.size w)
 have H : ((Sp_peak.f k l0).bind fun t150 => ((L_fraction.f k t150 1).bind fun bt151 => (some (bt151.1, bt151.2)))) = some (r1, r2) := h
 clear h
 replace H := ob H
 obtain ⟨t150, A2, H⟩ := H
 (try dsimp only at H)
 replace A2 := m0 A2
 replace H := ob H
 obtain ⟨⟨t151, t152⟩, A3, H⟩ := H
 (try dsimp only at H)
 replace A3 := m0 A3
 simp only [Option.some.injEq, Prod.mk.injEq] at H
 obtain ⟨rfl, rfl⟩ := H
 go_enter Tryd.func192, Tryd.ntmps192
 go_wp2_with (first | ((with_reducible refine gate_dst (N := 2) rfl ?_); refine be 2 26 #[.int .i64 0, .int .i64 0] ?_; intro gb149 hg w4 hbox hb; have BK149 := m0 hbox; have GE149 := gw w hg; replace HB := sb HB hb; clear hb hbox hg) | ((with_reducible refine gate_callee (f := 103) rfl ?_); refine gl (some 4) Tryd.func103 #[.slice A0 l0.length c0] ?_; (with_reducible refine (Sp_peak.calls k _ _ l0 t150 _ ?side1 ?side2 A2.out).mono ?_); (case side1 => exact cb HR0 HB); (case side2 => exact HC0.out); rintro e w5 ⟨rfl, hb⟩; refine ⟨_, rfl, ?_⟩; replace BK149 := bb BK149 hb; replace HB := sb HB hb; (try clear hb)) | ((with_reducible refine gate_callee (f := 96) rfl ?_); refine gl (some 5) Tryd.func96 #[.int .i64 t150, .int .i64 1] ?_; (with_reducible refine (L_fraction.calls k t150 1 t151 t152 _ A3.out).mono ?_); rintro e w6 ⟨rfl, hb⟩; refine ⟨_, rfl, ?_⟩; replace BK149 := bb BK149 hb; replace HB := sb HB hb; (try clear hb); obtain ⟨_, _, _, _⟩ := b2 BK149))
 refine bodyPost_ret (results_cell_row rfl _ _ gb149 26 #[.int .i64 t151, .int .i64 t152] (0, 0) _ rfl (bq BK149.out) Tryd.underlying26 rfl (by kernel_rfl)) rfl ?_
 exact ez
end
section
def L_sum.l0 : Nat → Int → List Int → Int → Int → Option (Int)
 | 0, _, _, _, _ => none
 | k + 1, x3, x6, x7, x8 => if x8 < x7 then (if 0 ≤ x8 then (if x8 < (x6.length : Int) then (L_sum.l0 k (wrap64 (x3 + (rd x6 x8))) x6 x7 (wrap64 (x8 + 1))) else (none)) else (none)) else (some x3)
def L_sum.f (k : Nat) (l0 : List Int) : Option (Int) := L_sum.l0 k 0 l0 (l0.length : Int) 0
theorem L_sum.mono_l : ∀ k, (∀ y0 y1 y2 y3, LeO (L_sum.l0 k y0 y1 y2 y3) (L_sum.l0 (k + 1) y0 y1 y2 y3))
 | 0 => fun _ _ _ _ r h => by simp [L_sum.l0] at h
 | k + 1 => by
  have ih0 := L_sum.mono_l k
  ·intro y0 y1 y2 y3
   unfold L_sum.l0
   repeat' with_reducible first
    | exact ih0 ..
    | exact LeO.refl ..
    | exact LeO.none ..
    | refine LeO.ite ?_ ?_
    | refine LeO.bind ?_ (fun _ => ?_)
theorem L_sum.mono : ∀ a0 k, LeO (L_sum.f k a0) (L_sum.f (k + 1) a0) := by
 intro a0 k
 have ih0 := L_sum.mono_l k
 unfold L_sum.f
 repeat' with_reducible first
  | exact ih0 ..
  | exact LeO.refl ..
  | exact LeO.none ..
  | refine LeO.ite ?_ ?_
  | refine LeO.bind ?_ (fun _ => ?_)
theorem L_sum.calls (k : Nat) (A0 : Option Addr) (c0 : Nat) (l0 : List Int) (r : Int) (w : World) (hr0 : Kd.C (Kd.int .i64) w A0 l0.length l0) (hc0 : l0.length ≤ c0) (h : L_sum.f k l0 = some r) :
  Calls Tryd.prog 125 #[.slice A0 l0.length c0] w fun e w' => e = .returned (.int .i64 r) ∧ Drawn0 w w' := by
 have HR0 := m0 hr0
 have HC0 := m0 hc0
 clear hr0 hc0
 have H : (L_sum.l0 k 0 l0 (l0.length : Int) 0) = some r := h
 clear h
 have H' := m0 H
 clear H
 go_enter Tryd.func125, Tryd.ntmps125
 go_wp2
 go_loopg [3, 8] k (fun kq v3 v8 w' => ∃ (x3_1 : Int) (x8_1 : Int), v3 = .int .i64 x3_1 ∧ v8 = .int .i64 x8_1 ∧ Aside0 (L_sum.l0 kq x3_1 l0 (l0.length : Int) x8_1 = some r) ∧ Aside0 (kq ≤ k) ∧ Drawn0 w w')
 case atStart => exact ⟨(0), (0), (by first | rfl | (simp; done) | (simp [*]; done)), (by first | rfl | (simp; done) | (simp [*]; done)), H', ⟨Nat.le_refl _⟩, by repeat (first | exact Drawn0.refl _ | apply Drawn0.step)⟩
 case round =>
  clear H'
  obtain ⟨x3_1, x8_1, rfl, rfl, HA, HK1, ⟨m1, rfl⟩⟩ := hrel
  cases gk with
  | zero => exact absurd HA.out (by simp [L_sum.l0])
  | succ k1 =>
   have H := HA.out
   clear HA
   simp only [L_sum.l0] at H
   by_cases c2 : x8_1 < (l0.length : Int)
   ·rw [if_pos c2] at H
    have c2b0 := decide_eq_true c2
    clear c2
    by_cases c3 : 0 ≤ x8_1
    ·rw [if_pos c3] at H
     have c3b0 := decide_eq_true c3
     clear c3
     by_cases c4 : x8_1 < (l0.length : Int)
     ·rw [if_pos c4] at H
      have c4b0 := decide_eq_true c4
      clear c4
      have H' := m0 H
      clear H
      have p153 : 0 ≤ (x8_1 : Int) := od
      have q153 : x8_1 < (l0.length : Int) := od
      obtain ⟨ad153, e153, hx153_0⟩ := Kd.at_int HR0.out x8_1 p153 q153
      cases e153
      replace p153 := eq_true p153
      replace q153 := eq_true q153
      go_wp2
      go_roundg k1
      case measure => have := HK1.out; omega
      case rel => exact ⟨(wrap64 (x3_1 + (rd l0 x8_1))), (wrap64 (x8_1 + 1)), (by first | rfl | (simp; done) | (simp [*]; done)), (by first | rfl | (simp; done) | (simp [*]; done)), H', ⟨by have := HK1.out; omega⟩, by repeat (first | exact Drawn0.refl _ | apply Drawn0.step)⟩
     ·rw [if_neg c4] at H
      exact absurd H (by simp)
    ·rw [if_neg c3] at H
     exact absurd H (by simp)
   ·rw [if_neg c2] at H
    have c2b0 := decide_eq_false c2
    clear c2
    obtain rfl := Option.some.inj H
    go_wp2
    go_ret
    exact ⟨by first | rfl | (simp; done) | (simp [*]; done), by repeat (first | exact Drawn0.refl _ | apply Drawn0.step)⟩
end
section
def Sp_centroid.l0 : Nat → List Int → Int → Int → Int → Int → Option (Int × Int)
 | 0, _, _, _, _, _ => none
 | k + 1, x0, x1, x2, x7, x8 => if x8 < x2 then (if 0 ≤ x8 then (if x8 < (x0.length : Int) then (Sp_centroid.l0 k x0 x1 x2 (wrap64 (x7 + (wrap64 (x8 * (rd x0 x8))))) (wrap64 (x8 + 1))) else (none)) else (none)) else (if 0 ≤ x1 then (if x1 ≤ x2 then (if x2 ≤ (x0.length : Int) then ((L_sum.f k ((x0.take (x2 : Int).toNat).drop (x1 : Int).toNat)).bind fun t157 => ((L_fraction.f k x7 t157).bind fun bt158 => (some (bt158.1, bt158.2)))) else (none)) else (none)) else (none))
def Sp_centroid.f (k : Nat) (l0 : List Int) (a1 : Int) (a2 : Int) : Option (Int × Int) := Sp_centroid.l0 k l0 a1 a2 0 a1
theorem Sp_centroid.mono_l : ∀ k, (∀ y0 y1 y2 y3 y4, LeO (Sp_centroid.l0 k y0 y1 y2 y3 y4) (Sp_centroid.l0 (k + 1) y0 y1 y2 y3 y4))
 | 0 => fun _ _ _ _ _ r h => by simp [Sp_centroid.l0] at h
 | k + 1 => by
  have ih0 := Sp_centroid.mono_l k
  ·intro y0 y1 y2 y3 y4
   unfold Sp_centroid.l0
   repeat' with_reducible first
    | exact ih0 ..
    | exact L_fraction.mono ..
    | exact L_sum.mono ..
    | exact LeO.refl ..
    | exact LeO.none ..
    | refine LeO.ite ?_ ?_
    | refine LeO.bind ?_ (fun _ => ?_)
theorem Sp_centroid.mono : ∀ a0 a1 a2 k, LeO (Sp_centroid.f k a0 a1 a2) (Sp_centroid.f (k + 1) a0 a1 a2) := by
 intro a0 a1 a2 k
 have ih0 := Sp_centroid.mono_l k
 unfold Sp_centroid.f
 repeat' with_reducible first
  | exact ih0 ..
  | exact L_fraction.mono ..
  | exact L_sum.mono ..
  | exact LeO.refl ..
  | exact LeO.none ..
  | refine LeO.ite ?_ ?_
  | refine LeO.bind ?_ (fun _ => ?_)
theorem Sp_centroid.calls (k : Nat) (A0 : Option Addr) (c0 : Nat) (l0 : List Int) (a1 : Int) (a2 : Int) (r1 : Int) (r2 : Int) (w : World) (hr0 : Kd.C (Kd.int .i64) w A0 l0.length l0) (hc0 : l0.length ≤ c0) (h : Sp_centroid.f k l0 a1 a2 = some (r1, r2)) :
  Calls Tryd.prog 124 #[.slice A0 l0.length c0, .int .i64 a1, .int .i64 a2] w fun e w' => e = .returned (.agg #[.int .i64 r1, .int .i64 r2]) ∧ Below w.heap.size w w' := by
 have hu26 := Tryd.underlying26
 have HR0 := m0 hr0
 have HC0 := m0 hc0
 clear hr0 hc0
 have HB := m0 (Below.refl w.heap.size w)
 have H : (Sp_centroid.l0 k l0 a1 a2 0 a1) = some (r1, r2) := h
 clear h
 have H' := m0 H
 clear H
 go_enter Tryd.func124, Tryd.ntmps124
 go_wp2_with (first | ((with_reducible refine gate_dst (N := 6) rfl ?_); refine be 6 26 #[.int .i64 0, .int .i64 0] ?_; intro gb154 hg w4 hbox hb; have BK154 := m0 hbox; have GE154 := gw w hg; replace HB := sb HB hb; clear hb hbox hg))
 go_loopg [7, 8] k (fun kq v7 v8 w' => ∃ (x7_1 : Int) (x8_1 : Int), v7 = .int .i64 x7_1 ∧ v8 = .int .i64 x8_1 ∧ Aside0 (Sp_centroid.l0 kq l0 a1 a2 x7_1 x8_1 = some (r1, r2)) ∧ Aside0 (kq ≤ k) ∧ Aside0 (w'.heap[gb154]? = some (.cells #[.int .i64 0, .int .i64 0] 26 (0, 0))) ∧ Aside0 (Below w.heap.size w w'))
 case atStart => exact ⟨(0), (a1), (by first | rfl | (simp; done) | (simp [*]; done)), (by first | rfl | (simp; done) | (simp [*]; done)), H', ⟨Nat.le_refl _⟩, ⟨bk BK154.out⟩, ⟨bz⟩⟩
 case round =>
  clear H'
  obtain ⟨x7_1, x8_1, rfl, rfl, HA, HK1, BK154, HB⟩ := hrel
  cases gk with
  | zero => exact absurd HA.out (by simp [Sp_centroid.l0])
  | succ k1 =>
   have H := HA.out
   clear HA
   simp only [Sp_centroid.l0] at H
   by_cases c5 : x8_1 < a2
   ·rw [if_pos c5] at H
    have c5b0 := decide_eq_true c5
    clear c5
    by_cases c6 : 0 ≤ x8_1
    ·rw [if_pos c6] at H
     have c6b0 := decide_eq_true c6
     clear c6
     by_cases c7 : x8_1 < (l0.length : Int)
     ·rw [if_pos c7] at H
      have c7b0 := decide_eq_true c7
      clear c7
      have H' := m0 H
      clear H
      have p155 : 0 ≤ (x8_1 : Int) := od
      have q155 : x8_1 < (l0.length : Int) := od
      obtain ⟨ad155, e155, hx155_0⟩ := Kd.at_int HR0.out x8_1 p155 q155
      cases e155
      replace hx155_0 := (HB.out.cell (World.block_lt_of_cell? w _ hx155_0)).trans hx155_0
      replace p155 := eq_true p155
      replace q155 := eq_true q155
      go_wp2
      go_roundg k1
      case measure => have := HK1.out; omega
      case rel => exact ⟨(wrap64 (x7_1 + (wrap64 (x8_1 * (rd l0 x8_1))))), (wrap64 (x8_1 + 1)), (by first | rfl | (simp; done) | (simp [*]; done)), (by first | rfl | (simp; done) | (simp [*]; done)), H', ⟨by have := HK1.out; omega⟩, ⟨bk BK154.out⟩, ⟨bz⟩⟩
     ·rw [if_neg c7] at H
      exact absurd H (by simp)
    ·rw [if_neg c6] at H
     exact absurd H (by simp)
   ·rw [if_neg c5] at H
    have c5b0 := decide_eq_false c5
    clear c5
    by_cases c8 : 0 ≤ a1
    ·rw [if_pos c8] at H
     have c8b0 := eq_true c8
     have c8b1 := decide_eq_true c8
     clear c8
     by_cases c9 : a1 ≤ a2
     ·rw [if_pos c9] at H
      have c9b0 := eq_true c9
      have c9b1 := decide_eq_true c9
      clear c9
      by_cases c10 : a2 ≤ (l0.length : Int)
      ·rw [if_pos c10] at H
       have c10b0 := eq_true c10
       have c10b1 := decide_eq_true c10
       clear c10
       replace H := ob H
       obtain ⟨t157, A11, H⟩ := H
       (try dsimp only at H)
       replace A11 := m0 A11
       replace H := ob H
       obtain ⟨⟨t158, t159⟩, A12, H⟩ := H
       (try dsimp only at H)
       replace A12 := m0 A12
       simp only [Option.some.injEq, Prod.mk.injEq] at H
       obtain ⟨rfl, rfl⟩ := H
       obtain ⟨i013, hi013, _, hsz13, _⟩ := info_parts info3
       obtain ⟨A13, hcut13, hA13, hC13⟩ := print_mid_of (P := Tryd.prog) (Value.int .i64) 0 120 3 .i64 .i64 Tryd.underlying120 hi013 hsz13 A0 c0 l0 a1 a2 (od) (by first | omega | exact od) (od) HC0.out
       have HR156 := m0 (Kd.C_of_reads (h1 := fun _ => rfl) (hA13 _ (Kd.reads_of_C HR0.out)))
       have HC156 := m0 hC13
       clear hA13 hC13 hi013 hsz13
       go_wp2_with (first | ((with_reducible refine gate_callee (f := 125) rfl ?_); refine goesL_ (some 28) rfl rfl Tryd.func125 (by kernel_rfl) rfl #[.slice A13 ((l0.take (a2 : Int).toNat).drop (a1 : Int).toNat).length (c0 - a1.toNat)] rfl (by (try simp only [List.map_toArray, List.map_cons, List.map_nil]); first | done | (rw [show ((l0.take (a2 : Int).toNat).drop (a1 : Int).toNat).length = (a2.toNat - a1.toNat) from (by rw [List.length_drop, List.length_take]; have h_ : (a2 : Int) ≤ (l0.length : Int) := od; omega)] <;> rfl) | rfl | (simp only [List.length_drop, List.length_take]; rfl)) ?_; (with_reducible refine (L_sum.calls k1 _ _ ((l0.take (a2 : Int).toNat).drop (a1 : Int).toNat) t157 _ ?side1 ?side2 A11.out).mono ?_); (case side1 => exact cb HR156 HB); (case side2 => exact HC156.out); rintro e w' ⟨rfl, ⟨nd, rfl⟩⟩; refine ⟨_, rfl, ?_⟩; (try (rw [drewN_self wr]; generalize hq_ : World.drewN wr _ = wr; replace BK154 := gd BK154 hq_; replace HB := gs HB hq_; clear hq_))) | ((with_reducible refine gate_callee (f := 96) rfl ?_); refine gl (some 29) Tryd.func96 #[.int .i64 x7_1, .int .i64 t157] ?_; (with_reducible refine (L_fraction.calls k1 x7_1 t157 t158 t159 _ A12.out).mono ?_); rintro e w14 ⟨rfl, hb⟩; refine ⟨_, rfl, ?_⟩; replace BK154 := bb BK154 hb; replace HB := sb HB hb; (try clear hb); obtain ⟨_, _, _, _⟩ := b2 BK154))
       refine bodyPost_ret (results_cell_row rfl _ _ gb154 26 #[.int .i64 t158, .int .i64 t159] (0, 0) _ rfl (bq BK154.out) Tryd.underlying26 rfl (by kernel_rfl)) rfl ?_
       exact ez
      ·rw [if_neg c10] at H
       exact absurd H (by simp)
     ·rw [if_neg c9] at H
      exact absurd H (by simp)
    ·rw [if_neg c8] at H
     exact absurd H (by simp)
end
section
def Sp_whole.f (k : Nat) (l0 : List Int) : Option (Int × Int) := (Sp_centroid.f k l0 0 (l0.length : Int)).bind fun bt161 => (some (bt161.1, bt161.2))
theorem Sp_whole.mono : ∀ a0 k, LeO (Sp_whole.f k a0) (Sp_whole.f (k + 1) a0) := by
 intro a0 k
 unfold Sp_whole.f
 repeat' with_reducible first
  | exact Sp_centroid.mono ..
  | exact LeO.refl ..
  | exact LeO.none ..
  | refine LeO.ite ?_ ?_
  | refine LeO.bind ?_ (fun _ => ?_)
theorem Sp_whole.calls (k : Nat) (A0 : Option Addr) (c0 : Nat) (l0 : List Int) (r1 : Int) (r2 : Int) (w : World) (hr0 : Kd.C (Kd.int .i64) w A0 l0.length l0) (hc0 : l0.length ≤ c0) (h : Sp_whole.f k l0 = some (r1, r2)) :
  Calls Tryd.prog 193 #[.slice A0 l0.length c0] w fun e w' => e = .returned (.agg #[.int .i64 r1, .int .i64 r2]) ∧ Below w.heap.size w w' := by
 have hu26 := Tryd.underlying26
 have HR0 := m0 hr0
 have HC0 := m0 hc0
 clear hr0 hc0
 have HB := m0 (Below.refl w.heap.size w)
 have H : ((Sp_centroid.f k l0 0 (l0.length : Int)).bind fun bt161 => (some (bt161.1, bt161.2))) = some (r1, r2) := h
 clear h
 replace H := ob H
 obtain ⟨⟨t161, t162⟩, A2, H⟩ := H
 (try dsimp only at H)
 replace A2 := m0 A2
 simp only [Option.some.injEq, Prod.mk.injEq] at H
 obtain ⟨rfl, rfl⟩ := H
 go_enter Tryd.func193, Tryd.ntmps193
 go_wp2_with (first | ((with_reducible refine gate_dst (N := 2) rfl ?_); refine be 2 26 #[.int .i64 0, .int .i64 0] ?_; intro gb160 hg w3 hbox hb; have BK160 := m0 hbox; have GE160 := gw w hg; replace HB := sb HB hb; clear hb hbox hg) | ((with_reducible refine gate_callee (f := 124) rfl ?_); refine gl (some 6) Tryd.func124 #[.slice A0 l0.length c0, .int .i64 0, .int .i64 (l0.length : Int)] ?_; (with_reducible refine (Sp_centroid.calls k _ _ l0 0 (l0.length : Int) t161 t162 _ ?side1 ?side2 A2.out).mono ?_); (case side1 => exact cb HR0 HB); (case side2 => exact HC0.out); rintro e w4 ⟨rfl, hb⟩; refine ⟨_, rfl, ?_⟩; replace BK160 := bb BK160 hb; replace HB := sb HB hb; (try clear hb); obtain ⟨_, _, _, _⟩ := b2 BK160))
 refine bodyPost_ret (results_cell_row rfl _ _ gb160 26 #[.int .i64 t161, .int .i64 t162] (0, 0) _ rfl (bq BK160.out) Tryd.underlying26 rfl (by kernel_rfl)) rfl ?_
 exact ez
end
section
def Sp_parabola.j0 : Nat → List Int → Int → Bool → Option (Int × Int)
 | 0, _, _, _ => none
 | k + 1, x0, x3, x15 => if x15 = true then ((L_fraction.f k x3 1).bind fun bt165 => (some (bt165.1, bt165.2))) else (if 0 ≤ x3 then (if x3 < (x0.length : Int) then (if 0 ≤ (wrap64 (x3 - 1)) then (if (wrap64 (x3 - 1)) < (x0.length : Int) then (if 0 ≤ (wrap64 (x3 + 1)) then (if (wrap64 (x3 + 1)) < (x0.length : Int) then (if (wrap64 ((wrap64 ((wrap64 (2 * (rd x0 x3))) - (rd x0 (wrap64 (x3 - 1))))) - (rd x0 (wrap64 (x3 + 1))))) ≤ 0 then ((L_fraction.f k x3 1).bind fun bt170 => (some (bt170.1, bt170.2))) else ((L_fraction.f k (wrap64 ((wrap64 ((wrap64 ((wrap64 (2 * (wrap64 ((wrap64 ((wrap64 (2 * (rd x0 x3))) - (rd x0 (wrap64 (x3 - 1))))) - (rd x0 (wrap64 (x3 + 1))))))) * x3)) + (rd x0 (wrap64 (x3 + 1))))) - (rd x0 (wrap64 (x3 - 1))))) (wrap64 (2 * (wrap64 ((wrap64 ((wrap64 (2 * (rd x0 x3))) - (rd x0 (wrap64 (x3 - 1))))) - (rd x0 (wrap64 (x3 + 1)))))))).bind fun bt174 => (some (bt174.1, bt174.2)))) else (none)) else (none)) else (none)) else (none)) else (none)) else (none))
def Sp_parabola.f (k : Nat) (l0 : List Int) : Option (Int × Int) := (Sp_peak.f k l0).bind fun t164 => (if t164 = 0 then (Sp_parabola.j0 k l0 t164 true) else (Sp_parabola.j0 k l0 t164 (t164 == (wrap64 ((l0.length : Int) - 1)))))
theorem Sp_parabola.mono_l : ∀ k, (∀ y0 y1 y2, LeO (Sp_parabola.j0 k y0 y1 y2) (Sp_parabola.j0 (k + 1) y0 y1 y2))
 | 0 => fun _ _ _ r h => by simp [Sp_parabola.j0] at h
 | k + 1 => by
  have ih0 := Sp_parabola.mono_l k
  ·intro y0 y1 y2
   unfold Sp_parabola.j0
   repeat' with_reducible first
    | exact ih0 ..
    | exact L_fraction.mono ..
    | exact Sp_peak.mono ..
    | exact LeO.refl ..
    | exact LeO.none ..
    | refine LeO.ite ?_ ?_
    | refine LeO.bind ?_ (fun _ => ?_)
theorem Sp_parabola.mono : ∀ a0 k, LeO (Sp_parabola.f k a0) (Sp_parabola.f (k + 1) a0) := by
 intro a0 k
 have ih0 := Sp_parabola.mono_l k
 unfold Sp_parabola.f
 repeat' with_reducible first
  | exact ih0 ..
  | exact L_fraction.mono ..
  | exact Sp_peak.mono ..
  | exact LeO.refl ..
  | exact LeO.none ..
  | refine LeO.ite ?_ ?_
  | refine LeO.bind ?_ (fun _ => ?_)
def Sp_parabola.T4 : Bool × List (List Nat × List Nat) := (true, [([], []), ([], []), ([0, 1], [0, 1]), ([2], [2]), ([3], [3]), ([], []), ([], []), ([6], [6]), ([5, 7], [5, 7]), ([8], [8]), ([4, 9], [4, 9]), ([], []), ([], []), ([12], [12]), ([11, 13], [11, 13]), ([14], [14]), ([10, 15], [10, 15]), ([16, 0, 1, 2, 3, 4, 5, 6, 7, 8, 9, 10, 11, 12, 13, 14, 15, 16], [16])])
def Sp_parabola.B4 : List Nat := [0, 0, 3, 7, 15, 0, 0, 64, 224, 480, 1023, 0, 0, 4096, 14336, 30720, 65535, 131071]
theorem Sp_parabola.tab4 : rtab .any (opsOf Tryd.f194 4) = Sp_parabola.T4 := by kernel_rfl
theorem Sp_parabola.bits4 : waitsOk Sp_parabola.T4.2 Sp_parabola.B4 = true := by kernel_rfl
def Sp_parabola.T7 : Bool × List (List Nat × List Nat) := (true, [([], []), ([0], [0]), ([], []), ([1, 2], [1, 2]), ([], []), ([], []), ([5], [5]), ([4, 6], [4, 6]), ([7], [7]), ([3, 8], [3, 8]), ([], []), ([], []), ([11], [11]), ([10, 12], [10, 12]), ([13], [13]), ([9, 14], [9, 14]), ([], []), ([16], [16]), ([15, 17], [15, 17]), ([18, 18, 0, 1, 2, 3, 4, 5, 6, 7, 8, 9, 10, 11, 12, 13, 14, 15, 16, 17, 18], [18])])
def Sp_parabola.B7 : List Nat := [0, 1, 0, 7, 0, 0, 32, 112, 240, 511, 0, 0, 2048, 7168, 15360, 32767, 0, 65536, 262143, 524287]
theorem Sp_parabola.tab7 : rtab .any (opsOf Tryd.f194 7) = Sp_parabola.T7 := by kernel_rfl
theorem Sp_parabola.bits7 : waitsOk Sp_parabola.T7.2 Sp_parabola.B7 = true := by kernel_rfl
theorem Sp_parabola.calls (k : Nat) (A0 : Option Addr) (c0 : Nat) (l0 : List Int) (r1 : Int) (r2 : Int) (w : World) (hr0 : Kd.C (Kd.int .i64) w A0 l0.length l0) (hc0 : l0.length ≤ c0) (h : Sp_parabola.f k l0 = some (r1, r2)) :
  Calls Tryd.prog 194 #[.slice A0 l0.length c0] w fun e w' => e = .returned (.agg #[.int .i64 r1, .int .i64 r2]) ∧ Below w.heap.size w w' := by
 have hu26 := Tryd.underlying26
 have HR0 := m0 hr0
 have HC0 := m0 hc0
 clear hr0 hc0
 have HB := m0 (Below.refl w.heap.size w)
 have H : ((Sp_peak.f k l0).bind fun t164 => (if t164 = 0 then (Sp_parabola.j0 k l0 t164 true) else (Sp_parabola.j0 k l0 t164 (t164 == (wrap64 ((l0.length : Int) - 1)))))) = some (r1, r2) := h
 clear h
 replace H := ob H
 obtain ⟨t164, A2, H⟩ := H
 (try dsimp only at H)
 replace A2 := m0 A2
 have HC3 := m0 H
 clear H
 go_enter Tryd.func194, Tryd.ntmps194
 go_upto_region 2 with (first | ((with_reducible refine gate_dst (N := 2) rfl ?_); (try (refine gate_guard (by rfl) ?_; dsimp only)); refine be 2 26 #[.int .i64 0, .int .i64 0] ?_; intro gb163 hg w4 hbox hb; have BK163 := m0 hbox; have GW163 := gw w hg; have GE163 := gw w hg; replace HB := sb HB hb; clear hb hbox hg) | ((with_reducible refine gate_callee (f := 103) rfl ?_); refine gl (some 6) Tryd.func103 #[.slice A0 l0.length c0] ?_; (with_reducible refine (Sp_peak.calls k _ _ l0 t164 _ ?side1 ?side2 A2.out).mono ?_); (case side1 => exact cb HR0 HB); (case side2 => exact HC0.out); rintro e w5 ⟨rfl, hb⟩; refine ⟨_, rfl, ?_⟩; replace BK163 := bb BK163 hb; replace HB := sb HB hb; (try clear hb)))
 (try simp only [Act.put, List.setIfInBounds_toArray, List.set_cons_zero, List.set_cons_succ])
 go_cut [15] (fun v15 wc => ∃ (kq : Nat) (x15_2 : Bool), v15 = .bool x15_2 ∧ Aside0 (Sp_parabola.j0 kq l0 t164 x15_2 = some (r1, r2)) ∧ Aside0 (kq ≤ k) ∧ Aside0 (wc.heap[gb163]? = some (.cells #[.int .i64 0, .int .i64 0] 26 (0, 0))) ∧ Aside0 (Below w.heap.size w wc))
 case first =>
  have H := HC3.out
  clear HC3
  by_cases c6 : t164 = 0
  ·rw [if_pos c6] at H
   have c6b0 := beq_iff_eq.mpr c6
   have c6b1 := bne_eq_false_iff_eq.mpr c6
   clear c6
   (first | rw [c6b0] | (simp only [i64_w, i32_w]; rw [c6b0]) | skip)
   have H' := m0 H
   clear H
   go_wp2
   go_meet
   case rel => exact ⟨_, (true), (by first | rfl | (simp; done) | (simp [*]; done)), H', ⟨by first | omega | exact Nat.le_refl _⟩, ⟨bk BK163.out⟩, ⟨bz⟩⟩
  ·rw [if_neg c6] at H
   have c6b0 := beq_eq_false_iff_ne.mpr c6
   have c6b1 := bne_iff_ne.mpr c6
   (first | rw [c6b0] | (simp only [i64_w, i32_w]; rw [c6b0]) | skip)
   have H' := m0 H
   clear H
   go_wp2
   go_meet
   case rel => exact ⟨_, ((t164 == (wrap64 ((l0.length : Int) - 1)))), (by first | rfl | (simp; done) | (simp [*]; done)), H', ⟨by first | omega | exact Nat.le_refl _⟩, ⟨bk BK163.out⟩, ⟨bz⟩⟩
 case rest =>
  clear HC3
  obtain ⟨kq, x15_2, rfl, HA, HJ2, BK163, HB⟩ := hcut
  cases kq with
  | zero => exact absurd HA.out (by simp [Sp_parabola.j0])
  | succ kj2 =>
   have H := HA.out
   clear HA
   simp only [Sp_parabola.j0] at H
   by_cases c7 : x15_2 = true
   ·subst c7
    rw [if_pos rfl] at H
    replace H := ob H
    obtain ⟨⟨t165, t166⟩, A8, H⟩ := H
    (try dsimp only at H)
    replace A8 := m0 A8
    simp only [Option.some.injEq, Prod.mk.injEq] at H
    obtain ⟨rfl, rfl⟩ := H
    go_wp2_with (first | ((with_reducible refine gate_callee (f := 96) rfl ?_); refine gl (some 17) Tryd.func96 #[.int .i64 t164, .int .i64 1] ?_; (with_reducible refine (L_fraction.calls kj2 t164 1 t165 t166 _ A8.out).mono ?_); rintro e w9 ⟨rfl, hb⟩; refine ⟨_, rfl, ?_⟩; replace BK163 := bb BK163 hb; replace HB := sb HB hb; (try clear hb); obtain ⟨_, _, _, _⟩ := b2 BK163))
    refine bodyPost_ret (results_cell_row rfl _ _ gb163 26 #[.int .i64 t165, .int .i64 t166] (0, 0) _ rfl (bq BK163.out) Tryd.underlying26 rfl (by kernel_rfl)) rfl ?_
    exact ez
   ·replace c7 := Bool.eq_false_iff.mpr c7
    subst c7
    rw [if_neg (show ¬ (false = true) by decide)] at H
    by_cases c11 : 0 ≤ t164
    ·rw [if_pos c11] at H
     have c11b0 := decide_eq_true c11
     clear c11
     by_cases c12 : t164 < (l0.length : Int)
     ·rw [if_pos c12] at H
      have c12b0 := decide_eq_true c12
      clear c12
      obtain ⟨ji13, hji13⟩ : ∃ j_ : Int, (wrap64 (t164 - 1)) = j_ := ⟨_, rfl⟩
      replace H : (if 0 ≤ (ji13) then (if (ji13) < (l0.length : Int) then (if 0 ≤ (wrap64 (t164 + 1)) then (if (wrap64 (t164 + 1)) < (l0.length : Int) then (if (wrap64 ((wrap64 ((wrap64 (2 * (rd l0 t164))) - (rd l0 (ji13)))) - (rd l0 (wrap64 (t164 + 1))))) ≤ 0 then ((L_fraction.f kj2 t164 1).bind fun bt170 => (some (bt170.1, bt170.2))) else ((L_fraction.f kj2 (wrap64 ((wrap64 ((wrap64 ((wrap64 (2 * (wrap64 ((wrap64 ((wrap64 (2 * (rd l0 t164))) - (rd l0 (ji13)))) - (rd l0 (wrap64 (t164 + 1))))))) * t164)) + (rd l0 (wrap64 (t164 + 1))))) - (rd l0 (ji13)))) (wrap64 (2 * (wrap64 ((wrap64 ((wrap64 (2 * (rd l0 t164))) - (rd l0 (ji13)))) - (rd l0 (wrap64 (t164 + 1)))))))).bind fun bt174 => (some (bt174.1, bt174.2)))) else (none)) else (none)) else (none)) else (none)) = some (r1, r2) := by first | (rw [hji13] at H; exact H) | (simp only [hji13] at H ⊢; exact H)
      have hji13w : (IntKind.i64.wrap (t164 - 1)) = ji13 := (i64_w _).trans hji13
      by_cases c14 : 0 ≤ (ji13)
      ·rw [if_pos c14] at H
       have c14b0 := decide_eq_true c14
       clear c14
       by_cases c15 : (ji13) < (l0.length : Int)
       ·rw [if_pos c15] at H
        have c15b0 := decide_eq_true c15
        clear c15
        obtain ⟨ji16, hji16⟩ : ∃ j_ : Int, (wrap64 (t164 + 1)) = j_ := ⟨_, rfl⟩
        replace H : (if 0 ≤ (ji16) then (if (ji16) < (l0.length : Int) then (if (wrap64 ((wrap64 ((wrap64 (2 * (rd l0 t164))) - (rd l0 (ji13)))) - (rd l0 (ji16)))) ≤ 0 then ((L_fraction.f kj2 t164 1).bind fun bt170 => (some (bt170.1, bt170.2))) else ((L_fraction.f kj2 (wrap64 ((wrap64 ((wrap64 ((wrap64 (2 * (wrap64 ((wrap64 ((wrap64 (2 * (rd l0 t164))) - (rd l0 (ji13)))) - (rd l0 (ji16)))))) * t164)) + (rd l0 (ji16)))) - (rd l0 (ji13)))) (wrap64 (2 * (wrap64 ((wrap64 ((wrap64 (2 * (rd l0 t164))) - (rd l0 (ji13)))) - (rd l0 (ji16))))))).bind fun bt174 => (some (bt174.1, bt174.2)))) else (none)) else (none)) = some (r1, r2) := by first | (rw [hji16] at H; exact H) | (simp only [hji16] at H ⊢; exact H)
        have hji16w : (IntKind.i64.wrap (t164 + 1)) = ji16 := (i64_w _).trans hji16
        by_cases c17 : 0 ≤ (ji16)
        ·rw [if_pos c17] at H
         have c17b0 := decide_eq_true c17
         clear c17
         by_cases c18 : (ji16) < (l0.length : Int)
         ·rw [if_pos c18] at H
          have c18b0 := decide_eq_true c18
          clear c18
          by_cases c19 : (wrap64 ((wrap64 ((wrap64 (2 * (rd l0 t164))) - (rd l0 (ji13)))) - (rd l0 (ji16)))) ≤ 0
          ·rw [if_pos c19] at H
           have c19b0 := decide_eq_true c19
           clear c19
           replace H := ob H
           obtain ⟨⟨t170, t171⟩, A20, H⟩ := H
           (try dsimp only at H)
           replace A20 := m0 A20
           simp only [Option.some.injEq, Prod.mk.injEq] at H
           obtain ⟨rfl, rfl⟩ := H
           try go_wp2
           replace BK163 := bd BK163; replace HB := sd HB
           have p167 : 0 ≤ (t164 : Int) := od
           have q167 : t164 < (l0.length : Int) := od
           obtain ⟨ad167, e167, hx167_0⟩ := Kd.at_int HR0.out t164 p167 q167
           have hw167_0 := hx167_0
           cases e167
           replace hx167_0 := (HB.out.cell (World.block_lt_of_cell? w _ hx167_0)).trans hx167_0
           replace p167 := eq_true p167
           replace q167 := eq_true q167
           have p168 : 0 ≤ ((ji13) : Int) := od
           have q168 : (ji13) < (l0.length : Int) := od
           obtain ⟨ad168, e168, hx168_0⟩ := Kd.at_int HR0.out (ji13) p168 q168
           have hw168_0 := hx168_0
           obtain rfl : ad167 = ad168 := (by injection e168)
           replace hx168_0 := (HB.out.cell (World.block_lt_of_cell? w _ hx168_0)).trans hx168_0
           replace p168 := eq_true p168
           replace q168 := eq_true q168
           have p169 : 0 ≤ ((ji16) : Int) := od
           have q169 : (ji16) < (l0.length : Int) := od
           obtain ⟨ad169, e169, hx169_0⟩ := Kd.at_int HR0.out (ji16) p169 q169
           have hw169_0 := hx169_0
           obtain rfl : ad167 = ad169 := (by injection e169)
           replace hx169_0 := (HB.out.cell (World.block_lt_of_cell? w _ hx169_0)).trans hx169_0
           replace p169 := eq_true p169
           replace q169 := eq_true q169
           refine start_ (n := 18) (S := fun w' => w'.cell? (ad167.add (t164).toNat) = some (.int .i64 (rd l0 t164)) ∧ w'.cell? (ad167.add ((ji13)).toNat) = some (.int .i64 (rd l0 (ji13))) ∧ w'.cell? (ad167.add ((ji16)).toNat) = some (.int .i64 (rd l0 (ji16)))) (ds := []) #[false, false, false, false, false, false, false, false, false, false, false, false, false, false, false, false, false, false] (by kernel_rfl) rfl rfl ⟨((HB.out.cell (World.block_lt_of_cell? w _ hw167_0)).trans hw167_0), ((HB.out.cell (World.block_lt_of_cell? w _ hw168_0)).trans hw168_0), ((HB.out.cell (World.block_lt_of_cell? w _ hw169_0)).trans hw169_0)⟩ (fun hH => ?_); refine with_tabW Sp_parabola.tab4 Sp_parabola.bits4 (fun HT_ HW_ => ?_)
           generalize wc.drew = w21 at BK163 HB hx167_0 hx168_0 hx169_0 hH ⊢
           refine pZ 0 (some 18) (bs 18 1) HT_ ?_
           refine pZ 1 (some 19) (bs 18 3) HT_ ?_
           refine pZ 2 (some 20) (bs 18 7) HT_ ?_
           refine pZ 5 (some 23) (bs 18 39) HT_ ?_
           refine pZ 6 (some 24) (bs 18 103) HT_ ?_
           refine pZ 7 (some 25) (bs 18 231) HT_ ?_
           refine pZ 8 (some 26) (bs 18 487) HT_ ?_
           refine pZ 11 (some 29) (bs 18 2535) HT_ ?_
           refine pZ 12 (some 30) (bs 18 6631) HT_ ?_
           refine pZ 13 (some 31) (bs 18 14823) HT_ ?_
           refine pZ 14 (some 32) (bs 18 31207) HT_ ?_
           refine takeZ 3 (some 21) (bs 18 31215) (take_ofW HT_.out HW_.out (by kernel_rfl)) hH ?_
           refine pZ 4 (some 22) (bs 18 31231) HT_ ?_
           refine takeZ 9 (some 27) (bs 18 31743) (take_ofW HT_.out HW_.out (by kernel_rfl)) hH ?_
           refine pZ 10 (some 28) (bs 18 32767) HT_ ?_
           refine takeZ 15 (some 33) (bs 18 65535) (take_ofW HT_.out HW_.out (by kernel_rfl)) hH ?_
           refine pZ 16 (some 34) (bs 18 131071) HT_ ?_
           refine pZ 17 (some 4) (bs 18 262143) HT_ ?_
           refine done_ (done_of HT_.out (by kernel_rfl)) ?_
           try go_wp2_with (first | ((with_reducible refine gate_callee (f := 96) rfl ?_); refine gl (some 38) Tryd.func96 #[.int .i64 t164, .int .i64 1] ?_; (with_reducible refine (L_fraction.calls kj2 t164 1 t170 t171 _ A20.out).mono ?_); rintro e w22 ⟨rfl, hb⟩; refine ⟨_, rfl, ?_⟩; replace BK163 := bb BK163 hb; replace HB := sb HB hb; (try clear hb); obtain ⟨_, _, _, _⟩ := b2 BK163))
           refine bodyPost_ret (results_cell_row rfl _ _ gb163 26 #[.int .i64 t170, .int .i64 t171] (0, 0) _ rfl (bq BK163.out) Tryd.underlying26 rfl (by kernel_rfl)) rfl ?_
           exact ⟨by first | rfl | (simp [errW_none, errW_some] <;> rfl) | (simp only [← hji13, ← hji16]; first | rfl | (simp [errW_none, errW_some] <;> rfl)) | (simp [*, errW_none, errW_some] <;> rfl), by repeat (first | (with_reducible first | exact HB.out | apply below_alloc | apply pw_below_drewN | apply below_drew1 | refine below_set ?_ GE163.out) | exact HB.out)⟩
          ·rw [if_neg c19] at H
           have c19b0 := decide_eq_false c19
           clear c19
           replace H := ob H
           obtain ⟨⟨t174, t175⟩, A24, H⟩ := H
           (try dsimp only at H)
           replace A24 := m0 A24
           simp only [Option.some.injEq, Prod.mk.injEq] at H
           obtain ⟨rfl, rfl⟩ := H
           try go_wp2
           replace BK163 := bd BK163; replace HB := sd HB
           have p167 : 0 ≤ (t164 : Int) := od
           have q167 : t164 < (l0.length : Int) := od
           obtain ⟨ad167, e167, hx167_0⟩ := Kd.at_int HR0.out t164 p167 q167
           have hw167_0 := hx167_0
           cases e167
           replace hx167_0 := (HB.out.cell (World.block_lt_of_cell? w _ hx167_0)).trans hx167_0
           replace p167 := eq_true p167
           replace q167 := eq_true q167
           have p168 : 0 ≤ ((ji13) : Int) := od
           have q168 : (ji13) < (l0.length : Int) := od
           obtain ⟨ad168, e168, hx168_0⟩ := Kd.at_int HR0.out (ji13) p168 q168
           have hw168_0 := hx168_0
           obtain rfl : ad167 = ad168 := (by injection e168)
           replace hx168_0 := (HB.out.cell (World.block_lt_of_cell? w _ hx168_0)).trans hx168_0
           replace p168 := eq_true p168
           replace q168 := eq_true q168
           have p169 : 0 ≤ ((ji16) : Int) := od
           have q169 : (ji16) < (l0.length : Int) := od
           obtain ⟨ad169, e169, hx169_0⟩ := Kd.at_int HR0.out (ji16) p169 q169
           have hw169_0 := hx169_0
           obtain rfl : ad167 = ad169 := (by injection e169)
           replace hx169_0 := (HB.out.cell (World.block_lt_of_cell? w _ hx169_0)).trans hx169_0
           replace p169 := eq_true p169
           replace q169 := eq_true q169
           refine start_ (n := 18) (S := fun w' => w'.cell? (ad167.add (t164).toNat) = some (.int .i64 (rd l0 t164)) ∧ w'.cell? (ad167.add ((ji13)).toNat) = some (.int .i64 (rd l0 (ji13))) ∧ w'.cell? (ad167.add ((ji16)).toNat) = some (.int .i64 (rd l0 (ji16)))) (ds := []) #[false, false, false, false, false, false, false, false, false, false, false, false, false, false, false, false, false, false] (by kernel_rfl) rfl rfl ⟨((HB.out.cell (World.block_lt_of_cell? w _ hw167_0)).trans hw167_0), ((HB.out.cell (World.block_lt_of_cell? w _ hw168_0)).trans hw168_0), ((HB.out.cell (World.block_lt_of_cell? w _ hw169_0)).trans hw169_0)⟩ (fun hH => ?_); refine with_tabW Sp_parabola.tab4 Sp_parabola.bits4 (fun HT_ HW_ => ?_)
           generalize wc.drew = w25 at BK163 HB hx167_0 hx168_0 hx169_0 hH ⊢
           refine pZ 0 (some 18) (bs 18 1) HT_ ?_
           refine pZ 1 (some 19) (bs 18 3) HT_ ?_
           refine pZ 2 (some 20) (bs 18 7) HT_ ?_
           refine pZ 5 (some 23) (bs 18 39) HT_ ?_
           refine pZ 6 (some 24) (bs 18 103) HT_ ?_
           refine pZ 7 (some 25) (bs 18 231) HT_ ?_
           refine pZ 8 (some 26) (bs 18 487) HT_ ?_
           refine pZ 11 (some 29) (bs 18 2535) HT_ ?_
           refine pZ 12 (some 30) (bs 18 6631) HT_ ?_
           refine pZ 13 (some 31) (bs 18 14823) HT_ ?_
           refine pZ 14 (some 32) (bs 18 31207) HT_ ?_
           refine takeZ 3 (some 21) (bs 18 31215) (take_ofW HT_.out HW_.out (by kernel_rfl)) hH ?_
           refine pZ 4 (some 22) (bs 18 31231) HT_ ?_
           refine takeZ 9 (some 27) (bs 18 31743) (take_ofW HT_.out HW_.out (by kernel_rfl)) hH ?_
           refine pZ 10 (some 28) (bs 18 32767) HT_ ?_
           refine takeZ 15 (some 33) (bs 18 65535) (take_ofW HT_.out HW_.out (by kernel_rfl)) hH ?_
           refine pZ 16 (some 34) (bs 18 131071) HT_ ?_
           refine pZ 17 (some 4) (bs 18 262143) HT_ ?_
           refine done_ (done_of HT_.out (by kernel_rfl)) ?_
           try go_wp2
           replace BK163 := bd BK163; replace HB := sd HB
           have p172 : 0 ≤ ((ji16) : Int) := od
           have q172 : (ji16) < (l0.length : Int) := od
           obtain ⟨ad172, e172, hx172_0⟩ := Kd.at_int HR0.out (ji16) p172 q172
           have hw172_0 := hx172_0
           obtain rfl : ad167 = ad172 := (by injection e172)
           replace hx172_0 := (HB.out.cell (World.block_lt_of_cell? w _ hx172_0)).trans hx172_0
           replace p172 := eq_true p172
           replace q172 := eq_true q172
           have p173 : 0 ≤ ((ji13) : Int) := od
           have q173 : (ji13) < (l0.length : Int) := od
           obtain ⟨ad173, e173, hx173_0⟩ := Kd.at_int HR0.out (ji13) p173 q173
           have hw173_0 := hx173_0
           obtain rfl : ad167 = ad173 := (by injection e173)
           replace hx173_0 := (HB.out.cell (World.block_lt_of_cell? w _ hx173_0)).trans hx173_0
           replace p173 := eq_true p173
           replace q173 := eq_true q173
           refine start_ (n := 20) (S := fun w' => w'.cell? (ad167.add ((ji16)).toNat) = some (.int .i64 (rd l0 (ji16))) ∧ w'.cell? (ad167.add ((ji13)).toNat) = some (.int .i64 (rd l0 (ji13)))) (ds := []) #[false, false, false, false, false, false, false, false, false, false, false, false, false, false, false, false, false, false, false, false] (by kernel_rfl) rfl rfl ⟨((HB.out.cell (World.block_lt_of_cell? w _ hw172_0)).trans hw172_0), ((HB.out.cell (World.block_lt_of_cell? w _ hw173_0)).trans hw173_0)⟩ (fun hH => ?_); refine with_tabW Sp_parabola.tab7 Sp_parabola.bits7 (fun HT_ HW_ => ?_)
           generalize w25.drew = w26 at BK163 HB hx172_0 hx173_0 hH ⊢
           refine pZ 0 (some 39) (bs 20 1) HT_ ?_
           refine pZ 1 (some 40) (bs 20 3) HT_ ?_
           refine pZ 2 (some 41) (bs 20 7) HT_ ?_
           refine pZ 3 (some 42) (bs 20 15) HT_ ?_
           refine pZ 4 (some 43) (bs 20 31) HT_ ?_
           refine pZ 5 (some 44) (bs 20 63) HT_ ?_
           refine pZ 6 (some 45) (bs 20 127) HT_ ?_
           refine pZ 7 (some 46) (bs 20 255) HT_ ?_
           refine pZ 10 (some 49) (bs 20 1279) HT_ ?_
           refine pZ 11 (some 50) (bs 20 3327) HT_ ?_
           refine pZ 12 (some 51) (bs 20 7423) HT_ ?_
           refine pZ 13 (some 52) (bs 20 15615) HT_ ?_
           refine pZ 16 (some 55) (bs 20 81151) HT_ ?_
           refine pZ 17 (some 56) (bs 20 212223) HT_ ?_
           refine takeZ 8 (some 47) (bs 20 212479) (take_ofW HT_.out HW_.out (by kernel_rfl)) hH ?_
           refine pZ 9 (some 48) (bs 20 212991) HT_ ?_
           refine takeZ 14 (some 53) (bs 20 229375) (take_ofW HT_.out HW_.out (by kernel_rfl)) hH ?_
           refine pZ 15 (some 54) (bs 20 262143) HT_ ?_
           refine oneZ 18 (some 57) (bs 20 524287) (one_of HT_.out (by kernel_rfl)) fun K hK => ?_
           refine goes_ Tryd.func96 (by kernel_rfl) rfl #[.int .i64 (wrap64 ((wrap64 ((wrap64 ((wrap64 (2 * (wrap64 ((wrap64 ((wrap64 (2 * (rd l0 t164))) - (rd l0 (ji13)))) - (rd l0 (ji16)))))) * t164)) + (rd l0 (ji16)))) - (rd l0 (ji13)))), .int .i64 (wrap64 (2 * (wrap64 ((wrap64 ((wrap64 (2 * (rd l0 t164))) - (rd l0 (ji13)))) - (rd l0 (ji16))))))] (by rfl) rfl rfl (by (try simp only [List.map_toArray, List.map_cons, List.map_nil]); first | done | (simp only [hji13, hji16]; rfl) | rfl | (simp only [List.length_drop, List.length_take]; rfl)) ?_
           with_reducible refine (L_fraction.calls kj2 (wrap64 ((wrap64 ((wrap64 ((wrap64 (2 * (wrap64 ((wrap64 ((wrap64 (2 * (rd l0 t164))) - (rd l0 (ji13)))) - (rd l0 (ji16)))))) * t164)) + (rd l0 (ji16)))) - (rd l0 (ji13)))) (wrap64 (2 * (wrap64 ((wrap64 ((wrap64 (2 * (rd l0 t164))) - (rd l0 (ji13)))) - (rd l0 (ji16)))))) t174 t175 _ A24.out).mono ?_
           rintro e w27 ⟨rfl, hb⟩
           refine ⟨_, rfl, ?_⟩
           replace BK163 := bb BK163 hb; replace HB := sb HB hb
           (try clear hb)
           refine hK.out _ _ ⟨((HB.out.cell (World.block_lt_of_cell? w _ hw172_0)).trans hw172_0), ((HB.out.cell (World.block_lt_of_cell? w _ hw173_0)).trans hw173_0)⟩ (fun hH => ?_)
           clear hK K
           refine norm_ (a' := ?_) ?_ ?_
           rotate_left
           ·show Act.put _ (some 57) _ = _
            exact pz
           refine oneZ 19 (none) (bs 20 1048575) (one_of HT_.out (by kernel_rfl)) fun K hK => ?_
           have hs28 : w27.cell? ⟨gb163, 0, none⟩ = some (.int .i64 0) := (blk_cell BK163.out 0).trans rfl
           have hfs28 := blk_frozen BK163.out 0
           have hs29 : w27.cell? ⟨gb163, 1, none⟩ = some (.int .i64 0) := (blk_cell BK163.out 1).trans rfl
           have hfs29 := blk_frozen BK163.out 1
           refine skip_ (w1 := ?_) (by rfl) rfl ?_ ?_
           rotate_left
           ·go_simp
            rfl
           refine hK.out _ _ ⟨((cell_far (p := ⟨gb163, _, none⟩) (by first | exact Nat.ne_of_lt (Nat.lt_of_lt_of_le (by have := World.block_lt_of_cell? _ _ hw172_0; first | rwa [add_block] at this | exact this) GW163.out) | (rw [add_block]; exact Nat.ne_of_lt (Nat.lt_of_lt_of_le (by have := World.block_lt_of_cell? _ _ hw172_0; first | rwa [add_block] at this | exact this) GW163.out)) | (show (Addr.add _ _).block ≠ _; rw [add_block]; exact Nat.ne_of_lt (Nat.lt_of_lt_of_le (by have := World.block_lt_of_cell? _ _ hw172_0; first | rwa [add_block] at this | exact this) GW163.out)) | (dsimp only; exact Nat.ne_of_lt (Nat.lt_of_lt_of_le (by have := World.block_lt_of_cell? _ _ hw172_0; first | rwa [add_block] at this | exact this) GW163.out))) _).trans (((cell_far (p := ⟨gb163, _, none⟩) (by first | exact Nat.ne_of_lt (Nat.lt_of_lt_of_le (by have := World.block_lt_of_cell? _ _ hw172_0; first | rwa [add_block] at this | exact this) GW163.out) | (rw [add_block]; exact Nat.ne_of_lt (Nat.lt_of_lt_of_le (by have := World.block_lt_of_cell? _ _ hw172_0; first | rwa [add_block] at this | exact this) GW163.out)) | (show (Addr.add _ _).block ≠ _; rw [add_block]; exact Nat.ne_of_lt (Nat.lt_of_lt_of_le (by have := World.block_lt_of_cell? _ _ hw172_0; first | rwa [add_block] at this | exact this) GW163.out)) | (dsimp only; exact Nat.ne_of_lt (Nat.lt_of_lt_of_le (by have := World.block_lt_of_cell? _ _ hw172_0; first | rwa [add_block] at this | exact this) GW163.out))) _).trans (hH.1)))), ((cell_far (p := ⟨gb163, _, none⟩) (by first | exact Nat.ne_of_lt (Nat.lt_of_lt_of_le (by have := World.block_lt_of_cell? _ _ hw173_0; first | rwa [add_block] at this | exact this) GW163.out) | (rw [add_block]; exact Nat.ne_of_lt (Nat.lt_of_lt_of_le (by have := World.block_lt_of_cell? _ _ hw173_0; first | rwa [add_block] at this | exact this) GW163.out)) | (show (Addr.add _ _).block ≠ _; rw [add_block]; exact Nat.ne_of_lt (Nat.lt_of_lt_of_le (by have := World.block_lt_of_cell? _ _ hw173_0; first | rwa [add_block] at this | exact this) GW163.out)) | (dsimp only; exact Nat.ne_of_lt (Nat.lt_of_lt_of_le (by have := World.block_lt_of_cell? _ _ hw173_0; first | rwa [add_block] at this | exact this) GW163.out))) _).trans (((cell_far (p := ⟨gb163, _, none⟩) (by first | exact Nat.ne_of_lt (Nat.lt_of_lt_of_le (by have := World.block_lt_of_cell? _ _ hw173_0; first | rwa [add_block] at this | exact this) GW163.out) | (rw [add_block]; exact Nat.ne_of_lt (Nat.lt_of_lt_of_le (by have := World.block_lt_of_cell? _ _ hw173_0; first | rwa [add_block] at this | exact this) GW163.out)) | (show (Addr.add _ _).block ≠ _; rw [add_block]; exact Nat.ne_of_lt (Nat.lt_of_lt_of_le (by have := World.block_lt_of_cell? _ _ hw173_0; first | rwa [add_block] at this | exact this) GW163.out)) | (dsimp only; exact Nat.ne_of_lt (Nat.lt_of_lt_of_le (by have := World.block_lt_of_cell? _ _ hw173_0; first | rwa [add_block] at this | exact this) GW163.out))) _).trans (hH.2))))⟩ (fun hH => ?_)
           clear hK K
           refine done_ (done_of HT_.out (by kernel_rfl)) ?_
           try go_wp2
           refine bodyPost_ret (results_cell_row rfl _ _ gb163 26 #[.int .i64 t174, .int .i64 t175] (0, 0) _ rfl (bq BK163.out) Tryd.underlying26 rfl (by kernel_rfl)) rfl ?_
           exact ⟨by first | rfl | (simp [errW_none, errW_some] <;> rfl) | (simp only [← hji13, ← hji16]; first | rfl | (simp [errW_none, errW_some] <;> rfl)) | (simp [*, errW_none, errW_some] <;> rfl), by repeat (first | (with_reducible first | exact HB.out | apply below_alloc | apply pw_below_drewN | apply below_drew1 | refine below_set ?_ GE163.out) | exact HB.out)⟩
         ·rw [if_neg c18] at H
          exact absurd H (by simp)
        ·rw [if_neg c17] at H
         exact absurd H (by simp)
       ·rw [if_neg c15] at H
        exact absurd H (by simp)
      ·rw [if_neg c14] at H
       exact absurd H (by simp)
     ·rw [if_neg c12] at H
      exact absurd H (by simp)
    ·rw [if_neg c11] at H
     exact absurd H (by simp)
end
section
def Sp_median.l0 : Nat → Int → Int → List Int → Int → Int → Option (Int × Int)
 | 0, _, _, _, _, _ => none
 | k + 1, x3, x4, x9, x10, x11 => if x11 < x10 then (if 0 ≤ x11 then (if x11 < (x9.length : Int) then (if (wrap64 (2 * (wrap64 (x4 + (rd x9 x11))))) ≥ x3 then ((L_fraction.f k x11 1).bind fun bt179 => (some (bt179.1, bt179.2))) else (Sp_median.l0 k x3 (wrap64 (x4 + (rd x9 x11))) x9 x10 (wrap64 (x11 + 1)))) else (none)) else (none)) else ((L_fraction.f k 0 1).bind fun bt181 => (some (bt181.1, bt181.2)))
def Sp_median.f (k : Nat) (l0 : List Int) : Option (Int × Int) := (L_sum.f k l0).bind fun t177 => (Sp_median.l0 k t177 0 l0 (l0.length : Int) 0)
theorem Sp_median.mono_l : ∀ k, (∀ y0 y1 y2 y3 y4, LeO (Sp_median.l0 k y0 y1 y2 y3 y4) (Sp_median.l0 (k + 1) y0 y1 y2 y3 y4))
 | 0 => fun _ _ _ _ _ r h => by simp [Sp_median.l0] at h
 | k + 1 => by
  have ih0 := Sp_median.mono_l k
  ·intro y0 y1 y2 y3 y4
   unfold Sp_median.l0
   repeat' with_reducible first
    | exact ih0 ..
    | exact L_fraction.mono ..
    | exact L_sum.mono ..
    | exact LeO.refl ..
    | exact LeO.none ..
    | refine LeO.ite ?_ ?_
    | refine LeO.bind ?_ (fun _ => ?_)
theorem Sp_median.mono : ∀ a0 k, LeO (Sp_median.f k a0) (Sp_median.f (k + 1) a0) := by
 intro a0 k
 have ih0 := Sp_median.mono_l k
 unfold Sp_median.f
 repeat' with_reducible first
  | exact ih0 ..
  | exact L_fraction.mono ..
  | exact L_sum.mono ..
  | exact LeO.refl ..
  | exact LeO.none ..
  | refine LeO.ite ?_ ?_
  | refine LeO.bind ?_ (fun _ => ?_)
theorem Sp_median.calls (k : Nat) (A0 : Option Addr) (c0 : Nat) (l0 : List Int) (r1 : Int) (r2 : Int) (w : World) (hr0 : Kd.C (Kd.int .i64) w A0 l0.length l0) (hc0 : l0.length ≤ c0) (h : Sp_median.f k l0 = some (r1, r2)) :
  Calls Tryd.prog 195 #[.slice A0 l0.length c0] w fun e w' => e = .returned (.agg #[.int .i64 r1, .int .i64 r2]) ∧ Below w.heap.size w w' := by
 have hu26 := Tryd.underlying26
 have HR0 := m0 hr0
 have HC0 := m0 hc0
 clear hr0 hc0
 have HB := m0 (Below.refl w.heap.size w)
 have H : ((L_sum.f k l0).bind fun t177 => (Sp_median.l0 k t177 0 l0 (l0.length : Int) 0)) = some (r1, r2) := h
 clear h
 replace H := ob H
 obtain ⟨t177, A2, H⟩ := H
 (try dsimp only at H)
 replace A2 := m0 A2
 have H' := m0 H
 clear H
 go_enter Tryd.func195, Tryd.ntmps195
 go_wp2_with (first | ((with_reducible refine gate_dst (N := 2) rfl ?_); refine be 2 26 #[.int .i64 0, .int .i64 0] ?_; intro gb176 hg w3 hbox hb; have BK176 := m0 hbox; have GE176 := gw w hg; replace HB := sb HB hb; clear hb hbox hg) | ((with_reducible refine gate_callee (f := 125) rfl ?_); refine gl (some 8) Tryd.func125 #[.slice A0 l0.length c0] ?_; (with_reducible refine (L_sum.calls k _ _ l0 t177 _ ?side1 ?side2 A2.out).mono ?_); (case side1 => exact cb HR0 HB); (case side2 => exact HC0.out); rintro e w' ⟨rfl, ⟨nd, rfl⟩⟩; refine ⟨_, rfl, ?_⟩))
 go_loopg [4, 11] k (fun kq v4 v11 w' => ∃ (x4_1 : Int) (x11_1 : Int) (x177000_1 : Int) (x177001_1 : Int), v4 = .int .i64 x4_1 ∧ v11 = .int .i64 x11_1 ∧ Aside0 (Sp_median.l0 kq t177 x4_1 l0 (l0.length : Int) x11_1 = some (r1, r2)) ∧ Aside0 (kq ≤ k) ∧ Aside0 (w'.heap[gb176]? = some (.cells #[.int .i64 x177000_1, .int .i64 x177001_1] 26 (0, 0))) ∧ Aside0 (Below w.heap.size w w'))
 case atStart => exact ⟨(0), (0), (0), (0), (by first | rfl | (simp; done) | (simp [*]; done)), (by first | rfl | (simp; done) | (simp [*]; done)), H', ⟨Nat.le_refl _⟩, ⟨bk BK176.out⟩, ⟨bz⟩⟩
 case round =>
  clear H'
  obtain ⟨x4_1, x11_1, x177000_1, x177001_1, rfl, rfl, HA, HK1, BK176, HB⟩ := hrel
  cases gk with
  | zero => exact absurd HA.out (by simp [Sp_median.l0])
  | succ k1 =>
   have H := HA.out
   clear HA
   simp only [Sp_median.l0] at H
   by_cases c4 : x11_1 < (l0.length : Int)
   ·rw [if_pos c4] at H
    have c4b0 := decide_eq_true c4
    clear c4
    by_cases c5 : 0 ≤ x11_1
    ·rw [if_pos c5] at H
     have c5b0 := decide_eq_true c5
     clear c5
     by_cases c6 : x11_1 < (l0.length : Int)
     ·rw [if_pos c6] at H
      have c6b0 := decide_eq_true c6
      clear c6
      by_cases c7 : (wrap64 (2 * (wrap64 (x4_1 + (rd l0 x11_1))))) ≥ t177
      ·rw [if_pos c7] at H
       have c7b0 := decide_eq_true c7
       clear c7
       replace H := ob H
       obtain ⟨⟨t179, t180⟩, A8, H⟩ := H
       (try dsimp only at H)
       replace A8 := m0 A8
       simp only [Option.some.injEq, Prod.mk.injEq] at H
       obtain ⟨rfl, rfl⟩ := H
       have p178 : 0 ≤ (x11_1 : Int) := od
       have q178 : x11_1 < (l0.length : Int) := od
       obtain ⟨ad178, e178, hx178_0⟩ := Kd.at_int HR0.out x11_1 p178 q178
       cases e178
       replace hx178_0 := (HB.out.cell (World.block_lt_of_cell? w _ hx178_0)).trans hx178_0
       replace p178 := eq_true p178
       replace q178 := eq_true q178
       go_wp2_with (first | ((with_reducible refine gate_callee (f := 96) rfl ?_); refine gl (some 24) Tryd.func96 #[.int .i64 x11_1, .int .i64 1] ?_; (with_reducible refine (L_fraction.calls k1 x11_1 1 t179 t180 _ A8.out).mono ?_); rintro e w9 ⟨rfl, hb⟩; refine ⟨_, rfl, ?_⟩; replace BK176 := bb BK176 hb; replace HB := sb HB hb; (try clear hb); obtain ⟨_, _, _, _⟩ := b2 BK176))
       refine bodyPost_ret (results_cell_row rfl _ _ gb176 26 #[.int .i64 t179, .int .i64 t180] (0, 0) _ rfl (bq BK176.out) Tryd.underlying26 rfl (by kernel_rfl)) rfl ?_
       exact ez
      ·rw [if_neg c7] at H
       have c7b0 := decide_eq_false c7
       clear c7
       have H' := m0 H
       clear H
       have p178 : 0 ≤ (x11_1 : Int) := od
       have q178 : x11_1 < (l0.length : Int) := od
       obtain ⟨ad178, e178, hx178_0⟩ := Kd.at_int HR0.out x11_1 p178 q178
       cases e178
       replace hx178_0 := (HB.out.cell (World.block_lt_of_cell? w _ hx178_0)).trans hx178_0
       replace p178 := eq_true p178
       replace q178 := eq_true q178
       go_wp2
       go_roundg k1
       case measure => have := HK1.out; omega
       case rel => exact ⟨(wrap64 (x4_1 + (rd l0 x11_1))), (wrap64 (x11_1 + 1)), (x177000_1), (x177001_1), (by first | rfl | (simp; done) | (simp [*]; done)), (by first | rfl | (simp; done) | (simp [*]; done)), H', ⟨by have := HK1.out; omega⟩, ⟨bk BK176.out⟩, ⟨bz⟩⟩
     ·rw [if_neg c6] at H
      exact absurd H (by simp)
    ·rw [if_neg c5] at H
     exact absurd H (by simp)
   ·rw [if_neg c4] at H
    have c4b0 := decide_eq_false c4
    clear c4
    replace H := ob H
    obtain ⟨⟨t181, t182⟩, A11, H⟩ := H
    (try dsimp only at H)
    replace A11 := m0 A11
    simp only [Option.some.injEq, Prod.mk.injEq] at H
    obtain ⟨rfl, rfl⟩ := H
    go_wp2_with (first | ((with_reducible refine gate_callee (f := 96) rfl ?_); refine gl (some 26) Tryd.func96 #[.int .i64 0, .int .i64 1] ?_; (with_reducible refine (L_fraction.calls k1 0 1 t181 t182 _ A11.out).mono ?_); rintro e w12 ⟨rfl, hb⟩; refine ⟨_, rfl, ?_⟩; replace BK176 := bb BK176 hb; replace HB := sb HB hb; (try clear hb); obtain ⟨_, _, _, _⟩ := b2 BK176))
    refine bodyPost_ret (results_cell_row rfl _ _ gb176 26 #[.int .i64 t181, .int .i64 t182] (0, 0) _ rfl (bq BK176.out) Tryd.underlying26 rfl (by kernel_rfl)) rfl ?_
    exact ez
end
section
def Sp_estimate.f (k : Nat) (l0 : List Int) (a1 : Int) : Option (Int × Int) :=
 (Sp_int_106.f k l0).bind fun m => if m = 0 then L_fraction.f k 0 1 else if a1 = 0 then Sp_highest.f k l0 else if a1 = 1 then Sp_whole.f k l0 else if a1 = 2 then Sp_parabola.f k l0 else if a1 = 3 then Sp_median.f k l0 else none
theorem Sp_estimate.mono : ∀ a0 a1 k, LeO (Sp_estimate.f k a0 a1) (Sp_estimate.f (k + 1) a0 a1) := by
 intro a0 a1 k
 unfold Sp_estimate.f
 repeat' first
  | (with_reducible exact LeO.refl _)
  | (with_reducible exact LeO.none _)
  | (with_reducible refine LeO.ite ?_ ?_)
  | (with_reducible refine LeO.bind ?_ (fun _ => ?_))
  | exact Sp_int_106.mono _ _
  | exact L_fraction.mono _ _ _
  | exact Sp_highest.mono _ _
  | exact Sp_whole.mono _ _
  | exact Sp_parabola.mono _ _
  | exact Sp_median.mono _ _
theorem Sp_estimate.via (k : Nat) (A0 : Option Addr) (c0 : Nat) (l0 : List Int) (a1 : Int) (r1 r2 m : Int) (w : World) (g j : Nat) (hj : a1 = j) (hj4 : j < 4) (hm : Sp_int_106.f k l0 = some m) (hm0 : m ≠ 0)
  (hr0 : Kd.C (Kd.int .i64) w A0 l0.length l0) (hc0 : l0.length ≤ c0) (hg : w.cell? ⟨0, j, none⟩ = some (.func (.func g) #[] #[]))
  (eg : ∀ args w, (callFunc g args).run Tryd.prog w = .ok (.enter g args) w)
  (hcall : ∀ W : World, Below w.heap.size w W → Calls Tryd.prog g #[.slice A0 l0.length c0] W fun e w' => e = .returned (.agg #[.int .i64 r1, .int .i64 r2]) ∧ Below W.heap.size W w') :
  Calls Tryd.prog 95 #[.slice A0 l0.length c0, .int .i64 a1] w fun e w' => e = .returned (.agg #[.int .i64 r1, .int .i64 r2]) ∧ Below w.heap.size w w' := by
 have hu26 := Tryd.underlying26
 have HR0 := m0 hr0
 have HC0 := m0 hc0
 have HG := m0 hg
 have HM := m0 hm
 have HCALL := m0 hcall
 clear hr0 hc0 hg hm hcall
 have HB := m0 (Below.refl w.heap.size w)
 have t1 : (m == 0) = false := beq_eq_false_iff_ne.mpr hm0
 have ha0 : 0 ≤ a1 := by omega
 have ha4 : a1 < 4 := by omega
 have HJ := m0 (show a1.toNat = j by omega)
 clear hj hj4 hm0
 go_enter Tryd.func95, Tryd.ntmps95
 go_wp2_with (first | ((with_reducible refine gate_dst (N := 4) rfl ?_); refine be 4 26 #[.int .i64 0, .int .i64 0] ?_; intro gb hg w4 hbox hb; have n0_ := m0 (below_step HB.out hb); have n1_ := m0 hbox; have n2_ := m0 ((by rw [hg]; exact (below_size HB.out)) : w.heap.size ≤ gb); clear HB; have HB := n0_; have BK := n1_; have GE := n2_; clear n0_ n1_ n2_ hb hbox hg) | (go_at_call 106; (with_reducible refine (Sp_int_106.calls k _ _ l0 m _ ?side1 ?side2 HM.out).mono ?_); (case side1 => exact Kd.C_below HR0.out HB.out); (case side2 => exact HC0.out); rintro e w5 ⟨rfl, hb⟩; have n0_ := m0 (blk_below (g := gb) (o := .cells #[.int .i64 0, .int .i64 0] 26 (0, 0)) BK.out hb); have n1_ := m0 (below_step HB.out hb); clear BK; clear HB; have BK := n0_; have HB := n1_; clear n0_ n1_ hb; have hT : w5.cell? ⟨0, a1.toNat, none⟩ = some (.func (.func g) #[] #[]) := (by rw [HJ.out]; exact pw_cell_below HB.out HG.out)) | (go_at_fn g; refine (HCALL.out _ HB.out).mono ?_; rintro e w6 ⟨rfl, hb⟩; have n0_ := m0 (blk_below (g := gb) (o := .cells #[.int .i64 0, .int .i64 0] 26 (0, 0)) BK.out hb); have n1_ := m0 (below_step HB.out hb); clear BK; clear HB; have BK := n0_; have HB := n1_; clear n0_ n1_ hb; have hcz7_0 : w6.cell? ⟨gb, 0, none⟩ = some (.int .i64 0) := (blk_cell BK.out 0).trans rfl; have hcz7_1 : w6.cell? ⟨gb, 1, none⟩ = some (.int .i64 0) := (blk_cell BK.out 1).trans rfl; have hfz7_0 := blk_frozen BK.out 0; have hfz7_1 := blk_frozen BK.out 1))
 refine bodyPost_ret (results_cell_row rfl _ _ gb 26 #[.int .i64 r1, .int .i64 r2] (0, 0) _ rfl (by (with_reducible repeat (first | refine blk_drewN ?_ _ | refine blk_drew ?_ | refine blk_alloc ?_ _)); refine blk_put (cs := #[.int .i64 r1, .int .i64 0]) ?_ 1 _ rfl; (with_reducible repeat (first | refine blk_drewN ?_ _ | refine blk_drew ?_ | refine blk_alloc ?_ _)); refine blk_put (cs := #[.int .i64 0, .int .i64 0]) ?_ 0 _ rfl; (with_reducible repeat (first | refine blk_drewN ?_ _ | refine blk_drew ?_ | refine blk_alloc ?_ _)); exact BK.out) Tryd.underlying26 rfl (by kernel_rfl)) rfl ?_
 exact ⟨rfl, by repeat (first | (with_reducible first | exact HB.out | apply below_alloc | apply pw_below_drewN | apply below_drew1 | refine below_set ?_ GE.out) | exact HB.out)⟩
theorem Sp_estimate.flat (k : Nat) (A0 : Option Addr) (c0 : Nat) (l0 : List Int) (a1 : Int) (r1 r2 m : Int) (w : World) (hm : Sp_int_106.f k l0 = some m) (hm0 : m = 0)
  (hr0 : Kd.C (Kd.int .i64) w A0 l0.length l0) (hc0 : l0.length ≤ c0)
  (hcall : ∀ W : World, Below w.heap.size w W → Calls Tryd.prog 96 #[.int .i64 0, .int .i64 1] W fun e w' => e = .returned (.agg #[.int .i64 r1, .int .i64 r2]) ∧ Below W.heap.size W w') :
  Calls Tryd.prog 95 #[.slice A0 l0.length c0, .int .i64 a1] w fun e w' => e = .returned (.agg #[.int .i64 r1, .int .i64 r2]) ∧ Below w.heap.size w w' := by
 have hu26 := Tryd.underlying26
 have HR0 := m0 hr0
 have HC0 := m0 hc0
 have HM := m0 hm
 have HCALL := m0 hcall
 clear hr0 hc0 hm hcall
 have HB := m0 (Below.refl w.heap.size w)
 have t1 : (m == 0) = true := beq_iff_eq.mpr hm0
 clear hm0
 go_enter Tryd.func95, Tryd.ntmps95
 go_wp2_with (first | ((with_reducible refine gate_dst (N := 4) rfl ?_); refine be 4 26 #[.int .i64 0, .int .i64 0] ?_; intro gb hg w4 hbox hb; have n0_ := m0 (below_step HB.out hb); have n1_ := m0 hbox; have n2_ := m0 ((by rw [hg]; exact (below_size HB.out)) : w.heap.size ≤ gb); clear HB; have HB := n0_; have BK := n1_; have GE := n2_; clear n0_ n1_ n2_ hb hbox hg) | (go_at_call 106; (with_reducible refine (Sp_int_106.calls k _ _ l0 m _ ?side1 ?side2 HM.out).mono ?_); (case side1 => exact Kd.C_below HR0.out HB.out); (case side2 => exact HC0.out); rintro e w5 ⟨rfl, hb⟩; have n0_ := m0 (blk_below (g := gb) (o := .cells #[.int .i64 0, .int .i64 0] 26 (0, 0)) BK.out hb); have n1_ := m0 (below_step HB.out hb); clear BK; clear HB; have BK := n0_; have HB := n1_; clear n0_ n1_ hb) | (go_at_call 96; refine (HCALL.out _ HB.out).mono ?_; rintro e w6 ⟨rfl, hb⟩; have n0_ := m0 (blk_below (g := gb) (o := .cells #[.int .i64 0, .int .i64 0] 26 (0, 0)) BK.out hb); have n1_ := m0 (below_step HB.out hb); clear BK; clear HB; have BK := n0_; have HB := n1_; clear n0_ n1_ hb; have hcz7_0 : w6.cell? ⟨gb, 0, none⟩ = some (.int .i64 0) := (blk_cell BK.out 0).trans rfl; have hcz7_1 : w6.cell? ⟨gb, 1, none⟩ = some (.int .i64 0) := (blk_cell BK.out 1).trans rfl; have hfz7_0 := blk_frozen BK.out 0; have hfz7_1 := blk_frozen BK.out 1))
 refine bodyPost_ret (results_cell_row rfl _ _ gb 26 #[.int .i64 r1, .int .i64 r2] (0, 0) _ rfl (by (with_reducible repeat (first | refine blk_drewN ?_ _ | refine blk_drew ?_ | refine blk_alloc ?_ _)); refine blk_put (cs := #[.int .i64 r1, .int .i64 0]) ?_ 1 _ rfl; (with_reducible repeat (first | refine blk_drewN ?_ _ | refine blk_drew ?_ | refine blk_alloc ?_ _)); refine blk_put (cs := #[.int .i64 0, .int .i64 0]) ?_ 0 _ rfl; (with_reducible repeat (first | refine blk_drewN ?_ _ | refine blk_drew ?_ | refine blk_alloc ?_ _)); exact BK.out) Tryd.underlying26 rfl (by kernel_rfl)) rfl ?_
 exact ⟨rfl, by repeat (first | (with_reducible first | exact HB.out | apply below_alloc | apply pw_below_drewN | apply below_drew1 | refine below_set ?_ GE.out) | exact HB.out)⟩
theorem Sp_estimate.calls (k : Nat) (A0 : Option Addr) (c0 : Nat) (l0 : List Int) (a1 : Int) (r1 r2 : Int) (w : World) (hr0 : Kd.C (Kd.int .i64) w A0 l0.length l0) (hc0 : l0.length ≤ c0) (hG : EstG w) (h : Sp_estimate.f k l0 a1 = some (r1, r2)) :
  Calls Tryd.prog 95 #[.slice A0 l0.length c0, .int .i64 a1] w fun e w' => e = .returned (.agg #[.int .i64 r1, .int .i64 r2]) ∧ Below w.heap.size w w' := by
 unfold Sp_estimate.f at h
 obtain ⟨m, hm, h⟩ := Option.bind_eq_some_iff.mp h
 by_cases h0 : m = 0
 ·rw [if_pos h0] at h
  exact Sp_estimate.flat k A0 c0 l0 a1 r1 r2 m w hm h0 hr0 hc0 fun W _ => L_fraction.calls k 0 1 r1 r2 W h
 ·rw [if_neg h0] at h
  by_cases e0 : a1 = 0
  ·rw [if_pos e0] at h
   exact Sp_estimate.via k A0 c0 l0 a1 r1 r2 m w _ 0 e0 (by decide) hm h0 hr0 hc0 hG.1 (enters_of Tryd.func192 (by kernel_rfl) rfl) fun W hb => Sp_highest.calls k A0 c0 l0 r1 r2 W (Kd.C_below hr0 hb) hc0 h
  rw [if_neg e0] at h
  by_cases e1 : a1 = 1
  ·rw [if_pos e1] at h
   exact Sp_estimate.via k A0 c0 l0 a1 r1 r2 m w _ 1 e1 (by decide) hm h0 hr0 hc0 hG.2.1 (enters_of Tryd.func193 (by kernel_rfl) rfl) fun W hb => Sp_whole.calls k A0 c0 l0 r1 r2 W (Kd.C_below hr0 hb) hc0 h
  rw [if_neg e1] at h
  by_cases e2 : a1 = 2
  ·rw [if_pos e2] at h
   exact Sp_estimate.via k A0 c0 l0 a1 r1 r2 m w _ 2 e2 (by decide) hm h0 hr0 hc0 hG.2.2.1 (enters_of Tryd.func194 (by kernel_rfl) rfl) fun W hb => Sp_parabola.calls k A0 c0 l0 r1 r2 W (Kd.C_below hr0 hb) hc0 h
  rw [if_neg e2] at h
  by_cases e3 : a1 = 3
  ·rw [if_pos e3] at h
   exact Sp_estimate.via k A0 c0 l0 a1 r1 r2 m w _ 3 e3 (by decide) hm h0 hr0 hc0 hG.2.2.2 (enters_of Tryd.func195 (by kernel_rfl) rfl) fun W hb => Sp_median.calls k A0 c0 l0 r1 r2 W (Kd.C_below hr0 hb) hc0 h
  rw [if_neg e3] at h
  exact absurd h (by simp)
end
end Go.Proofs.YtjnkphmcndaijaaDoor.A
