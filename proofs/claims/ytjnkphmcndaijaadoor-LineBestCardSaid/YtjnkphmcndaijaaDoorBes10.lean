/- Walks of the program's functions (printed, made shorter), each with what it computes. -/
import Derived.Test.YtjnkphmcndaijaaDoorBes04
import Derived.Test.YtjnkphmcndaijaaDoorBes09
import Derived.Test.YtjnkphmcndaijaaDoorBes03
import Derived.Test.YtjnkphmcndaijaaDoorBes06
import Derived.Shelf.Abstract
namespace Go.Proofs.YtjnkphmcndaijaaDoor.A
set_option maxHeartbeats 8000000
set_option maxRecDepth 100000
open Go.RowKit Go.Proofs.YtjnkphmcndaijaaDoorW.PrintWords Go.Proofs.YtjnkphmcndaijaaDoorW.PrintLast Go.Proofs.YtjnkphmcndaijaaDoorW.PrintMore
attribute [local go_sem] max2_int min2_int max_two min_two max_three min_three max_four min_four
set_option linter.unusedVariables false
set_option linter.unusedSimpArgs false
section
def Bs_Lowest.f (k : Nat) (a0 : Int) (a1 : Int) : Option (Int × Int) := (Bs_Gcd.f k a0 a1).bind fun t241 => (if a1 < 0 then (if (wrap64 (-t241)) = 0 then (none) else (some (wrap64 (Int.tdiv a0 (wrap64 (-t241))), wrap64 (Int.tdiv a1 (wrap64 (-t241)))))) else (if t241 = 0 then (none) else (some (wrap64 (Int.tdiv a0 t241), wrap64 (Int.tdiv a1 t241)))))
theorem Bs_Lowest.mono : ∀ a0 a1 k, LeO (Bs_Lowest.f k a0 a1) (Bs_Lowest.f (k + 1) a0 a1) := by
 intro a0 a1 k
 unfold Bs_Lowest.f
 repeat' first
   | (with_reducible exact Bs_Gcd.mono _ _ _)
   | (with_reducible exact LeO.refl _)
   | (with_reducible exact LeO.none _)
   | (with_reducible refine LeO.ite ?_ ?_)
   | (with_reducible refine LeO.bind ?_ (fun _ => ?_))
   | exact Bs_Gcd.mono _ _ _
   | exact LeO.none _
   | refine LeO.ite ?_ ?_
   | refine LeO.bind ?_ (fun _ => ?_)
def Bs_Lowest.T4 : Bool × List (List Nat × List Nat) := (true, [([], []), ([], []), ([0, 1], [0, 1]), ([], []), ([], []), ([3, 4], [3, 4]), ([2, 5], [2, 5]), ([6, 0, 1, 2, 3, 4, 5, 6], [6])])
def Bs_Lowest.B4 : List Nat := [0, 0, 3, 0, 0, 24, 63, 127]
theorem Bs_Lowest.tab4 : rtab .any (opsOf Tryd.f41 4) = Bs_Lowest.T4 := by kernel_rfl
theorem Bs_Lowest.bits4 : waitsOk Bs_Lowest.T4.2 Bs_Lowest.B4 = true := by kernel_rfl
theorem Bs_Lowest.calls (k : Nat) (a0 : Int) (a1 : Int) (r1 : Int) (r2 : Int) (w : World) (h : Bs_Lowest.f k a0 a1 = some (r1, r2)) :
  Calls Tryd.prog 41 #[.int .i64 a0, .int .i64 a1] w fun e w' => e = .returned (.agg #[.int .i64 r1, .int .i64 r2]) ∧ Below w.heap.size w w' := by
 have hu26 := Tryd.underlying26
 have HB := m0 (Below.refl w.heap.size w)
 have H : ((Bs_Gcd.f k a0 a1).bind fun t241 => (if a1 < 0 then (if (wrap64 (-t241)) = 0 then (none) else (some (wrap64 (Int.tdiv a0 (wrap64 (-t241))), wrap64 (Int.tdiv a1 (wrap64 (-t241)))))) else (if t241 = 0 then (none) else (some (wrap64 (Int.tdiv a0 t241), wrap64 (Int.tdiv a1 t241)))))) = some (r1, r2) := h
 clear h
 replace H := ob H
 obtain ⟨t241, A30, H⟩ := H
 (try dsimp only at H)
 have A3 := m0 A30
 clear A30
 by_cases c4 : a1 < 0
 ·rw [if_pos c4] at H
  have c4b0 := decide_eq_true c4
  clear c4
  by_cases c5 : (wrap64 (-t241)) = 0
  ·rw [if_pos c5] at H
   exact absurd H (by simp)
  ·rw [if_neg c5] at H
   have c5b0 := beq_eq_false_iff_ne.mpr c5
   have c5b1 := bne_iff_ne.mpr c5
   simp only [Option.some.injEq, Prod.mk.injEq] at H
   obtain ⟨rfl, rfl⟩ := H
   go_enter Tryd.func41, Tryd.ntmps41
   try go_wp2_with (first | ((with_reducible refine gate_dst (N := 4) rfl ?_); refine be 4 26 #[.int .i64 0, .int .i64 0] ?_; intro gb240 hg w6 hbox hb; have BK240 := m0 hbox; have GW240 := m0 (bg (n := w.heap.size) hg); have GE240 := m0 (bg (n := w.heap.size) hg); replace HB := sb HB hb; clear hb hbox hg) | ((with_reducible refine gate_callee (f := 104) rfl ?_); refine gl (some 8) Tryd.func104 #[.int .i64 a0, .int .i64 a1] ?_; (with_reducible refine (Bs_Gcd.calls k a0 a1 t241 _ A3.out).mono ?_); rintro e w7 ⟨rfl, hb⟩; refine ⟨_, rfl, ?_⟩; replace BK240 := bb BK240 hb; replace HB := sb HB hb; (try clear hb)))
   replace BK240 := bd BK240; replace HB := sd HB
   refine start_ (n := 8) (S := fun w' => True) (ds := []) #[false, false, false, false, false, false, false, false] (by kernel_rfl) rfl rfl trivial (fun hHeld => ?_); refine with_tabW Bs_Lowest.tab4 Bs_Lowest.bits4 (fun HT_ HW_ => ?_)
   generalize w7.drew = w8 at BK240 HB hHeld ⊢
   refine pureZ (i := 0) (N := some 13) #[true, false, false, false, false, false, false, false] HT_ ?_
   refine pureZ (i := 1) (N := some 14) #[true, true, false, false, false, false, false, false] HT_ ?_
   refine pureZ (i := 2) (N := some 15) #[true, true, true, false, false, false, false, false] HT_ ?_
   refine pureZ (i := 3) (N := some 16) #[true, true, true, true, false, false, false, false] HT_ ?_
   refine pureZ (i := 4) (N := some 17) #[true, true, true, true, true, false, false, false] HT_ ?_
   refine pureZ (i := 5) (N := some 18) #[true, true, true, true, true, true, false, false] HT_ ?_
   refine pureZ (i := 6) (N := some 19) #[true, true, true, true, true, true, true, false] HT_ ?_
   refine oneZ 7 (none) #[true, true, true, true, true, true, true, true] (one_of HT_.out (by kernel_rfl)) fun K hK => ?_
   have hs9 : w8.cell? ⟨gb240, 0, none⟩ = some (.int .i64 0) := (blk_cell BK240.out 0).trans rfl
   have hfs9 := blk_frozen BK240.out 0
   have hs10 : w8.cell? ⟨gb240, 1, none⟩ = some (.int .i64 0) := (blk_cell BK240.out 1).trans rfl
   have hfs10 := blk_frozen BK240.out 1
   refine skip_ (w1 := ?_) (by rfl) rfl ?_ ?_
   rotate_left
   ·go_simp
    rfl
   refine hK.out _ _ trivial (fun hHeld => ?_)
   clear hK K
   refine done_ (done_of HT_.out (by kernel_rfl)) ?_
   try go_wp2
   refine bodyPost_ret (results_cell_row rfl _ _ gb240 26 #[.int .i64 (wrap64 (Int.tdiv a0 (wrap64 (-t241)))), .int .i64 (wrap64 (Int.tdiv a1 (wrap64 (-t241))))] (0, 0) _ rfl (bq BK240.out) Tryd.underlying26 rfl (by kernel_rfl)) rfl ?_
   exact ez
 ·rw [if_neg c4] at H
  have c4b0 := decide_eq_false c4
  clear c4
  by_cases c11 : t241 = 0
  ·rw [if_pos c11] at H
   exact absurd H (by simp)
  ·rw [if_neg c11] at H
   have c11b0 := beq_eq_false_iff_ne.mpr c11
   have c11b1 := bne_iff_ne.mpr c11
   simp only [Option.some.injEq, Prod.mk.injEq] at H
   obtain ⟨rfl, rfl⟩ := H
   go_enter Tryd.func41, Tryd.ntmps41
   try go_wp2_with (first | ((with_reducible refine gate_dst (N := 4) rfl ?_); refine be 4 26 #[.int .i64 0, .int .i64 0] ?_; intro gb240 hg w12 hbox hb; have BK240 := m0 hbox; have GW240 := m0 (bg (n := w.heap.size) hg); have GE240 := m0 (bg (n := w.heap.size) hg); replace HB := sb HB hb; clear hb hbox hg) | ((with_reducible refine gate_callee (f := 104) rfl ?_); refine gl (some 8) Tryd.func104 #[.int .i64 a0, .int .i64 a1] ?_; (with_reducible refine (Bs_Gcd.calls k a0 a1 t241 _ A3.out).mono ?_); rintro e w13 ⟨rfl, hb⟩; refine ⟨_, rfl, ?_⟩; replace BK240 := bb BK240 hb; replace HB := sb HB hb; (try clear hb)))
   replace BK240 := bd BK240; replace HB := sd HB
   refine start_ (n := 8) (S := fun w' => True) (ds := []) #[false, false, false, false, false, false, false, false] (by kernel_rfl) rfl rfl trivial (fun hHeld => ?_); refine with_tabW Bs_Lowest.tab4 Bs_Lowest.bits4 (fun HT_ HW_ => ?_)
   generalize w13.drew = w14 at BK240 HB hHeld ⊢
   refine pureZ (i := 0) (N := some 13) #[true, false, false, false, false, false, false, false] HT_ ?_
   refine pureZ (i := 1) (N := some 14) #[true, true, false, false, false, false, false, false] HT_ ?_
   refine pureZ (i := 2) (N := some 15) #[true, true, true, false, false, false, false, false] HT_ ?_
   refine pureZ (i := 3) (N := some 16) #[true, true, true, true, false, false, false, false] HT_ ?_
   refine pureZ (i := 4) (N := some 17) #[true, true, true, true, true, false, false, false] HT_ ?_
   refine pureZ (i := 5) (N := some 18) #[true, true, true, true, true, true, false, false] HT_ ?_
   refine pureZ (i := 6) (N := some 19) #[true, true, true, true, true, true, true, false] HT_ ?_
   refine oneZ 7 (none) #[true, true, true, true, true, true, true, true] (one_of HT_.out (by kernel_rfl)) fun K hK => ?_
   have hs15 : w14.cell? ⟨gb240, 0, none⟩ = some (.int .i64 0) := (blk_cell BK240.out 0).trans rfl
   have hfs15 := blk_frozen BK240.out 0
   have hs16 : w14.cell? ⟨gb240, 1, none⟩ = some (.int .i64 0) := (blk_cell BK240.out 1).trans rfl
   have hfs16 := blk_frozen BK240.out 1
   refine skip_ (w1 := ?_) (by rfl) rfl ?_ ?_
   rotate_left
   ·go_simp
    rfl
   refine hK.out _ _ trivial (fun hHeld => ?_)
   clear hK K
   refine done_ (done_of HT_.out (by kernel_rfl)) ?_
   try go_wp2
   refine bodyPost_ret (results_cell_row rfl _ _ gb240 26 #[.int .i64 (wrap64 (Int.tdiv a0 t241)), .int .i64 (wrap64 (Int.tdiv a1 t241))] (0, 0) _ rfl (bq BK240.out) Tryd.underlying26 rfl (by kernel_rfl)) rfl ?_
   exact ez
end
section
def line_thresholdErr.f (a0 : Int) : Option (Int) := (line_within.f a0 0 11000).bind fun t242 => ((line_unless.f t242 2).bind fun t243 => (some t243))
theorem line_thresholdErr.calls (a0 : Int) (r : Int) (w : World) (h : line_thresholdErr.f a0 = some r) :
  Calls Tryd.prog 100 #[.int .i64 a0] w fun e w' => e = .returned (.int .i64 r) ∧ Drawn0 w w' := by
 have H : ((line_within.f a0 0 11000).bind fun t242 => ((line_unless.f t242 2).bind fun t243 => (some t243))) = some r := h
 clear h
 replace H := ob H
 obtain ⟨t242, A20, H⟩ := H
 (try dsimp only at H)
 have A2 := m0 A20
 clear A20
 replace H := ob H
 obtain ⟨t243, A30, H⟩ := H
 (try dsimp only at H)
 have A3 := m0 A30
 clear A30
 obtain rfl := Option.some.inj H
 go_enter Tryd.func100, Tryd.ntmps100
 go_wp2_with (first | ((with_reducible refine gate_callee (f := 105) rfl ?_); refine gl (some 4) Tryd.func105 #[.int .i64 a0, .int .i64 0, .int .i64 11000] ?_; (with_reducible refine (line_within.calls a0 0 11000 t242 _ A2.out).mono ?_); rintro e w' ⟨rfl, ⟨nd, rfl⟩⟩; refine ⟨_, rfl, ?_⟩) | ((with_reducible refine gate_callee (f := 93) rfl ?_); refine gl (some 5) Tryd.func93 #[.bool t242, .int .i64 2] ?_; (with_reducible refine (line_unless.calls t242 2 t243 _ A3.out).mono ?_); rintro e w' ⟨rfl, ⟨nd, rfl⟩⟩; refine ⟨_, rfl, ?_⟩))
 go_ret
 exact ⟨by first | rfl | (simp; done) | (simp [*]; done), by repeat (first | exact Drawn0.refl _ | apply Drawn0.step)⟩
end
section
theorem Sp_int_133.own (g : Nat) (lb : Array Value) (eg : ∀ args w, (callFunc g args).run Tryd.prog w = .ok (.enter g args) w) (p : Int → Bool) (A0 : Option Addr) (c0 : Nat) (l0 : List Int) (w : World) (hp : PredI g lb p w) (hr0 : Kd.C (Kd.int .i64) w A0 l0.length l0) :
  Calls Tryd.prog 133 #[.slice A0 l0.length c0, .func (.func g) #[] lb] w fun e w' => e = .returned (.int .i64 (idxF p l0)) ∧ Drawn0 w w' := by
 have HR0 := m0 hr0
 have HL := m0 (show (l0.length : Int) ≤ 9223372036854775807 from by have := hr0.2.1; omega)
 clear hr0
 have hpAt : ∀ (x : Int) (q : Nat), Calls Tryd.prog g (#[.int .i64 x] ++ lb) (w.drewN q) fun e w' => e = .returned (.bool (p x)) ∧ ∃ q', w' = (w.drewN q).drewN q' := fun x q => hp _ x (pw_below_drewN (Below.refl _ w) q)
 have HP := m0 hpAt
 clear hpAt hp
 go_enter Tryd.func133, Tryd.ntmps133
 go_wp2
 go_loopg [5, 8] l0.length (fun gg _ s8 wr => ∃ x : Int, s8 = .int .i64 x ∧ Aside0 (0 ≤ x ∧ x ≤ l0.length ∧ (l0.length : Int) - x ≤ gg ∧ ∀ j : Nat, (j : Int) < x → p (rd l0 j) = false) ∧ Drawn0 w wr)
 case atStart => exact ⟨0, rfl, ⟨by omega, by omega, by omega, fun j hj => by omega⟩, Drawn0.refl _⟩
 case round =>
  obtain ⟨x, rfl, HA, ⟨q, rfl⟩⟩ := hrel
  by_cases hlt : x < (l0.length : Int)
  ·obtain ⟨ad, e, hx⟩ := Kd.at_int HR0.out x HA.out.1 hlt
   cases e
   have c1 : decide (x < (l0.length : Int)) = true := decide_eq_true hlt
   have p1 := eq_true HA.out.1
   have q1 := eq_true hlt
   clear hlt
   have hcall := HP.out (rd l0 x)
   cases hq : p (rd l0 x) with
   | true =>
    rw [hq] at hcall
    have HQ := m0 hq
    have HC := m0 hcall
    clear hq hcall
    go_wp2_with (go_at_fn g; refine (HC.out _).mono ?_; rintro e w' ⟨rfl, q', rfl⟩)
    go_ret
    refine ⟨?_, ⟨⟨_, rfl⟩⟩⟩
    obtain ⟨h0, h1, h2, h3⟩ := HA.out
    have hc := of_decide_eq_true c1
    have hn : ((x.toNat : Nat) : Int) = x := by omega
    exact ret_int (by rw [idxF_hit p l0 x.toNat (by omega) (by rw [hn]; exact HQ.out) (fun j hj => h3 j (by omega)), hn])
   | false =>
    rw [hq] at hcall
    have HQ := m0 hq
    have HC := m0 hcall
    clear hq hcall
    go_wp2_with (go_at_fn g; refine (HC.out _).mono ?_; rintro e w' ⟨rfl, q', rfl⟩)
    obtain ⟨h0, h1, h2, h3⟩ := HA.out
    have hc := of_decide_eq_true c1
    have hL := HL.out
    go_roundg (l0.length - (x + 1)).toNat
    case measure => omega
    case rel =>
     refine ⟨wrap64 (x + 1), rfl, ⟨?_⟩, ⟨⟨_, rfl⟩⟩⟩
     have e1 : wrap64 (x + 1) = x + 1 := by unfold wrap64; omega
     rw [e1]
     refine ⟨by omega, by omega, by omega, fun j hj => ?_⟩
     by_cases e : (j : Int) = x
     ·rw [e]; exact HQ.out
     ·exact h3 j (by omega)
  ·have c1 : decide (x < (l0.length : Int)) = false := decide_eq_false hlt
   have HN := m0 hlt
   clear hlt
   go_wp2
   go_ret
   refine ⟨?_, ⟨⟨q, rfl⟩⟩⟩
   obtain ⟨h0, h1, h2, h3⟩ := HA.out
   have := HN.out
   exact ret_int (idxF_miss p l0 (fun j hj => h3 j (by omega))).symm
end
section
theorem Sp_int_107.own (g : Nat) (lb : Array Value) (eg : ∀ args w, (callFunc g args).run Tryd.prog w = .ok (.enter g args) w) (p : Int → Bool) (A0 : Option Addr) (c0 : Nat) (l0 : List Int) (w : World) (hp : PredI g lb p w) (hr0 : Kd.C (Kd.int .i64) w A0 l0.length l0) :
  Calls Tryd.prog 107 #[.slice A0 l0.length c0, .func (.func g) #[] lb] w fun e w' => e = .returned (.bool (l0.any p)) ∧ Drawn0 w w' := by
 have HC := m0 ((Sp_int_133.own g lb eg p A0 c0 l0 w hp hr0).mono fun e w' h => (⟨h.1, h.2.out⟩ : e = .returned (.int .i64 (idxF p l0)) ∧ ∃ q, w' = w.drewN q))
 rw [← idxF_any]
 clear hp hr0
 go_enter Tryd.func107, Tryd.ntmps107
 go_wp2_with (first | (go_at_call 133; refine HC.out.mono ?_; rintro e w' ⟨rfl, q, rfl⟩))
 go_ret
 exact ⟨rfl, ⟨⟨q, rfl⟩⟩⟩
theorem detections_pred {B : Nat} {n : Int} {w : World} (hc : w.cell? ⟨B, 0, none⟩ = some (.int .i64 n)) : PredI 108 #[.pointer (some ⟨B, 0, none⟩)] (fun m => decide (n ≤ m)) w := by
 intro W x hb
 have hc' := pw_cell_below hb hc
 clear hc hb
 go_enter Tryd.func108, Tryd.ntmps108
 go_wp2
 go_ret
 exact ⟨rfl, 0, rfl⟩
def line_ContainsFunc_ge.f (l0 : List Int) (n : Int) : Option Bool := some (l0.any fun m => decide (n ≤ m))
theorem line_ContainsFunc_ge.calls (A0 : Option Addr) (c0 : Nat) (l0 : List Int) (B : Nat) (n : Int) (r : Bool) (w : World) (hr0 : Kd.C (Kd.int .i64) w A0 l0.length l0) (hc0 : l0.length ≤ c0) (hb : w.heap[B]? = some (.cells #[.int .i64 n] 3 (0, 0))) (h : line_ContainsFunc_ge.f l0 n = some r) :
  Calls Tryd.prog 107 #[.slice A0 l0.length c0, .func (.func 108) #[] #[.pointer (some ⟨B, 0, none⟩)]] w fun e w' => e = .returned (.bool r) ∧ Drawn0 w w' := by
 obtain rfl := Option.some.inj h
 exact Sp_int_107.own _ _ (enters_of Tryd.func108 (by kernel_rfl) rfl) _ A0 c0 l0 w (detections_pred ((blk_cell hb 0).trans rfl)) hr0
end
end Go.Proofs.YtjnkphmcndaijaaDoor.A
