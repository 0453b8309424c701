/- Walks of the program's functions (printed, made shorter), each with what it computes. -/
import Derived.Test.YtibhfahbabgbaaaTX10
import Derived.Lib.SliceRun
namespace Go.Proofs.Ytibhfahbabgbaaa.A
set_option maxHeartbeats 8000000
set_option maxRecDepth 100000
open Go.RowKit Go.Proofs.YtibhfahbabgbaaaW.PrintWords Go.Proofs.YtibhfahbabgbaaaW.PrintLast Go.Proofs.YtibhfahbabgbaaaW.PrintMore
attribute [local go_sem] max2_int min2_int max_two min_two max_three min_three max_four min_four
set_option linter.unusedVariables false
set_option linter.unusedSimpArgs false
section
def L_common.l0 : Nat → List (S85) → Int → Int → Int → Int → Option (Int × Int × Bool)
 | 0, _, _, _, _, _ => none
 | k + 1, x12, x13, x14, x184000, x184001 => if x14 < x13 then (if 0 ≤ x14 then (if x14 < (x12.length : Int) then ((L_offsets.f ((rd_T85 x12 x14).f0) ((rd_T85 x12 x14).f1) ((rd_T85 x12 x14).f2)).bind fun bt186 => (L_common.l0 k x12 x13 (wrap64 (x14 + 1)) (mx x184000 bt186.1) (mn x184001 bt186.2))) else (none)) else (none)) else (some (x184000, x184001, decide (x184000 ≤ x184001)))
def L_common.f (k : Nat) (l0 : List (S85)) : Option (Int × Int × Bool) := if 0 < (l0.length : Int) then ((L_offsets.f ((rd_T85 l0 0).f0) ((rd_T85 l0 0).f1) ((rd_T85 l0 0).f2)).bind fun bt181 => (L_common.l0 k l0 (l0.length : Int) 0 bt181.1 bt181.2)) else (none)
theorem L_common.mono_l : ∀ k, (∀ y0 y1 y2 y3 y4, LeO (L_common.l0 k y0 y1 y2 y3 y4) (L_common.l0 (k + 1) y0 y1 y2 y3 y4))
 | 0 => fun _ _ _ _ _ r h => by simp [L_common.l0] at h
 | k + 1 => by
  have ih0 := L_common.mono_l k
  ·intro y0 y1 y2 y3 y4; unfold L_common.l0
   repeat' with_reducible first
    | exact ih0 ..
    | exact LeO.refl ..
    | exact LeO.none ..
    | refine LeO.ite ?_ ?_
    | refine LeO.bind ?_ (fun _ => ?_)
theorem L_common.mono : ∀ a0 k, LeO (L_common.f k a0) (L_common.f (k + 1) a0) := by
 intro a0 k; have ih0 := L_common.mono_l k; unfold L_common.f
 repeat' with_reducible first
  | exact ih0 ..
  | exact LeO.refl ..
  | exact LeO.none ..
  | refine LeO.ite ?_ ?_
  | refine LeO.bind ?_ (fun _ => ?_)
def L_common.T8 : Bool × List (List Nat × List Nat) := (true, [([], []), ([], []), ([1], [1]), ([], []), ([3], [3]), ([2, 4], [2, 4]), ([0, 0], [0]), ([5, 6, 0, 1, 2, 3, 4, 5, 6], [5])])
def L_common.B8 : List Nat := [0, 0, 2, 0, 8, 30, 1, 127]
theorem L_common.tab8 : rtab .any (opsOf Try.f113 8) = L_common.T8 := by kernel_rfl
theorem L_common.bits8 : waitsOk L_common.T8.2 L_common.B8 = true := by kernel_rfl
theorem L_common.calls (k : Nat) (A0 : Option Addr) (c0 : Nat) (l0 : List (S85)) (r1 : Int) (r2 : Int) (r3 : Bool) (w : World) (hr0 : Kd.C k85 w A0 l0.length l0) (hc0 : l0.length ≤ c0) (H : L_common.f k l0 = some (r1, r2, r3)) :
  Calls Try.prog 113 #[.slice A0 l0.length c0] w fun e w' => e = .returned (.tuple #[.agg #[.int .i64 r1, .int .i64 r2], .bool r3]) ∧ Below w.heap.size w w' := by
 have hu58 := Try.underlying58; have hu85 := Try.underlying85; have HR0 := m0 hr0; have HC0 := m0 hc0; clear hr0 hc0; have HB := m0 (Below.refl w.heap.size w); unfold L_common.f at H
 by_cases c2 : 0 < (l0.length : Int)
 ·rw [if_pos c2] at H; have c2b0 := decide_eq_true c2; have c2b1 : decide (0 < l0.length) = true := decide_eq_true (by omega); clear c2; replace H := oa H; obtain ⟨⟨t181, t182⟩, A3, H⟩ := H; (try dsimp only at H); have H' := m0 H; clear H; go_enter Try.func113, Try.ntmps113
  go_wp2_with (first | ((with_reducible refine ga 2 rfl ?_); refine be 2 58 #[.int .i64 0, .int .i64 0] ?_; intro gb179 hg w4 hbox hb; have BK179 := m0 hbox; have GE179 := gw w hg; replace HB := sb HB hb; clear hb hbox hg; have p180 : 0 ≤ (0 : Int) := (by omega); have q180 : 0 < (l0.length : Int) := od; obtain ⟨ad180, e180, hx180_0, hx180_1, hx180_2⟩ := at_T85 HR0.out 0 p180 q180; cases e180; have qi180 : (0 < l0.length) = True := eq_true (by omega); (try rw [show ((0 : Int)).toNat = 0 from rfl] at hx180_0); (try rw [show 0 * 3 = 0 from rfl] at hx180_0); (try rw [Addr.add_zero'] at hx180_0); (try rw [show ((0 : Int)).toNat = 0 from rfl] at hx180_1); (try rw [show 0 * 3 = 0 from rfl] at hx180_1); (try rw [Addr.add_zero'] at hx180_1); (try rw [show ((0 : Int)).toNat = 0 from rfl] at hx180_2); (try rw [show 0 * 3 = 0 from rfl] at hx180_2); (try rw [Addr.add_zero'] at hx180_2); replace hx180_0 := hc HB hx180_0; replace hx180_1 := hc HB hx180_1; replace hx180_2 := hc HB hx180_2; replace p180 := eq_true p180; replace q180 := eq_true q180) | ((with_reducible refine gc 114 rfl ?_); refine gl (some 11) Try.func114 #[.agg #[.int .i64 ((rd_T85 l0 0).f0), .int .i64 ((rd_T85 l0 0).f1), .int .i64 ((rd_T85 l0 0).f2)]] ?_; (with_reducible refine (L_offsets.calls ((rd_T85 l0 0).f0) ((rd_T85 l0 0).f1) ((rd_T85 l0 0).f2) t181 t182 _ A3.out).mono ?_); rintro e w5 ⟨rfl, hb⟩; refine ⟨_, rfl, ?_⟩; replace BK179 := bb BK179 hb; replace HB := sb HB hb; (try clear hb)) | ((with_reducible refine ga 4 rfl ?_); refine be 4 58 #[.int .i64 0, .int .i64 0] ?_; intro gb183 hg w6 hbox hb; have BK183 := m0 hbox; have GE183 := gw w hg; replace HB := sb HB hb; have NB179_183 := nl BK179 hg; have NB183_179 := ng (nl BK179 hg); replace BK179 := bb BK179 hb; clear hb hbox hg; have hnb7 := NB183_179.out; have hnc7 := NB179_183.out; obtain ⟨hcz8_0, hcz8_1, hfz8_0, hfz8_1⟩ := b2 BK183))
  go_loopg [14] k (fun kq v14 w' => ∃ (x14_1 : Int) (x184000_1 : Int) (x184001_1 : Int), v14 = .int .i64 x14_1 ∧ Aside0 (L_common.l0 kq l0 (l0.length : Int) x14_1 x184000_1 x184001_1 = some (r1, r2, r3)) ∧ Aside0 (kq ≤ k) ∧ Aside0 (w'.heap[gb179]? = some (.cells #[.int .i64 0, .int .i64 0] 58 (0, 0))) ∧ Aside0 (w'.heap[gb183]? = some (.cells #[.int .i64 x184000_1, .int .i64 x184001_1] 58 (0, 0))) ∧ Aside0 (Below w.heap.size w w'))
  case atStart => exact ⟨(0), (t181), (t182), rz, H', ⟨Nat.le_refl _⟩, ⟨bq BK179.out⟩, ⟨bq BK183.out⟩, ⟨bz⟩⟩
  case round =>
   clear H'
   try clear hx1
   try clear qi1
   try clear hcz8_0
   try clear hcz8_1
   try clear hfz8_0
   try clear hfz8_1
   try clear hx180_0
   try clear hx180_1
   try clear hx180_2
   obtain ⟨x14_1, x184000_1, x184001_1, rfl, HA, HK1, BK179, BK183, HB⟩ := hrel
   cases gk with
   | zero => exact absurd HA.out (by simp [L_common.l0])
   | succ k1 =>
    have H := HA.out; clear HA; simp only [L_common.l0] at H
    by_cases c9 : x14_1 < (l0.length : Int)
    ·rw [if_pos c9] at H; have c9b0 := decide_eq_true c9; clear c9
     by_cases c10 : 0 ≤ x14_1
     ·rw [if_pos c10] at H; have c10b0 := decide_eq_true c10; clear c10
      by_cases c11 : x14_1 < (l0.length : Int)
      ·rw [if_pos c11] at H; have c11b0 := decide_eq_true c11; clear c11; replace H := oa H; obtain ⟨⟨t186, t187⟩, A12, H⟩ := H; (try dsimp only at H); obtain ⟨ji13, hji13⟩ : ∃ j_ : Int, (mx x184000_1 t186) = j_ := ⟨_, rfl⟩; replace H : (L_common.l0 k1 l0 (l0.length : Int) (wrap64 (x14_1 + 1)) ji13 (mn x184001_1 t187)) = some (r1, r2, r3) := by first | (rw [hji13] at H; exact H) | (simp only [hji13] at H ⊢; exact H)
       (try rw [hji13] at A12); have hji13_ : (if x184000_1 < t186 then t186 else x184000_1) = ji13 := hji13; obtain ⟨ji14, hji14⟩ : ∃ j_ : Int, (mn x184001_1 t187) = j_ := ⟨_, rfl⟩; replace H : (L_common.l0 k1 l0 (l0.length : Int) (wrap64 (x14_1 + 1)) ji13 ji14) = some (r1, r2, r3) := by first | (rw [hji14] at H; exact H) | (simp only [hji14] at H ⊢; exact H)
       (try rw [hji14] at A12); have hji14_ : (if t187 < x184001_1 then t187 else x184001_1) = ji14 := hji14; have H' := m0 H; clear H; have p184 : 0 ≤ (x14_1 : Int) := od; have q184 : x14_1 < (l0.length : Int) := od; obtain ⟨ad184, e184, hx184_0, hx184_1, hx184_2⟩ := at_T85 HR0.out x14_1 p184 q184; obtain rfl : ad180 = ad184 := (by injection e184); replace hx184_0 := hc HB hx184_0; replace hx184_1 := hc HB hx184_1; replace hx184_2 := hc HB hx184_2; replace p184 := eq_true p184; replace q184 := eq_true q184
       go_wp2_with (first | ((with_reducible refine ga 6 rfl ?_); refine be 6 85 #[.int .i64 0, .int .i64 0, .int .i64 0] ?_; intro gb185 hg w15 hbox hb; have BK185 := m0 hbox; have GE185 := gw w hg; replace HB := sb HB hb; have NB179_185 := nl BK179 hg; have NB185_179 := ng (nl BK179 hg); replace BK179 := bb BK179 hb; have NB183_185 := nl BK183 hg; have NB185_183 := ng (nl BK183 hg); replace BK183 := bb BK183 hb; clear hb hbox hg; have hnb16 := NB185_179.out; have hnc16 := NB179_185.out; have hnb17 := NB185_183.out; have hnc17 := NB183_185.out; obtain ⟨_, _, _, _, _, _⟩ := b3 BK185) | ((with_reducible refine gc 114 rfl ?_); refine gl (some 19) Try.func114 #[.agg #[.int .i64 ((rd_T85 l0 x14_1).f0), .int .i64 ((rd_T85 l0 x14_1).f1), .int .i64 ((rd_T85 l0 x14_1).f2)]] ?_; (with_reducible refine (L_offsets.calls ((rd_T85 l0 x14_1).f0) ((rd_T85 l0 x14_1).f1) ((rd_T85 l0 x14_1).f2) t186 t187 _ A12.out).mono ?_); rintro e w19 ⟨rfl, hb⟩; refine ⟨_, rfl, ?_⟩; replace BK179 := m0 (blk_below (g := gb179) (o := .cells #[.int .i64 0, .int .i64 0] 58 (0, 0)) (bq BK179.out) hb); replace BK183 := m0 (blk_below (g := gb183) (o := .cells #[.int .i64 x184000_1, .int .i64 x184001_1] 58 (0, 0)) (bq BK183.out) hb); replace BK185 := m0 (blk_below (g := gb185) (o := .cells #[.int .i64 ((rd_T85 l0 x14_1).f0), .int .i64 ((rd_T85 l0 x14_1).f1), .int .i64 ((rd_T85 l0 x14_1).f2)] 85 (0, 0)) (bq BK185.out) hb); replace HB := sb HB hb; (try clear hb)) | ((with_reducible refine ga 7 rfl ?_); refine be 7 58 #[.int .i64 0, .int .i64 0] ?_; intro gb188 hg w20 hbox hb; have BK188 := m0 hbox; have GE188 := gw w hg; replace HB := sb HB hb; have NB179_188 := nl BK179 hg; have NB188_179 := ng (nl BK179 hg); replace BK179 := bb BK179 hb; have NB183_188 := nl BK183 hg; have NB188_183 := ng (nl BK183 hg); replace BK183 := bb BK183 hb; have NB185_188 := nl BK185 hg; have NB188_185 := ng (nl BK185 hg); replace BK185 := bb BK185 hb; clear hb hbox hg; have hnb21 := NB188_179.out; have hnc21 := NB179_188.out; have hnb22 := NB188_183.out; have hnc22 := NB183_188.out; have hnb23 := NB188_185.out; have hnc23 := NB185_188.out; obtain ⟨_, _, _, _⟩ := b2 BK188; have hnb25 := NB183_179.out; have hnc25 := NB179_183.out; obtain ⟨_, _, _, _⟩ := b2 BK183))
       go_roundg k1
       case measure => have := HK1.out; omega
       case rel => exact ⟨(wrap64 (x14_1 + 1)), (ji13), (ji14), rz, H', ⟨by have := HK1.out; omega⟩, ⟨bq BK179.out⟩, ⟨by (with_reducible repeat (first | refine blk_drewN ?_ _ | refine blk_drew ?_ | refine blk_alloc ?_ _)); refine blk_put (cs := #[.int .i64 ji13, .int .i64 x184001_1]) ?_ 1 _ rfl; (with_reducible repeat (first | refine blk_drewN ?_ _ | refine blk_drew ?_ | refine blk_alloc ?_ _)); refine blk_put (cs := #[.int .i64 x184000_1, .int .i64 x184001_1]) ?_ 0 _ rfl; (with_reducible repeat (first | refine blk_drewN ?_ _ | refine blk_drew ?_ | refine blk_alloc ?_ _)); refine blk_far ?_ NB183_188.out _; (with_reducible repeat (first | refine blk_drewN ?_ _ | refine blk_drew ?_ | refine blk_alloc ?_ _)); refine blk_far ?_ NB183_188.out _; (with_reducible repeat (first | refine blk_drewN ?_ _ | refine blk_drew ?_ | refine blk_alloc ?_ _)); exact BK183.out⟩, ⟨bz⟩⟩
      ·rw [if_neg c11] at H; exact absurd H (by simp)
     ·rw [if_neg c10] at H; exact absurd H (by simp)
    ·rw [if_neg c9] at H; have c9b0 := decide_eq_false c9; clear c9; simp only [Option.some.injEq, Prod.mk.injEq] at H; obtain ⟨rfl, rfl, rfl⟩ := H
     try go_wp2
     replace BK179 := bd BK179; replace BK183 := bd BK183; replace HB := sd HB; refine start_ (n := 8) (S := fun w' => w'.cell? ⟨gb183, 0, none⟩ = some (.int .i64 x184000_1) ∧ w'.cell? ⟨gb183, 1, none⟩ = some (.int .i64 x184001_1)) (ds := []) _ (by kernel_rfl) rfl rfl cz (fun hH => ?_); refine with_tabW L_common.tab8 L_common.bits8 (fun HT_ HW_ => ?_); generalize wr.drew = w27 at BK179 BK183 HB hH ⊢; refine pZ 1 (some 33) #[false, true, false, false, false, false, false, false] HT_ ?_; refine pZ 3 (some 35) #[false, true, false, true, false, false, false, false] HT_ ?_; refine takeZ 0 (some 32) #[true, true, false, true, false, false, false, false] (tw HT_ HW_) hH ?_; refine takeZ 2 (some 34) #[true, true, true, true, false, false, false, false] (tw HT_ HW_) hH ?_; refine takeZ 4 (some 36) #[true, true, true, true, true, false, false, false] (tw HT_ HW_) hH ?_; refine pZ 5 (some 37) #[true, true, true, true, true, true, false, false] HT_ ?_; refine oneZ 6 (none) #[true, true, true, true, true, true, true, false] (o1 HT_) fun K hK => ?_; obtain ⟨hs28, hfs28⟩ := q0 BK179; obtain ⟨hs29, hfs29⟩ := q1 BK179; refine skip_ (w1 := ?_) (by rfl) rfl ?_ ?_; rotate_left
     ·go_simp
      rfl
     refine hK.out _ _ (cf hH) (fun hH => ?_); clear hK K; refine pZ 7 (some 3) #[true, true, true, true, true, true, true, true] HT_ ?_; refine done_ (done_of HT_.out (by kernel_rfl)) ?_
     try go_wp2
     refine bodyPost_ret (results_ct rfl _ _ gb179 58 #[.int .i64 x184000_1, .int .i64 x184001_1] (0, 0) _ rfl (bq BK179.out) Try.underlying58 rfl (by kernel_rfl)) rfl ?_; exact ez
 ·rw [if_neg c2] at H; exact absurd H (by simp)
end
section
def L_fitted_1.f (a0_0 : Int) (a0_1 : Int) (a0_2 : Int) (a1 : Int) : Option (Bool) := (L_offsets.f a0_0 a0_1 a0_2).bind fun bt190 => ((L_within.f a1 bt190.1 bt190.2).bind fun t193 => (some (!t193)))
theorem L_fitted_1.calls (a0_0 : Int) (a0_1 : Int) (a0_2 : Int) (a1 : Int) (r : Bool) (B : Nat) (w : World) (hbx : w.heap[B]? = some (.cells #[.int .i64 a1] 3 (0, 0))) (H : L_fitted_1.f a0_0 a0_1 a0_2 a1 = some r) :
  Calls Try.prog 143 #[.agg #[.int .i64 a0_0, .int .i64 a0_1, .int .i64 a0_2], .pointer (some ⟨B, 0, none⟩)] w fun e w' => e = .returned (.bool r) ∧ Below w.heap.size w w' := by
 have hu85 := Try.underlying85; have hu58 := Try.underlying58; have HB := m0 (Below.refl w.heap.size w); have HX := m0 hbx; clear hbx; unfold L_fitted_1.f at H; replace H := oa H; obtain ⟨⟨t190, t191⟩, A3, H⟩ := H; (try dsimp only at H); replace H := oa H; obtain ⟨t193, A4, H⟩ := H; (try dsimp only at H); obtain rfl := Option.some.inj H; go_enter Try.func143, Try.ntmps143
 go_wp2_with (first | ((with_reducible refine ga 2 rfl ?_); refine be 2 85 #[.int .i64 a0_0, .int .i64 a0_1, .int .i64 a0_2] ?_; intro gb189 hg w5 hbox hb; have BK189 := m0 hbox; have GE189 := gw w hg; replace HB := sb HB hb; clear hb hbox hg; obtain ⟨_, _, _, _, _, _⟩ := b3 BK189) | ((with_reducible refine gc 114 rfl ?_); refine gl (some 6) Try.func114 #[.agg #[.int .i64 a0_0, .int .i64 a0_1, .int .i64 a0_2]] ?_; (with_reducible refine (L_offsets.calls a0_0 a0_1 a0_2 t190 t191 _ A3.out).mono ?_); rintro e w7 ⟨rfl, hb⟩; refine ⟨_, rfl, ?_⟩; replace BK189 := bb BK189 hb; replace HB := sb HB hb; (try clear hb)) | ((with_reducible refine ga 4 rfl ?_); refine be 4 58 #[.int .i64 0, .int .i64 0] ?_; intro gb192 hg w8 hbox hb; have BK192 := m0 hbox; have GE192 := gw w hg; replace HB := sb HB hb; have NB189_192 := nl BK189 hg; have NB192_189 := ng (nl BK189 hg); replace BK189 := bb BK189 hb; clear hb hbox hg; have hnb9 := NB192_189.out; have hnc9 := NB189_192.out; obtain ⟨_, _, _, _⟩ := b2 BK192; have hnB1 : gb192 ≠ B := Nat.ne_of_gt (Nat.lt_of_lt_of_le (blk_lt HX.out) GE192.out); have hnB2 : B ≠ gb192 := Nat.ne_of_lt (Nat.lt_of_lt_of_le (blk_lt HX.out) GE192.out); have hbz : w8.cell? ⟨B, 0, none⟩ = some (.int .i64 a1) := (blk_cell (blk_below HX.out HB.out) 0).trans rfl) | ((with_reducible refine gc 78 rfl ?_); refine gl (some 12) Try.func78 #[.int .i64 a1, .int .i64 t190, .int .i64 t191] ?_; (with_reducible refine (L_within.calls a1 t190 t191 t193 _ A4.out).mono ?_); rintro e w' ⟨rfl, ⟨nd, rfl⟩⟩; refine ⟨_, rfl, ?_⟩))
 go_ret
 exact ez
end
section
theorem gate_via_ {P : Program} {ops : Array Oper} {Q : Exit → Act → World → Prop} {rest : List Oper} {o : Oper} {a : Act} {W : World} {t : Tmp} {av : Array Operand} {ts : Array TypeId} (_ho : o.op = .call { callee := .value (.tmp t), args := av, argTypes := ts }) (h : wpList P ops Q (o :: rest) a W) : wpList P ops Q (o :: rest) a W := h
theorem goesLC_ {P : Program} {ops : Array Oper} {Q : Exit → Act → World → Prop} {rest : List Oper} {oi : Oper} {a : Act} {w : World} (N : Option Tmp) (hd : oi.dst = N) (hg : oi.guard = none) {f : FuncId} {fn : Func} {av : Array Operand} {ts : Array TypeId} (t : Tmp) (cs : Array Value) (hf : P.funcs[f]? = some fn) (hname : (fn.name == "runtime.NumGoroutine") = false) (hb : fn.body.isSome = true) (args : Array Value)
  (hop : oi.op = .call { callee := .value (.tmp t), args := av, argTypes := ts }) (ht : a.tmps[t]? = some (.func (.func f) #[] cs)) (hargs : av.map a.eval ++ cs = args)
  (h : Calls P f args w fun e w' => ∃ v, e = .returned v ∧ wpList P ops Q rest (a.put N v) w') : wpList P ops Q (oi :: rest) a w := by
 refine wpList_plain hg fun K hK => ?_; have he := enters_ hf hname hb args w; have hrun : (execOp a.eval oi).run P w = .ok (.enter f args) w := by
  unfold execOp
  simp [hop, resolve, Deferred.ofValue, invoke, Act.eval, ht]
  simpa [Act.eval, hargs] using he
 unfold Oper.wp; rw [hrun, Oper.upon_enter]; refine h.mono fun e w'' hh => ?_; obtain ⟨v, rfl, hk⟩ := hh; subst hd; exact hK _ _ hk
def TR_158.l0 : Nat → List (S85) → Int → Int → Int → Option (Int)
 | 0, _, _, _, _ => none
 | k + 1, x0, x1, x7, x8 => if x8 < x7 then (if 0 ≤ x8 then (if x8 < (x0.length : Int) then ((L_fitted_1.f ((rd_T85 x0 x8).f0) ((rd_T85 x0 x8).f1) ((rd_T85 x0 x8).f2) x1).bind fun t195 => (if t195 = true then (some x8) else (TR_158.l0 k x0 x1 x7 (wrap64 (x8 + 1))))) else (none)) else (none)) else (some (-1))
def TR_158.f (k : Nat) (l0 : List (S85)) (a1 : Int) : Option (Int) := TR_158.l0 k l0 a1 (l0.length : Int) 0
theorem TR_158.mono_l : ∀ k, (∀ y0 y1 y2 y3, LeO (TR_158.l0 k y0 y1 y2 y3) (TR_158.l0 (k + 1) y0 y1 y2 y3))
 | 0 => fun _ _ _ _ r h => by simp [TR_158.l0] at h
 | k + 1 => by
  have ih0 := TR_158.mono_l k
  ·intro y0 y1 y2 y3; unfold TR_158.l0
   repeat' with_reducible first
    | exact ih0 ..
    | exact LeO.refl ..
    | exact LeO.none ..
    | refine LeO.ite ?_ ?_
    | refine LeO.bind ?_ (fun _ => ?_)
theorem TR_158.mono : ∀ a0 a1 k, LeO (TR_158.f k a0 a1) (TR_158.f (k + 1) a0 a1) := by
 intro a0 a1 k; have ih0 := TR_158.mono_l k; unfold TR_158.f
 repeat' with_reducible first
  | exact ih0 ..
  | exact LeO.refl ..
  | exact LeO.none ..
  | refine LeO.ite ?_ ?_
  | refine LeO.bind ?_ (fun _ => ?_)
theorem TR_158.calls (k : Nat) (A0 : Option Addr) (c0 : Nat) (l0 : List (S85)) (a1 : Int) (r : Int) (B : Nat) (w : World) (hbx : w.heap[B]? = some (.cells #[.int .i64 a1] 3 (0, 0))) (hr0 : Kd.C k85 w A0 l0.length l0) (hc0 : l0.length ≤ c0) (H : TR_158.f k l0 a1 = some r) :
  Calls Try.prog 158 #[.slice A0 l0.length c0, .func (.func 143) #[] #[.pointer (some ⟨B, 0, none⟩)]] w fun e w' => e = .returned (.int .i64 r) ∧ Below w.heap.size w w' := by
 have hu85 := Try.underlying85; have HX := m0 hbx; clear hbx; have HR0 := m0 hr0; have HC0 := m0 hc0; clear hr0 hc0; have HB := m0 (Below.refl w.heap.size w); unfold TR_158.f at H; have H' := m0 H; clear H; go_enter Try.func158, Try.ntmps158
 go_wp2
 go_loopg [8] k (fun kq v8 w' => ∃ (x8_1 : Int), v8 = .int .i64 x8_1 ∧ Aside0 (TR_158.l0 kq l0 a1 (l0.length : Int) x8_1 = some r) ∧ Aside0 (kq ≤ k) ∧ Aside0 (Below w.heap.size w w'))
 case atStart => exact ⟨(0), rz, H', ⟨Nat.le_refl _⟩, ⟨bz⟩⟩
 case round =>
  clear H'; obtain ⟨x8_1, rfl, HA, HK1, HB⟩ := hrel
  cases gk with
  | zero => exact absurd HA.out (by simp [TR_158.l0])
  | succ k1 =>
   have H := HA.out; clear HA; simp only [TR_158.l0] at H
   by_cases c3 : x8_1 < (l0.length : Int)
   ·rw [if_pos c3] at H; have c3b0 := decide_eq_true c3; clear c3
    by_cases c4 : 0 ≤ x8_1
    ·rw [if_pos c4] at H; have c4b0 := decide_eq_true c4; clear c4
     by_cases c5 : x8_1 < (l0.length : Int)
     ·rw [if_pos c5] at H; have c5b0 := decide_eq_true c5; clear c5; replace H := oa H; obtain ⟨t195, A6, H⟩ := H; (try dsimp only at H)
      by_cases c7 : t195 = true
      ·subst c7; rw [if_pos rfl] at H; obtain rfl := Option.some.inj H; have p194 : 0 ≤ (x8_1 : Int) := od; have q194 : x8_1 < (l0.length : Int) := od; obtain ⟨ad194, e194, hx194_0, hx194_1, hx194_2⟩ := at_T85 HR0.out x8_1 p194 q194
       cases e194
       replace hx194_0 := hc HB hx194_0; replace hx194_1 := hc HB hx194_1; replace hx194_2 := hc HB hx194_2; replace p194 := eq_true p194; replace q194 := eq_true q194
       go_wp2_with (first | ((with_reducible refine gate_via_ (t := 11) rfl ?_); refine goesLC_ (some 16) rfl rfl 11 #[.pointer (some ⟨B, 0, none⟩)] Try.func143 (by kernel_rfl) rfl #[.agg #[.int .i64 ((rd_T85 l0 x8_1).f0), .int .i64 ((rd_T85 l0 x8_1).f1), .int .i64 ((rd_T85 l0 x8_1).f2)], .pointer (some ⟨B, 0, none⟩)] rfl (by rfl) (by first | rfl | (simp; done) | (simp; rfl)) ?_; (with_reducible refine (L_fitted_1.calls ((rd_T85 l0 x8_1).f0) ((rd_T85 l0 x8_1).f1) ((rd_T85 l0 x8_1).f2) a1 true B _ ?sideb A6.out).mono ?_); (case sideb => exact (by (with_reducible repeat (first | refine blk_drewN ?_ _ | refine blk_drew ?_ | refine blk_alloc ?_ _)); exact blk_below HX.out HB.out)); rintro e w8 ⟨rfl, hb⟩; refine ⟨_, rfl, ?_⟩; replace HB := sb HB hb; (try clear hb)))
       go_ret
       exact ez
      ·replace c7 := Bool.eq_false_iff.mpr c7; subst c7; rw [if_neg (show ¬ (false = true) by decide)] at H; have H' := m0 H; clear H; have p194 : 0 ≤ (x8_1 : Int) := od; have q194 : x8_1 < (l0.length : Int) := od; obtain ⟨ad194, e194, hx194_0, hx194_1, hx194_2⟩ := at_T85 HR0.out x8_1 p194 q194
       cases e194
       replace hx194_0 := hc HB hx194_0; replace hx194_1 := hc HB hx194_1; replace hx194_2 := hc HB hx194_2; replace p194 := eq_true p194; replace q194 := eq_true q194
       go_wp2_with (first | ((with_reducible refine gate_via_ (t := 11) rfl ?_); refine goesLC_ (some 16) rfl rfl 11 #[.pointer (some ⟨B, 0, none⟩)] Try.func143 (by kernel_rfl) rfl #[.agg #[.int .i64 ((rd_T85 l0 x8_1).f0), .int .i64 ((rd_T85 l0 x8_1).f1), .int .i64 ((rd_T85 l0 x8_1).f2)], .pointer (some ⟨B, 0, none⟩)] rfl (by rfl) (by first | rfl | (simp; done) | (simp; rfl)) ?_; (with_reducible refine (L_fitted_1.calls ((rd_T85 l0 x8_1).f0) ((rd_T85 l0 x8_1).f1) ((rd_T85 l0 x8_1).f2) a1 false B _ ?sideb A6.out).mono ?_); (case sideb => exact (by (with_reducible repeat (first | refine blk_drewN ?_ _ | refine blk_drew ?_ | refine blk_alloc ?_ _)); exact blk_below HX.out HB.out)); rintro e w9 ⟨rfl, hb⟩; refine ⟨_, rfl, ?_⟩; replace HB := sb HB hb; (try clear hb)))
       go_roundg k1
       case measure => have := HK1.out; omega
       case rel => exact ⟨(wrap64 (x8_1 + 1)), rz, H', ⟨by have := HK1.out; omega⟩, ⟨bz⟩⟩
     ·rw [if_neg c5] at H; exact absurd H (by simp)
    ·rw [if_neg c4] at H; exact absurd H (by simp)
   ·rw [if_neg c3] at H; have c3b0 := decide_eq_false c3; clear c3; obtain rfl := Option.some.inj H
    go_wp2
    go_ret
    exact ez
end
section
theorem setCells_blk {g : Nat} {e : TypeId} : ∀ (vs : List Value) (o : Nat) (w : World) (cur : Array Value), w.heap[g]? = some (.cells cur e (0, 0)) →
  ∃ cur', (w.setCells g o vs).heap[g]? = some (.cells cur' e (0, 0)) ∧ cur'.size = cur.size ∧ ∀ j, j < o → cur'[j]? = cur[j]?
 | [], _, _, cur, h => ⟨cur, h, rfl, fun _ _ => rfl⟩
 | v :: r, o, w, cur, h => by
  obtain ⟨cur', h1, h2, h3⟩ := setCells_blk r (o + 1) (w.setCell ⟨g, o, none⟩ v) _ (blk_put h o v rfl); refine ⟨cur', h1, by rw [h2, Array.size_setIfInBounds], fun j hj => ?_⟩; rw [h3 j (by omega), Array.getElem?_setIfInBounds_ne (by omega)]
theorem setCells_grown {g : Nat} : ∀ (vs : List Value) (o : Nat) (w : World), w.grownBy (w.setCells g o vs) (some g)
 | [], _, w => ⟨rfl, rfl, rfl, Nat.le_refl _, fun _ _ _ => rfl⟩
 | v :: r, o, w => by
  have h := setCells_grown r (o + 1) (w.setCell ⟨g, o, none⟩ v) (g := g); have hs : (w.setCell ⟨g, o, none⟩ v).heap.size = w.heap.size := by simp [World.setCell]
  refine ⟨h.os, h.tape, h.output, by rw [← hs]; exact h.size, fun k hk hne => (h.block k (by rw [hs]; exact hk) hne).trans (Below.heap_setCell w ⟨g, o, none⟩ v k (fun e => hne (by rw [e])))⟩
theorem clear_tail {w : World} {base : Nat} {ok : Nat → Prop} {A : Option Addr} {c : Nat} {xs : List S85} (m : Nat) (h : k85.R 85 w base ok (.slice A xs.length c) xs) (hm : m ≤ xs.length) :
  ∃ w', (∀ ty, (Builtin.clear_ #[67] ty #[.slice (if c = m then A else A.map (·.add (m * 3))) (xs.length - m) (c - m)]).run Try.prog w = .ok (.tuple #[]) w') ∧ k85.R 85 w' base ok (.slice A m c) (xs.take m) ∧ w.grownBy w' (Value.slice A xs.length c).ownBlock := by
 have ht := Kd.R_take h hm; have hu := Try.underlying67; have hrefl : w.grownBy w (Value.slice A xs.length c).ownBlock := ⟨rfl, rfl, rfl, Nat.le_refl _, fun _ _ _ => rfl⟩
 by_cases h0 : xs.length - m = 0
 ·refine ⟨w, fun ty => ?_, ht, hrefl⟩; rw [h0]; generalize (if c = m then A else A.map (·.add (m * 3))) = A'
  cases A' <;> simp [Builtin.clear_, run_underlying hu, Result.andThen]
 ·have ho := h.2; obtain ⟨inner, ho, hr⟩ := ho; obtain ⟨hl, ⟨e, hz⟩ | ⟨g, cap, cur, e, hb, hh, h1, h2, h3, h4⟩⟩ := ho
  ·omega
  ·injection e with e1 e2 e3
   subst e1; subst e3; have hcm : ¬ c = m := by omega
   rw [if_neg hcm]; have hadd : (Option.map (fun x : Addr => x.add (m * 3)) (some (⟨g, 0, none⟩ : Addr))) = some ⟨g, m * 3, none⟩ := by simp [Addr.add]; try omega
   rw [hadd]; have hsz : k85.sz = 3 := rfl; rw [hsz] at h3; have hzv : ∀ w, (zeroValue 85).run Try.prog w = .ok (.agg #[.int .i64 0, .int .i64 0, .int .i64 0]) w := fun w => Try.zeroValue85 w; have hlen : (Builtin.zeroCells (Value.agg #[.int .i64 0, .int .i64 0, .int .i64 0]).cells (xs.length - m)).toList.length = (xs.length - m) * 3 := by simp [Builtin.zeroCells, Value.cells]
   have hone : ∀ v ∈ (Builtin.zeroCells (Value.agg #[.int .i64 0, .int .i64 0, .int .i64 0]).cells (xs.length - m)).toList, v.oneCell' = true := by
    intro v hv; simp only [Builtin.zeroCells, Value.cells, Array.toList_map, List.mem_map] at hv; obtain ⟨i, _, rfl⟩ := hv; have : i % 3 = 0 ∨ i % 3 = 1 ∨ i % 3 = 2 := by omega
    rcases this with e | e | e <;> simp [e, Value.oneCell']
   have hst := run_storeCells_cells (P := Try.prog) g (m * 3) (Builtin.zeroCells (Value.agg #[.int .i64 0, .int .i64 0, .int .i64 0]).cells (xs.length - m)).toList 0 w
    (by
     intro j hj; rw [hlen] at hj; simp only [World.cell?, hh]; have : m * 3 + j < cur.size := by rw [h3]; omega
     simp [this])
    (by intro j hj; simp [World.frozen?, hh]) hone
   simp only [Nat.add_zero] at hst; obtain ⟨cur', k1, k2, k3⟩ := setCells_blk (Builtin.zeroCells (Value.agg #[.int .i64 0, .int .i64 0, .int .i64 0]).cells (xs.length - m)).toList (m * 3) w cur hh; have hg := setCells_grown (g := g) (Builtin.zeroCells (Value.agg #[.int .i64 0, .int .i64 0, .int .i64 0]).cells (xs.length - m)).toList (m * 3) w; refine ⟨_, fun ty => ?_, ?_, hg⟩
   ·obtain ⟨q, hq⟩ : ∃ q, xs.length - m = q + 1 := ⟨xs.length - m - 1, by omega⟩; rw [hq] at hst ⊢
    simp [Builtin.clear_, run_underlying hu, hzv, hst, Result.andThen]
   ·obtain ⟨t0, inner', tw, tr⟩ := ht; refine ⟨t0, inner', ⟨tw.1, .inr ⟨g, c, cur', by rw [List.length_take, Nat.min_eq_left hm], hb, k1, ?_, h2, by rw [k2, h3, hsz], ?_⟩⟩, ?_⟩
    ·rw [List.length_take]; omega
    ·have hto : cur.toList.take ((xs.take m).length * k85.sz) = inner' := by
      obtain ⟨_, ⟨e', _⟩ | ⟨g', cap', cur2, e', _, hh', _, _, _, h4'⟩⟩ := tw
      ·cases e'
      ·have f1 : some g = some g' := congrArg Value.ownBlock e'; obtain rfl := Option.some.inj f1; rw [hh] at hh'; have hc2 : cur = cur2 := by
        have := Option.some.inj hh'; simp only [Obj.cells.injEq] at this; exact this.1
       rw [hc2]; exact h4'
     rw [← hto]
     apply List.ext_getElem?
     intro j; rw [List.length_take, Nat.min_eq_left hm, hsz]
     by_cases hj : j < m * 3
     ·rw [List.getElem?_take_of_lt hj, List.getElem?_take_of_lt hj, Array.getElem?_toList, Array.getElem?_toList, k3 j hj]
     ·rw [List.getElem?_take_eq_none (by omega), List.getElem?_take_eq_none (by omega)]
    ·exact tr
theorem R_base85 {w : World} {base : Nat} {ok : Nat → Prop} {v : Value} {xs : List S85} (h : k85.R 85 w base ok v xs) (k : Nat) (hk : v.ownBlock = some k) : base ≤ k := by
 obtain ⟨_, inner, ho, _⟩ := h; obtain ⟨_, ⟨e, _⟩ | ⟨g, cap, cur, e, hb, _⟩⟩ := ho
 ·rw [e] at hk; cases hk
 ·rw [e] at hk; obtain rfl : g = k := Option.some.inj hk; exact hb
theorem below_grown85 {w0 w w1 : World} {ok : Nat → Prop} {v : Value} {xs : List S85} (hB : Below w0.heap.size w0 w) (h : k85.R 85 w w0.heap.size ok v xs) (hg : w.grownBy w1 v.ownBlock) : Below w0.heap.size w0 w1 :=
 ⟨hg.os.trans hB.os, hg.tape.trans hB.tape, hg.output.trans hB.output, Nat.le_trans hB.size hg.size, fun k hk => (hg.block k (Nat.lt_of_lt_of_le hk hB.size) (fun e => absurd (R_base85 h k e.symm) (by omega))).trans (hB.block k hk)⟩
def TR_141.l0 : Nat → List (S85) → Int → Int → Int → Option ((List (S85)))
 | 0, _, _, _, _ => none
 | k + 1, x0, x1, x5, x6 => if x6 < (x0.length : Int) then (if 0 ≤ x6 then ((L_fitted_1.f ((rd_T85 x0 x6).f0) ((rd_T85 x0 x6).f1) ((rd_T85 x0 x6).f2) x1).bind fun t199 => (if t199 = true then (TR_141.l0 k x0 x1 x5 (wrap64 (x6 + 1))) else (if 0 ≤ x5 then (if x5 < (x0.length : Int) then (TR_141.l0 k (x0.set (x5 : Int).toNat (⟨(rd_T85 x0 x6).f0, (rd_T85 x0 x6).f1, (rd_T85 x0 x6).f2⟩ : S85)) x1 (wrap64 (x5 + 1)) (wrap64 (x6 + 1))) else (none)) else (none)))) else (none)) else (if 0 ≤ x5 then (if x5 ≤ (x0.length : Int) then (some (x0.take (x5 : Int).toNat)) else (none)) else (none))
def TR_141.f (k : Nat) (l0 : List (S85)) (a1 : Int) : Option ((List (S85))) := (TR_158.f k l0 a1).bind fun t196 => (if t196 = (-1) then (some l0) else (TR_141.l0 k l0 a1 t196 (wrap64 (t196 + 1))))
theorem TR_141.mono_l : ∀ k, (∀ y0 y1 y2 y3, LeO (TR_141.l0 k y0 y1 y2 y3) (TR_141.l0 (k + 1) y0 y1 y2 y3))
 | 0 => fun _ _ _ _ r h => by simp [TR_141.l0] at h
 | k + 1 => by
  have ih0 := TR_141.mono_l k
  ·intro y0 y1 y2 y3; unfold TR_141.l0
   repeat' with_reducible first
    | exact ih0 ..
    | exact TR_158.mono ..
    | exact LeO.refl ..
    | exact LeO.none ..
    | refine LeO.ite ?_ ?_
    | refine LeO.bind ?_ (fun _ => ?_)
theorem TR_141.mono : ∀ a0 a1 k, LeO (TR_141.f k a0 a1) (TR_141.f (k + 1) a0 a1) := by
 intro a0 a1 k; have ih0 := TR_141.mono_l k; unfold TR_141.f
 repeat' with_reducible first
  | exact ih0 ..
  | exact TR_158.mono ..
  | exact LeO.refl ..
  | exact LeO.none ..
  | refine LeO.ite ?_ ?_
  | refine LeO.bind ?_ (fun _ => ?_)
theorem TR_141.calls (k : Nat) (P0_ : Nat → Prop) (u9000_ : Value) (l0 : List (S85)) (a1 : Int) (r : List (S85)) (B : Nat) (w0 w : World) (hbx : w.heap[B]? = some (.cells #[.int .i64 a1] 3 (0, 0))) (hPB : ¬ P0_ B) (hB : Below w0.heap.size w0 w) (ho0 : Kd.R k85 85 w w0.heap.size P0_ u9000_ l0) (H : TR_141.f k l0 a1 = some r) :
  Calls Try.prog 141 #[u9000_, .func (.func 143) #[] #[.pointer (some ⟨B, 0, none⟩)]] w fun e w' => ∃ v0_ : Value, e = .returned (v0_) ∧ Kd.R k85 85 w' w0.heap.size (fun k_ => (P0_ k_ ∨ w.heap.size ≤ k_)) v0_ r ∧ Below w0.heap.size w0 w' ∧ Kept w w' (fun k_ => P0_ k_) := by
 have hu85 := Try.underlying85; have HX := m0 hbx; have HPB := m0 hPB; clear hbx hPB; have HO0 := m0 (show Kd.R k85 85 w w0.heap.size (fun k_ => (P0_ k_ ∨ w.heap.size ≤ k_)) u9000_ l0 from Kd.R_mono ho0 (fun k_ hk => (.inl hk))); have HK := m0 (Kept.refl w (fun k_ => P0_ k_)); have HW0 := m0 hB.size; have HB := m0 hB; clear hB; unfold TR_141.f at H; replace H := oa H; obtain ⟨t196, A3, H⟩ := H; (try dsimp only at H)
 by_cases c4 : t196 = (-1)
 ·rw [if_pos c4] at H; have c4b0 := beq_iff_eq.mpr c4; have c4b1 := bne_eq_false_iff_eq.mpr c4; clear c4; obtain rfl := Option.some.inj H; obtain ⟨Ao5, co5, eo5⟩ := Kd.R_slice HO0.out; subst eo5; go_enter Try.func141, Try.ntmps141
  go_wp2_with (first | ((with_reducible refine gc 158 rfl ?_); refine gl (some 10) Try.func158 #[.slice Ao5 l0.length co5, .func (.func 143) #[] #[.pointer (some ⟨B, 0, none⟩)]] ?_; (with_reducible refine (TR_158.calls k _ _ l0 a1 t196 B _ ?sideb ?side1 ?side2 A3.out).mono ?_); (case sideb => exact (by (with_reducible repeat (first | refine blk_drewN ?_ _ | refine blk_drew ?_ | refine blk_alloc ?_ _)); exact HX.out)); (case side1 => exact bc (Kd.R_reads' HO0.out).2.2); (case side2 => exact (Kd.R_reads' HO0.out).2.1); rintro e w6 ⟨rfl, hb⟩; refine ⟨_, rfl, ?_⟩; replace HO0 := rb HO0 hb; replace HK := m0 (Kept.below (S := (fun k_ => P0_ k_)) (by repeat (first | (with_reducible first | exact HK.out | apply Kept.alloc | apply Kept.drewN | apply Kept.drew) | exact HK.out)) hb); replace HB := sb HB hb; (try clear hb)))
  go_ret
  exact ⟨_, by first | rfl | (simp [errW_none, errW_some] <;> rfl) | (simp [*, errW_none, errW_some] <;> rfl), by (with_reducible repeat (first | apply Kd.R_alloc | apply Kd.R_drewN | apply Kd.R_drew)); exact HO0.out, by repeat (first | (with_reducible first | exact HB.out | apply below_alloc | apply pw_below_drewN | apply below_drew1) | exact HB.out), by repeat (first | (with_reducible first | exact HK.out | apply Kept.alloc | apply Kept.drewN | apply Kept.drew) | exact HK.out)⟩
 ·rw [if_neg c4] at H; have c4b0 := beq_eq_false_iff_ne.mpr c4; have c4b1 := bne_iff_ne.mpr c4; have H' := m0 H; clear H; obtain ⟨Ao7, co7, eo7⟩ := Kd.R_slice HO0.out; subst eo7; go_enter Try.func141, Try.ntmps141
  go_wp2_with (first | ((with_reducible refine gc 158 rfl ?_); refine gl (some 10) Try.func158 #[.slice Ao7 l0.length co7, .func (.func 143) #[] #[.pointer (some ⟨B, 0, none⟩)]] ?_; (with_reducible refine (TR_158.calls k _ _ l0 a1 t196 B _ ?sideb ?side1 ?side2 A3.out).mono ?_); (case sideb => exact (by (with_reducible repeat (first | refine blk_drewN ?_ _ | refine blk_drew ?_ | refine blk_alloc ?_ _)); exact HX.out)); (case side1 => exact bc (Kd.R_reads' HO0.out).2.2); (case side2 => exact (Kd.R_reads' HO0.out).2.1); rintro e w8 ⟨rfl, hb⟩; refine ⟨_, rfl, ?_⟩; replace HO0 := rb HO0 hb; replace HK := m0 (Kept.below (S := (fun k_ => P0_ k_)) (by repeat (first | (with_reducible first | exact HK.out | apply Kept.alloc | apply Kept.drewN | apply Kept.drew) | exact HK.out)) hb); replace HB := sb HB hb; (try clear hb)))
  go_loopg [5, 6] k (fun kq v5 v6 w' => ∃ (x0_1 : List (S85)) (x5_1 : Int) (x6_1 : Int), v5 = .int .i64 x5_1 ∧ v6 = .int .i64 x6_1 ∧ Aside0 (TR_141.l0 kq x0_1 a1 x5_1 x6_1 = some r) ∧ Aside0 (kq ≤ k) ∧ Aside0 (Kd.R k85 85 w' w0.heap.size (fun k_ => (P0_ k_ ∨ w.heap.size ≤ k_)) (.slice Ao7 l0.length co7) x0_1) ∧ Aside0 (Kept w w' (fun k_ => P0_ k_)) ∧ Aside0 (Below w0.heap.size w0 w'))
  case atStart => exact ⟨(l0), (t196), (wrap64 (t196 + 1)), rz, rz, H', ⟨Nat.le_refl _⟩, ⟨br HO0.out⟩, ⟨by repeat (first | (with_reducible first | exact HK.out | apply Kept.alloc | apply Kept.drewN | apply Kept.drew) | exact HK.out)⟩, ⟨bz⟩⟩
  case round =>
   clear H'; obtain ⟨x0_1, x5_1, x6_1, rfl, rfl, HA, HK1, HO_0, HK, HB⟩ := hrel; have hl0_1 := (Kd.R_reads' HO_0.out).1; rw [hl0_1] at HO_0; (try simp only [hl0_1])
   cases gk with
   | zero => exact absurd HA.out (by simp [TR_141.l0])
   | succ k1 =>
    have H := HA.out; clear HA; simp only [TR_141.l0] at H
    by_cases c9 : x6_1 < (x0_1.length : Int)
    ·rw [if_pos c9] at H; have c9b0 := decide_eq_true c9; clear c9
     by_cases c10 : 0 ≤ x6_1
     ·rw [if_pos c10] at H; have c10b0 := decide_eq_true c10; clear c10; replace H := oa H; obtain ⟨t199, A11, H⟩ := H; (try dsimp only at H)
      by_cases c12 : t199 = true
      ·subst c12; rw [if_pos rfl] at H; have H' := m0 H; clear H; have p197 : 0 ≤ (x6_1 : Int) := od; have q197 : x6_1 < (x0_1.length : Int) := od; obtain ⟨ad197, e197, hx197_0, hx197_1, hx197_2⟩ := at_T85 (Kd.R_reads' HO_0.out).2.2 x6_1 p197 q197
       cases e197
       replace p197 := eq_true p197; replace q197 := eq_true q197
       go_wp2_with (first | ((with_reducible refine ga 7 rfl ?_); refine be 7 85 #[.int .i64 0, .int .i64 0, .int .i64 0] ?_; intro gb198 hg w13 hbox hb; replace HO_0 := m0 (Kd.R_below (Kd.R_elderB (br HO_0.out) gb198 (Nat.le_of_eq hg.symm)) hb); have BK198 := m0 hbox; have GW198 := m0 ((by rw [hg]; exact (by first | exact HK.out.1 | exact (show Kept w _ (fun k_ => P0_ k_) from by repeat (first | (with_reducible first | exact HK.out | apply Kept.alloc | apply Kept.drewN | apply Kept.drew) | exact HK.out)).1) : w.heap.size ≤ gb198)); replace HK := m0 (Kept.below (S := (fun k_ => P0_ k_)) (by repeat (first | (with_reducible first | exact HK.out | apply Kept.alloc | apply Kept.drewN | apply Kept.drew) | exact HK.out)) hb); have GE198 := m0 ((by rw [hg]; exact (below_size bz) : w0.heap.size ≤ gb198)); replace HB := sb HB hb; clear hb hbox hg; obtain ⟨_, _, _, _, _, _⟩ := b3 BK198) | ((with_reducible refine gate_via_ (t := 26) rfl ?_); refine goesLC_ (some 28) rfl rfl 26 #[.pointer (some ⟨B, 0, none⟩)] Try.func143 (by kernel_rfl) rfl #[.agg #[.int .i64 ((rd_T85 x0_1 x6_1).f0), .int .i64 ((rd_T85 x0_1 x6_1).f1), .int .i64 ((rd_T85 x0_1 x6_1).f2)], .pointer (some ⟨B, 0, none⟩)] rfl (by rfl) (by first | rfl | (simp; done) | (simp; rfl)) ?_; (with_reducible refine (L_fitted_1.calls ((rd_T85 x0_1 x6_1).f0) ((rd_T85 x0_1 x6_1).f1) ((rd_T85 x0_1 x6_1).f2) a1 true B _ ?sideb A11.out).mono ?_); (case sideb => exact (by (with_reducible repeat (first | refine blk_drewN ?_ _ | refine blk_drew ?_ | refine blk_alloc ?_ _)); exact blk_kept HX.out (show Kept w _ (fun k_ => P0_ k_) from by repeat (first | (with_reducible first | exact HK.out | apply Kept.alloc | apply Kept.drewN | apply Kept.drew | refine Kept.setCell ?_ (.inr GW198.out) _) | exact HK.out)) HPB.out)); rintro e w15 ⟨rfl, hb⟩; refine ⟨_, rfl, ?_⟩; replace HO_0 := m0 (Kd.R_below (by (with_reducible repeat (first | apply Kd.R_alloc | apply Kd.R_drewN | apply Kd.R_drew)); exact (Kd.R_mono (rf (rf (rf (rn gb198 HO_0.out (·.2)) (·.2)) (·.2)) (·.2)) (fun _ h_ => h_.1))) hb); replace BK198 := m0 (blk_below (g := gb198) (o := .cells #[.int .i64 ((rd_T85 x0_1 x6_1).f0), .int .i64 ((rd_T85 x0_1 x6_1).f1), .int .i64 ((rd_T85 x0_1 x6_1).f2)] 85 (0, 0)) (bq BK198.out) hb); replace HK := m0 (Kept.below (S := (fun k_ => P0_ k_)) (by repeat (first | (with_reducible first | exact HK.out | apply Kept.alloc | apply Kept.drewN | apply Kept.drew | refine Kept.setCell ?_ (.inr GW198.out) _) | exact HK.out)) hb); replace HB := sb HB hb; (try clear hb)))
       (try simp only [← hl0_1])
       go_roundg k1
       case measure => have := HK1.out; omega
       case rel => exact ⟨(x0_1), (x5_1), (wrap64 (x6_1 + 1)), rz, rz, H', ⟨by have := HK1.out; omega⟩, ⟨by (try simp only [hl0_1]); (with_reducible repeat (first | apply Kd.R_alloc | apply Kd.R_drewN | apply Kd.R_drew)); exact Kd.R_mono HO_0.out (fun _ hk => hk.1)⟩, ⟨by repeat (first | (with_reducible first | exact HK.out | apply Kept.alloc | apply Kept.drewN | apply Kept.drew | refine Kept.setCell ?_ (.inr GW198.out) _) | exact HK.out)⟩, ⟨bz⟩⟩
      ·replace c12 := Bool.eq_false_iff.mpr c12; subst c12; rw [if_neg (show ¬ (false = true) by decide)] at H
       by_cases c16 : 0 ≤ x5_1
       ·rw [if_pos c16] at H; have c16b0 := decide_eq_true c16; clear c16
        by_cases c17 : x5_1 < (x0_1.length : Int)
        ·rw [if_pos c17] at H; have c17b0 := decide_eq_true c17; clear c17; obtain ⟨y200, hy200⟩ : ∃ y_ : List (S85), y_ = (x0_1.set (x5_1 : Int).toNat (⟨(rd_T85 x0_1 x6_1).f0, (rd_T85 x0_1 x6_1).f1, (rd_T85 x0_1 x6_1).f2⟩ : S85)) := ⟨_, rfl⟩; replace H : (TR_141.l0 k1 y200 a1 (wrap64 (x5_1 + 1)) (wrap64 (x6_1 + 1))) = some r := by first | (rw [hy200]; with_reducible exact H) | (have H2_ := (Option.bind_some _ _).symm.trans H; rw [hy200]; with_reducible exact H2_) | (have H2_ := (Option.bind_some _ _).symm.trans H; with_reducible exact H2_) | with_reducible exact H | (rw [hy200]; exact H) | exact H
         have Ny200 := m0 hy200; clear hy200; have H' := m0 H; clear H; have p197 : 0 ≤ (x6_1 : Int) := od; have q197 : x6_1 < (x0_1.length : Int) := od; obtain ⟨ad197, e197, hx197_0, hx197_1, hx197_2⟩ := at_T85 (Kd.R_reads' HO_0.out).2.2 x6_1 p197 q197
         cases e197
         replace p197 := eq_true p197; replace q197 := eq_true q197
         go_wp2_with (first | ((with_reducible refine ga 7 rfl ?_); refine be 7 85 #[.int .i64 0, .int .i64 0, .int .i64 0] ?_; intro gb198 hg w19 hbox hb; replace HO_0 := m0 (Kd.R_below (Kd.R_elderB (br HO_0.out) gb198 (Nat.le_of_eq hg.symm)) hb); have BK198 := m0 hbox; have GW198 := m0 ((by rw [hg]; exact (by first | exact HK.out.1 | exact (show Kept w _ (fun k_ => P0_ k_) from by repeat (first | (with_reducible first | exact HK.out | apply Kept.alloc | apply Kept.drewN | apply Kept.drew) | exact HK.out)).1) : w.heap.size ≤ gb198)); replace HK := m0 (Kept.below (S := (fun k_ => P0_ k_)) (by repeat (first | (with_reducible first | exact HK.out | apply Kept.alloc | apply Kept.drewN | apply Kept.drew) | exact HK.out)) hb); have GE198 := m0 ((by rw [hg]; exact (below_size bz) : w0.heap.size ≤ gb198)); replace HB := sb HB hb; clear hb hbox hg; obtain ⟨_, _, _, _, _, _⟩ := b3 BK198) | ((with_reducible refine gate_via_ (t := 26) rfl ?_); refine goesLC_ (some 28) rfl rfl 26 #[.pointer (some ⟨B, 0, none⟩)] Try.func143 (by kernel_rfl) rfl #[.agg #[.int .i64 ((rd_T85 x0_1 x6_1).f0), .int .i64 ((rd_T85 x0_1 x6_1).f1), .int .i64 ((rd_T85 x0_1 x6_1).f2)], .pointer (some ⟨B, 0, none⟩)] rfl (by rfl) (by first | rfl | (simp; done) | (simp; rfl)) ?_; (with_reducible refine (L_fitted_1.calls ((rd_T85 x0_1 x6_1).f0) ((rd_T85 x0_1 x6_1).f1) ((rd_T85 x0_1 x6_1).f2) a1 false B _ ?sideb A11.out).mono ?_); (case sideb => exact (by (with_reducible repeat (first | refine blk_drewN ?_ _ | refine blk_drew ?_ | refine blk_alloc ?_ _)); exact blk_kept HX.out (show Kept w _ (fun k_ => P0_ k_) from by repeat (first | (with_reducible first | exact HK.out | apply Kept.alloc | apply Kept.drewN | apply Kept.drew | refine Kept.setCell ?_ (.inr GW198.out) _) | exact HK.out)) HPB.out)); rintro e w21 ⟨rfl, hb⟩; refine ⟨_, rfl, ?_⟩; replace HO_0 := m0 (Kd.R_below (by (with_reducible repeat (first | apply Kd.R_alloc | apply Kd.R_drewN | apply Kd.R_drew)); exact (Kd.R_mono (rf (rf (rf (rn gb198 HO_0.out (·.2)) (·.2)) (·.2)) (·.2)) (fun _ h_ => h_.1))) hb); replace BK198 := m0 (blk_below (g := gb198) (o := .cells #[.int .i64 ((rd_T85 x0_1 x6_1).f0), .int .i64 ((rd_T85 x0_1 x6_1).f1), .int .i64 ((rd_T85 x0_1 x6_1).f2)] 85 (0, 0)) (bq BK198.out) hb); replace HK := m0 (Kept.below (S := (fun k_ => P0_ k_)) (by repeat (first | (with_reducible first | exact HK.out | apply Kept.alloc | apply Kept.drewN | apply Kept.drew | refine Kept.setCell ?_ (.inr GW198.out) _) | exact HK.out)) hb); replace HB := sb HB hb; (try clear hb); obtain ⟨_, _, _, _, _, _⟩ := b3 BK198; have p18 : 0 ≤ (x5_1 : Int) := od; have q18 : (x5_1 : Int) < ((x0_1.length : Int) : Int) := od; obtain ⟨go18, co18, eo18, gb18, gl18, cl18, HG18⟩ := Kd.R_form HO_0.out (by omega); (first | cases eo18 | (injection eo18 with ea_ en_ ec_; (first | subst ea_ | (injection ea_ with ea_; subst ea_)); subst ec_; clear en_)); have GB18 := m0 gb18; have GG18 := m0 HG18; clear gb18 gl18 HG18; have HMgo18 := m0 (show (P0_ go18 ∨ w.heap.size ≤ go18) from (HO_0.out.1 _ rfl).1); (first | simp only [add_plain] at hx197_0 | skip); (first | simp only [add_plain] at hx197_1 | skip); (first | simp only [add_plain] at hx197_2 | skip); obtain ⟨ce18, hcl18, hM18, hcc18, hfr18⟩ := Kd.R_elem HO_0.out z85 (x5_1 : Int) p18 q18; obtain rfl := k85_openM hM18; have hx18_0 : w21.cell? ⟨go18, (x5_1 : Int).toNat * 3, none⟩ = some (.int .i64 ((rd_T85 x0_1 x5_1).f0)) := hcc18 0 _ rfl; have hx18_1 : w21.cell? ⟨go18, (x5_1 : Int).toNat * 3 + 1, none⟩ = some (.int .i64 ((rd_T85 x0_1 x5_1).f1)) := hcc18 1 _ rfl; have hx18_2 : w21.cell? ⟨go18, (x5_1 : Int).toNat * 3 + 2, none⟩ = some (.int .i64 ((rd_T85 x0_1 x5_1).f2)) := hcc18 2 _ rfl; have hf18_0 : w21.frozen? ⟨go18, (x5_1 : Int).toNat * 3, none⟩ = false := hfr18 0; have hf18_1 : w21.frozen? ⟨go18, (x5_1 : Int).toNat * 3 + 1, none⟩ = false := hfr18 1; have hf18_2 : w21.frozen? ⟨go18, (x5_1 : Int).toNat * 3 + 2, none⟩ = false := hfr18 2; clear hcl18 hcc18 hfr18 hM18; replace p18 := eq_true p18; replace q18 := eq_true q18; have HX23 := m0 (show Kd.R k85 85 w21 w0.heap.size (fun k_ => (P0_ k_ ∨ w.heap.size ≤ k_) ∧ k_ ≠ gb198) (.slice (some ⟨go18, 0, none⟩) x0_1.length co7) x0_1 from (br HO_0.out)); obtain ⟨ce23, hcl23, hM23, hcc23, hfr23⟩ := Kd.R_elem HX23.out z85 (x5_1 : Int) (od) (by have h_ : (x5_1 : Int) < ((x0_1.length : Int) : Int) := od; first | exact h_ | (have e_ := (Kd.R_reads' HO_0.out).1; omega) | simpa using h_); obtain rfl := k85_openM hM23; have HP23 := Kd.R_seg HX23.out (x5_1 : Int) (od) (by have h_ : (x5_1 : Int) < ((x0_1.length : Int) : Int) := od; first | exact h_ | (have e_ := (Kd.R_reads' HO_0.out).1; omega) | simpa using h_) (seg := [.int .i64 ((rd_T85 x0_1 x6_1).f0), .int .i64 ((rd_T85 x0_1 x6_1).f1), .int .i64 ((rd_T85 x0_1 x6_1).f2)]) (j := 0) hcl23 hcc23 (show 3 ≤ 3 from by decide) (x' := (⟨(rd_T85 x0_1 x6_1).f0, (rd_T85 x0_1 x6_1).f1, (rd_T85 x0_1 x6_1).f2⟩ : S85)) (k85_mkM _ _ _ (⟨(rd_T85 x0_1 x6_1).f0, (rd_T85 x0_1 x6_1).f1, (rd_T85 x0_1 x6_1).f2⟩ : S85) ) (fun _ hk => hk); have hx23_0 := hcc23 0 _ rfl; (try simp only [show (k85).sz = 3 from rfl, Nat.mul_one, Nat.add_zero] at hx23_0); have hf23_0 := hfr23 0; (try simp only [show (k85).sz = 3 from rfl, Nat.mul_one, Nat.add_zero] at hf23_0); have hx23_1 := hcc23 1 _ rfl; (try simp only [show (k85).sz = 3 from rfl, Nat.mul_one, Nat.add_zero] at hx23_1); have hf23_1 := hfr23 1; (try simp only [show (k85).sz = 3 from rfl, Nat.mul_one, Nat.add_zero] at hf23_1); have hx23_2 := hcc23 2 _ rfl; (try simp only [show (k85).sz = 3 from rfl, Nat.mul_one, Nat.add_zero] at hx23_2); have hf23_2 := hfr23 2; (try simp only [show (k85).sz = 3 from rfl, Nat.mul_one, Nat.add_zero] at hf23_2); clear hcl23 hcc23 hfr23 hM23) | ((with_reducible refine gate_store (t := 85) (p := 33) rfl ?_); refine store_event (t := 85) (p := 33) (v := ?vo_w24) (w1 := (((w21.setCell ⟨go18, (x5_1 : Int).toNat * 3, none⟩ (.int .i64 ((rd_T85 x0_1 x6_1).f0))).setCell ⟨go18, (x5_1 : Int).toNat * 3 + 1, none⟩ (.int .i64 ((rd_T85 x0_1 x6_1).f1))).setCell ⟨go18, (x5_1 : Int).toNat * 3 + 2, none⟩ (.int .i64 ((rd_T85 x0_1 x6_1).f2)))) ?hg ?ho ?hn ?hr ?_; (case ho => rfl); (case hg => rfl); (case hn => rfl); (case hr => first | (go_simp; done) | (go_simp; rfl)); intro w24 hw; have hg : w21.grownBy w24 (some go18) := (by rw [hw]; exact HP23.2); have hp_ : Kd.R k85 85 w24 w0.heap.size (fun k_ => (P0_ k_ ∨ w.heap.size ≤ k_) ∧ k_ ≠ gb198) (.slice (some ⟨go18, 0, none⟩) x0_1.length co7) y200 := (by rw [hw, Ny200.out]; exact HP23.1); clear HP23; replace BK198 := m0 (blk_grown (g := gb198) (o := .cells #[.int .i64 ((rd_T85 x0_1 x6_1).f0), .int .i64 ((rd_T85 x0_1 x6_1).f1), .int .i64 ((rd_T85 x0_1 x6_1).f2)] 85 (0, 0)) (bk BK198.out) hg (Kd.R_away HO_0.out (fun _ hk => hk.2))); replace HB := m0 ((by rw [hw]; exact below_set (below_set (below_set (HB.out) GB18.out) GB18.out) GB18.out : Below w0.heap.size w0 w24)); replace HK := m0 (Kept.of_grown (S := (fun k_ => P0_ k_)) hg (by repeat (first | (with_reducible first | exact HK.out | apply Kept.alloc | apply Kept.drewN | apply Kept.drew | refine Kept.setCell ?_ (.inr GW198.out) _) | exact HK.out)) (fun k_ e_ => (HO_0.out.1 k_ e_).1)); replace HO_0 := m0 (hp_); clear hg hw hp_))
         (try simp only [← hl0_1])
         go_roundg k1
         case measure => have := HK1.out; omega
         case rel => exact ⟨(y200), (wrap64 (x5_1 + 1)), (wrap64 (x6_1 + 1)), rz, rz, H', ⟨by have := HK1.out; omega⟩, ⟨by (try simp only [hl0_1]); (with_reducible repeat (first | apply Kd.R_alloc | apply Kd.R_drewN | apply Kd.R_drew)); exact Kd.R_mono HO_0.out (fun _ hk => hk.1)⟩, ⟨by repeat (first | (with_reducible first | exact HK.out | apply Kept.alloc | apply Kept.drewN | apply Kept.drew | refine Kept.setCell ?_ (.inr GW198.out) _) | exact HK.out)⟩, ⟨bz⟩⟩
        ·rw [if_neg c17] at H; exact absurd H (by simp)
       ·rw [if_neg c16] at H; exact absurd H (by simp)
     ·rw [if_neg c10] at H; exact absurd H (by simp)
    ·rw [if_neg c9] at H; have c9b0 := decide_eq_false c9; clear c9
     by_cases c25 : 0 ≤ x5_1
     ·rw [if_pos c25] at H; have c25b0 := eq_true c25; have c25b1 := decide_eq_true c25; clear c25
      by_cases c26 : x5_1 ≤ (x0_1.length : Int)
      ·rw [if_pos c26] at H; have c26b0 := eq_true c26; have c26b1 := decide_eq_true c26; clear c26; obtain ⟨y201, hy201⟩ : ∃ y_ : List (S85), y_ = (x0_1.take (x5_1 : Int).toNat) := ⟨_, rfl⟩; replace H : (some y201) = some r := by first | (rw [hy201]; with_reducible exact H) | (have H2_ := (Option.bind_some _ _).symm.trans H; rw [hy201]; with_reducible exact H2_) | (have H2_ := (Option.bind_some _ _).symm.trans H; with_reducible exact H2_) | with_reducible exact H | (rw [hy201]; exact H) | exact H
       have Ny201 := m0 hy201; clear hy201; obtain rfl := Option.some.inj H; have q27 : (x5_1 : Int) ≤ ((x0_1.length : Int) : Int) := od; obtain ⟨i027, hi027, _, hsz27, _⟩ := info_parts info85; have hcut27 := cut_to (P := Try.prog) 67 85 .i64 Try.underlying67 hi027 Ao7 x0_1.length co7 x5_1 (od) q27 (Kd.R_reads' HO_0.out).2.1; have hcutf := cut_from (P := Try.prog) 67 85 .i64 Try.underlying67 hi027 3 hsz27 Ao7 x0_1.length co7 x5_1 (od) q27; obtain ⟨w50, hclr, hr27, hgr50⟩ := clear_tail (x5_1 : Int).toNat HO_0.out (by omega); have n0_ := m0 (Kept.of_grown hgr50 HK.out (fun k hk => HO_0.out.1 k hk)); have n1_ := m0 (below_grown85 HB.out HO_0.out hgr50); clear HK HB hgr50; have HK := n0_; have HB := n1_; clear n0_ n1_; generalize (if co7 = (x5_1 : Int).toNat then Ao7 else Ao7.map (·.add ((x5_1 : Int).toNat * 3))) = Ac at hcutf hclr; generalize x0_1.length - (x5_1 : Int).toNat = nc at hcutf hclr; generalize co7 - (x5_1 : Int).toNat = cc at hcutf hclr; have hy27 : y201.length = (x5_1 : Int).toNat := (by rw [Ny201.out, List.length_take]; omega); rw [← Ny201.out] at hr27; rw [← hy27] at hr27 hcut27; clear hy27 hi027 hsz27 HO_0; have HO203 := m0 hr27; clear hr27; replace q27 := eq_true q27
       go_wp2
       go_ret
       exact ⟨_, by first | rfl | (simp [errW_none, errW_some] <;> rfl) | (simp [*, errW_none, errW_some] <;> rfl), by (with_reducible repeat (first | apply Kd.R_alloc | apply Kd.R_drewN | apply Kd.R_drew)); exact HO203.out, by repeat (first | (with_reducible first | exact HB.out | apply below_alloc | apply pw_below_drewN | apply below_drew1) | exact HB.out), by repeat (first | (with_reducible first | exact HK.out | apply Kept.alloc | apply Kept.drewN | apply Kept.drew) | exact HK.out)⟩
      ·rw [if_neg c26] at H; exact absurd H (by simp)
     ·rw [if_neg c25] at H; exact absurd H (by simp)
end
section
def TR_142.f (l0 : List (S85)) : Option ((List (S85))) := (some (([] : List (S85)) : List (S85))).bind fun y189 => (if y189.length + l0.length < 5864062014805 then (some (y189 ++ l0)) else (none))
theorem TR_142.calls (A0 : Option Addr) (c0 : Nat) (l0 : List (S85)) (r : List (S85)) (w : World) (hr0 : Kd.C k85 w A0 l0.length l0) (hc0 : l0.length ≤ c0) (H : TR_142.f l0 = some r) :
  Calls Try.prog 142 #[.slice A0 l0.length c0] w fun e w' => ∃ v0_ : Value, e = .returned (v0_) ∧ Kd.R k85 85 w' w.heap.size (fun _ => True) v0_ r ∧ Below w.heap.size w w' := by
 have HR0 := m0 hr0; have HC0 := m0 hc0; clear hr0 hc0; have HB := m0 (Below.refl w.heap.size w); unfold TR_142.f at H; obtain ⟨y189, hy189⟩ : ∃ y_ : List (S85), y_ = (([] : List (S85))) := ⟨_, rfl⟩; replace H : (if y189.length + l0.length < 5864062014805 then (some (y189 ++ l0)) else (none)) = some r := by first | (rw [hy189]; with_reducible exact H) | (have H2_ := (Option.bind_some _ _).symm.trans H; rw [hy189]; with_reducible exact H2_) | (have H2_ := (Option.bind_some _ _).symm.trans H; with_reducible exact H2_) | with_reducible exact H | (rw [hy189]; exact H) | exact H
 have Ny189 := m0 hy189; clear hy189
 by_cases c2 : y189.length + l0.length < 5864062014805
 ·rw [if_pos c2] at H; have LMc2 := m0 c2; clear c2; obtain ⟨y192, hy192⟩ : ∃ y_ : List (S85), y_ = (y189 ++ l0) := ⟨_, rfl⟩; replace H : (some y192) = some r := by first | (rw [hy192]; with_reducible exact H) | (have H2_ := (Option.bind_some _ _).symm.trans H; rw [hy192]; with_reducible exact H2_) | (have H2_ := (Option.bind_some _ _).symm.trans H; with_reducible exact H2_) | with_reducible exact H | (rw [hy192]; exact H) | exact H
  have Ny192 := m0 hy192; clear hy192; obtain rfl := Option.some.inj H; have q67 : ∀ (w : World) (a : Option Addr) (n c n' c' : Nat), (binOp .eql 67 (.slice a n c) (.slice none n' c')).run Try.prog w = .ok (.bool a.isNone) w := fun w a n c n' c' => Lib.run_eql_slice_nil w _ _ a n c n' c' Try.underlying67
  cases A0 with
  | none =>
   have hl : l0 = [] := by
    have h3 := HR0.out.2.2
    cases l0 with
    | nil => rfl
    | cons x l => obtain ⟨ad, e, _⟩ := h3 (Nat.succ_pos _); cases e
   have hy : y192 = [] := by rw [Ny192.out, Ny189.out, hl]; rfl
   subst hy; go_enter Try.func142, Try.ntmps142
   go_wp2
   go_ret
   exact ⟨_, rfl, Kd.R_nil _ _ _ _ _, by repeat (first | (with_reducible first | exact HB.out | apply below_alloc | apply pw_below_drewN | apply below_drew1) | exact HB.out)⟩
  | some ad =>
   go_enter Try.func142, Try.ntmps142
   go_wp2_with (first | ((with_reducible refine ga 5 rfl ?_); refine Kd.R_lit k85 _ 85 ?hg (N := 5) ?hd (xs := ([] : List (S85))) (inner := []) (ok := fun _ => True) (okp := fun _ => True) ?hr ?hp (fun _ hk => hk) trivial (Below.refl _ _) (Nat.le_refl _) (by simp) ?_; (case hd => rfl); (case hg => rfl); (case hr => first | (go_simp; done) | (go_simp; rfl)); (case hp => exact (Reps.none _ _)); intro v190 w3 ho4 hb hg_ hnew_; clear hg_ hnew_; (first | rw [← Ny189.out] at ho4 | (simp only [Int.reduceToNat] at ho4; rw [← Ny189.out] at ho4)); have HO191 := m0 (Kd.R_lower ho4 (below_size bz)); replace HB := sb HB hb; clear hb ho4) | ((with_reducible refine gate_builtin (b := .append) (xs := #[.tmp 5, .tmp 6]) rfl ?_); at_builtin; refine Kd.R_append_rows k85 (w0 := w) w.heap.size rfl (.tmp 5) (.tmp 6) 67 85 (.agg #[(.int .i64 0), (.int .i64 0), (.int .i64 0)]) 24 rfl Try.underlying67 info85 rfl (by decide) (by omega) v190 y189 l0 _ _ _ (fun _ => True) (fun _ => False) rfl rfl ?aO ?aR (fun _ _ h => h) (fun _ h => h.elim) ?aF ?aB ?aS ?aL ?_; (case aR => exact cb HR0 HB); (case aB => exact bz); (case aF => exact (fun _ _ => trivial)); (case aO => exact (br HO191.out)); (case aS => exact (below_size bz)); (case aL => have := LMc2.out; omega); intro v193 w5 ho hb hg hat; rw [← Ny192.out] at ho; have n0_ := m0 (hb); have n1_ := m0 (ho); clear HB; clear HO191; have HB := n0_; have HO194 := n1_; clear n0_ n1_; clear ho hb hg hat))
   go_ret
   exact ⟨_, by first | rfl | (simp [errW_none, errW_some] <;> rfl) | (simp [*, errW_none, errW_some] <;> rfl), by (with_reducible repeat (first | apply Kd.R_alloc | apply Kd.R_drewN | apply Kd.R_drew)); exact HO194.out, by repeat (first | (with_reducible first | exact HB.out | apply below_alloc | apply pw_below_drewN | apply below_drew1) | exact HB.out)⟩
 ·rw [if_neg c2] at H; exact absurd H (by simp)
end
section
def L_fitted.f (k : Nat) (l0 : List (S85)) (a1 : Int) : Option ((List (S85))) := (TR_142.f l0).bind fun t205 => ((TR_141.f k t205 a1).bind fun t208 => (some t208))
theorem L_fitted.mono : ∀ a0 a1 k, LeO (L_fitted.f k a0 a1) (L_fitted.f (k + 1) a0 a1) := by
 intro a0 a1 k; unfold L_fitted.f
 repeat' with_reducible first
  | exact TR_141.mono ..
  | exact LeO.refl ..
  | exact LeO.none ..
  | refine LeO.ite ?_ ?_
  | refine LeO.bind ?_ (fun _ => ?_)
theorem L_fitted.calls (k : Nat) (A0 : Option Addr) (c0 : Nat) (l0 : List (S85)) (a1 : Int) (r : List (S85)) (w : World) (hr0 : Kd.C k85 w A0 l0.length l0) (hc0 : l0.length ≤ c0) (H : L_fitted.f k l0 a1 = some r) :
  Calls Try.prog 115 #[.slice A0 l0.length c0, .int .i64 a1] w fun e w' => ∃ v0_ : Value, e = .returned (v0_) ∧ Kd.R k85 85 w' w.heap.size (fun _ => True) v0_ r ∧ Below w.heap.size w w' := by
 have HR0 := m0 hr0; have HC0 := m0 hc0; clear hr0 hc0; have HB := m0 (Below.refl w.heap.size w); unfold L_fitted.f at H; replace H := oa H; obtain ⟨t205, A3, H⟩ := H; (try dsimp only at H); replace H := oa H; obtain ⟨t208, A4, H⟩ := H; (try dsimp only at H); obtain rfl := Option.some.inj H; go_enter Try.func115, Try.ntmps115
 go_wp2_with (first | ((with_reducible refine ga 3 rfl ?_); refine be 3 3 #[.int .i64 a1] ?_; intro gb204 hg w5 hbox hb; have BK204 := m0 hbox; have GE204 := gw w hg; replace HB := sb HB hb; clear hb hbox hg) | ((with_reducible refine gc 142 rfl ?_); refine gl (some 6) Try.func142 #[.slice A0 l0.length c0] ?_; (with_reducible refine (TR_142.calls _ _ l0 t205 _ ?side1 ?side2 A3.out).mono ?_); (case side1 => exact cb HR0 HB); (case side2 => exact HC0.out); rintro e w6 ⟨v206, rfl, ho0, hb⟩; refine ⟨_, rfl, ?_⟩; have HO207 := m0 (Kd.R_lower ho0 (below_size bz)); replace BK204 := bb BK204 hb; replace HB := sb HB hb; (try clear hb); (try clear ho0); obtain ⟨_, _⟩ := b1 BK204; obtain ⟨Ao8, co8, eo8⟩ := Kd.R_slice HO207.out; subst eo8) | ((with_reducible refine gc 141 rfl ?_); refine gl (some 8) Try.func141 #[.slice Ao8 t205.length co8, .func (.func 143) #[] #[.pointer (some ⟨gb204, 0, none⟩)]] ?_; (with_reducible refine (TR_141.calls k (fun k_ => some k_ = (.slice Ao8 t205.length co8 : Value).ownBlock) (.slice Ao8 t205.length co8) t205 a1 t208 gb204 w _ ?sideb ?sidep ?side1 ?side2 A4.out).mono ?_); (case sideb => exact (bk BK204.out)); (case sidep => exact fun e_ => (Kd.R_ne HO207.out BK204.out (by decide)) e_); (case side1 => repeat (first | (with_reducible first | exact HB.out | apply below_alloc | apply pw_below_drewN | apply below_drew1 | refine below_set ?_ GE204.out) | exact HB.out)); (case side2 => exact Kd.R_tight rfl HO207.out); rintro e w9 ⟨v209, rfl, ho0, hb, hkp⟩; refine ⟨_, rfl, ?_⟩; have n0_ := m0 (blk_kept (bk BK204.out) hkp (fun hs_ => (fun e_ => (Kd.R_ne HO207.out BK204.out (by decide)) e_) hs_)); have n1_ := m0 (Kd.R_mono (ok' := fun k_ => True) ho0 (fun k_ hk_ => trivial)); have n2_ := m0 (hb); clear BK204; clear HB; clear HO207; have BK204 := n0_; have HO210 := n1_; have HB := n2_; clear n0_ n1_ n2_; (try clear hb); (try clear hkp); (try clear ho0)))
 go_ret
 exact ⟨_, by first | rfl | (simp [errW_none, errW_some] <;> rfl) | (simp [*, errW_none, errW_some] <;> rfl), by (with_reducible repeat (first | apply Kd.R_alloc | apply Kd.R_drewN | apply Kd.R_drew)); exact HO210.out, by repeat (first | (with_reducible first | exact HB.out | apply below_alloc | apply pw_below_drewN | apply below_drew1 | refine below_set ?_ GE204.out) | exact HB.out)⟩
end
end Go.Proofs.Ytibhfahbabgbaaa.A
