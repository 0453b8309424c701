/- Walks of the program's functions (printed, made shorter), each with what it computes. -/
import Derived.Test.YtibhfahbabgbaaaTX07
import Derived.Shelf.Abstract
namespace Go.Proofs.Ytibhfahbabgbaaa.A
set_option maxHeartbeats 8000000
set_option maxRecDepth 100000
open Go.RowKit Go.Proofs.YtibhfahbabgbaaaW.PrintWords Go.Proofs.YtibhfahbabgbaaaW.PrintLast Go.Proofs.YtibhfahbabgbaaaW.PrintMore
attribute [local go_sem] max2_int min2_int max_two min_two max_three min_three max_four min_four
set_option linter.unusedVariables false
set_option linter.unusedSimpArgs false
section
mutual
def L_divisor.l0 : Nat → Int → List Int → Int → Int → Option (Int)
  | 0, _, _, _, _ => none
  | k + 1, x3, x6, x7, x8 => if x8 < x7 then (if 0 ≤ x8 then (if x8 < (x6.length : Int) then (L_divisor.l1 k x3 (rd x6 x8) x6 x7 x8) else (none)) else (none)) else (some (mx x3 (wrap64 (-x3))))
def L_divisor.l1 : Nat → Int → Int → List Int → Int → Int → Option (Int)
  | 0, _, _, _, _, _ => none
  | k + 1, x3, x5, x6, x7, x8 => if x5 = 0 then (L_divisor.l0 k x3 x6 x7 (wrap64 (x8 + 1))) else (L_divisor.l1 k x5 (Int.tmod x3 x5) x6 x7 x8)
end
def L_divisor.f (k : Nat) (l0 : List Int) : Option (Int) := L_divisor.l0 k 0 l0 (l0.length : Int) 0
theorem L_divisor.mono_l : ∀ k, (∀ y0 y1 y2 y3, LeO (L_divisor.l0 k y0 y1 y2 y3) (L_divisor.l0 (k + 1) y0 y1 y2 y3)) ∧ (∀ y0 y1 y2 y3 y4, LeO (L_divisor.l1 k y0 y1 y2 y3 y4) (L_divisor.l1 (k + 1) y0 y1 y2 y3 y4))
  | 0 => ⟨fun _ _ _ _ r h => by simp [L_divisor.l0] at h, fun _ _ _ _ _ r h => by simp [L_divisor.l1] at h⟩
  | k + 1 => by
    obtain ⟨ih0, ih1⟩ := L_divisor.mono_l k; refine ⟨?_, ?_⟩
    · intro y0 y1 y2 y3; unfold L_divisor.l0
      repeat' with_reducible first
        | exact ih0 ..
        | exact ih1 ..
        | exact LeO.refl ..
        | exact LeO.none ..
        | refine LeO.ite ?_ ?_
        | refine LeO.bind ?_ (fun _ => ?_)
    · intro y0 y1 y2 y3 y4; unfold L_divisor.l1
      repeat' with_reducible first
        | exact ih0 ..
        | exact ih1 ..
        | exact LeO.refl ..
        | exact LeO.none ..
        | refine LeO.ite ?_ ?_
        | refine LeO.bind ?_ (fun _ => ?_)
theorem L_divisor.mono : ∀ a0 k, LeO (L_divisor.f k a0) (L_divisor.f (k + 1) a0) := by
  intro a0 k; obtain ⟨ih0, ih1⟩ := L_divisor.mono_l k; unfold L_divisor.f
  repeat' with_reducible first
    | exact ih0 ..
    | exact ih1 ..
    | exact LeO.refl ..
    | exact LeO.none ..
    | refine LeO.ite ?_ ?_
    | refine LeO.bind ?_ (fun _ => ?_)
theorem L_divisor.calls (k : Nat) (A0 : Option Addr) (c0 : Nat) (l0 : List Int) (r : Int) (w : World) (hr0 : Kd.C (Kd.int .i64) w A0 l0.length l0) (hc0 : l0.length ≤ c0) (H : L_divisor.f k l0 = some r) :
    Calls Try.prog 97 #[.slice A0 l0.length c0] w fun e w' => e = .returned (.int .i64 r) ∧ Below w.heap.size w w' := by
  have HR0 := m0 hr0; have HC0 := m0 hc0; clear hr0 hc0; have HB := m0 (Below.refl w.heap.size w); unfold L_divisor.f at H; have H' := m0 H; clear H; go_enter Try.func97, Try.ntmps97
  go_wp2
  repeat (go_quiet (fail); try go_wp2)
  go_loopg [3, 8] k (fun kq v3 v8 w' => ∃ (x3_1 : Int) (x8_1 : Int), v3 = .int .i64 x3_1 ∧ v8 = .int .i64 x8_1 ∧ Aside0 (L_divisor.l0 kq x3_1 l0 (l0.length : Int) x8_1 = some r) ∧ Aside0 (kq ≤ k) ∧ Aside0 (Below w.heap.size w w'))
  case atStart => exact ⟨(0), (0), rz, rz, H', ⟨Nat.le_refl _⟩, ⟨bz⟩⟩
  case round =>
    clear H'; obtain ⟨x3_1, x8_1, rfl, rfl, HA, HK1, HB⟩ := hrel
    cases gk with
    | zero => exact absurd HA.out (by simp [L_divisor.l0])
    | succ k1 =>
      have H := HA.out; clear HA; simp only [L_divisor.l0] at H
      by_cases c2 : x8_1 < (l0.length : Int)
      · rw [if_pos c2] at H; have c2b0 := decide_eq_true c2; clear c2
        by_cases c3 : 0 ≤ x8_1
        · rw [if_pos c3] at H; have c3b0 := decide_eq_true c3; clear c3
          by_cases c4 : x8_1 < (l0.length : Int)
          · rw [if_pos c4] at H; have c4b0 := decide_eq_true c4; clear c4; have H' := m0 H; clear H; have p160 : 0 ≤ (x8_1 : Int) := od; have q160 : x8_1 < (l0.length : Int) := od; obtain ⟨ad160, e160, hx160_0⟩ := Kd.at_int HR0.out x8_1 p160 q160
            cases e160
            replace hx160_0 := hc HB hx160_0; replace p160 := eq_true p160; replace q160 := eq_true q160
            go_wp2
            repeat (go_quiet (fail); try go_wp2)
            go_loopg [3, 5] k1 (fun kq v3 v5 w' => ∃ (x3_2 : Int) (x5_2 : Int), v3 = .int .i64 x3_2 ∧ v5 = .int .i64 x5_2 ∧ Aside0 (L_divisor.l1 kq x3_2 x5_2 l0 (l0.length : Int) x8_1 = some r) ∧ Aside0 (kq ≤ k1) ∧ Aside0 (Below w.heap.size w w'))
            case atStart => exact ⟨(x3_1), (rd l0 x8_1), rz, rz, H', ⟨Nat.le_refl _⟩, ⟨bz⟩⟩
            case round =>
              clear H'
              try clear hx1
              try clear hx160_0
              obtain ⟨x3_2, x5_2, rfl, rfl, HA, HK2, HB⟩ := hrel
              cases gk with
              | zero => exact absurd HA.out (by simp [L_divisor.l1])
              | succ k2 =>
                have H := HA.out; clear HA; simp only [L_divisor.l1] at H
                by_cases c5 : x5_2 = 0
                · rw [if_pos c5] at H; have c5b0 := beq_iff_eq.mpr c5; have c5b1 := bne_eq_false_iff_eq.mpr c5; clear c5; have H' := m0 H; clear H
                  go_wp2
                  repeat (go_quiet (fail); try go_wp2)
                  go_roundg k2
                  case measure => have := HK1.out; have := HK2.out; omega
                  case rel => exact ⟨(x3_2), (wrap64 (x8_1 + 1)), rz, rz, H', ⟨by have := HK1.out; have := HK2.out; omega⟩, ⟨bz⟩⟩
                · rw [if_neg c5] at H; have c5b0 := beq_eq_false_iff_ne.mpr c5; have c5b1 := bne_iff_ne.mpr c5; have H' := m0 H; clear H
                  go_wp2
                  repeat (go_quiet (fail); try go_wp2)
                  go_roundg k2
                  case measure => have := HK1.out; have := HK2.out; omega
                  case rel => exact ⟨(x5_2), (Int.tmod x3_2 x5_2), rz, rz, H', ⟨by have := HK1.out; have := HK2.out; omega⟩, ⟨bz⟩⟩
          · rw [if_neg c4] at H; exact absurd H (by simp)
        · rw [if_neg c3] at H; exact absurd H (by simp)
      · rw [if_neg c2] at H; have c2b0 := decide_eq_false c2; clear c2; obtain ⟨ji6, hji6⟩ : ∃ j_ : Int, (mx x3_1 (wrap64 (-x3_1))) = j_ := ⟨_, rfl⟩; replace H : (some ji6) = some r := by first | (rw [hji6] at H; exact H) | (simp only [hji6] at H ⊢; exact H)
        have hji6_ : (if x3_1 < (wrap64 (-x3_1)) then (wrap64 (-x3_1)) else x3_1) = ji6 := hji6; obtain rfl := Option.some.inj H
        go_wp2
        repeat (go_quiet (fail); try go_wp2)
        go_ret
        exact ⟨by first | rfl | (simp [errW_none, errW_some] <;> rfl) | (simp only [← hji6]; first | rfl | (simp [errW_none, errW_some] <;> rfl)) | (simp [*, errW_none, errW_some] <;> rfl), by repeat (first | (with_reducible first | exact HB.out | apply below_alloc | apply pw_below_drewN | apply below_drew1) | exact HB.out)⟩
end
section
def L_LineOf.f (k : Nat) (l0 : List (S85)) : Option (Int × Int × Int × Int) := (L_open.f k l0).bind fun bt162 => (if bt162.2.2.2.2.2.2 = 0 then ((L_sums_shared.f bt162.1 bt162.2.1 bt162.2.2.1 bt162.2.2.2.1 bt162.2.2.2.2.1 bt162.2.2.2.2.2.1).bind fun t170 => ((L_sums_spread.f bt162.1 bt162.2.1 bt162.2.2.1 bt162.2.2.2.1 bt162.2.2.2.2.1 bt162.2.2.2.2.2.1).bind fun t171 => ((L_divisor.f k (([t170, wrap64 ((wrap64 (bt162.2.2.1 * bt162.2.2.2.1)) - (wrap64 (bt162.2.1 * bt162.2.2.2.2.1))), t171] : List Int))).bind fun t176 => (if t176 = 0 then (none) else (some (wrap64 (Int.tdiv t170 t176), wrap64 (Int.tdiv (wrap64 ((wrap64 (bt162.2.2.1 * bt162.2.2.2.1)) - (wrap64 (bt162.2.1 * bt162.2.2.2.2.1)))) t176), wrap64 (Int.tdiv t171 t176), 0)))))) else (some (0, 0, 0, bt162.2.2.2.2.2.2)))
theorem L_LineOf.mono : ∀ a0 k, LeO (L_LineOf.f k a0) (L_LineOf.f (k + 1) a0) := by
 intro a0 k; unfold L_LineOf.f
 repeat' with_reducible first
  | exact L_divisor.mono ..
  | exact L_open.mono ..
  | exact LeO.refl ..
  | exact LeO.none ..
  | refine LeO.ite ?_ ?_
  | refine LeO.bind ?_ (fun _ => ?_)
def L_LineOf.T4 : Bool × List (List Nat × List Nat) := (true, [([], []), ([0], [0]), ([], []), ([2], [2]), ([], []), ([4], [4]), ([3, 5], [3, 5]), ([], []), ([7], [7]), ([], []), ([9], [9]), ([8, 10], [8, 10]), ([6, 11], [6, 11]), ([], []), ([13, 1], [13]), ([1, 12, 14], [1, 12, 14]), ([], []), ([16, 15, 14, 0, 1, 2, 3, 4, 5, 6, 7, 8, 9, 10, 11, 12, 13, 14, 15, 16], [15, 16])])
def L_LineOf.B4 : List Nat := [0, 1, 0, 4, 0, 16, 60, 0, 128, 0, 512, 1920, 4092, 0, 8195, 32767, 0, 131071]
theorem L_LineOf.tab4 : rtab .any (opsOf Try.f37 4) = L_LineOf.T4 := by kernel_rfl
theorem L_LineOf.bits4 : waitsOk L_LineOf.T4.2 L_LineOf.B4 = true := by kernel_rfl
def L_LineOf.T6 : Bool × List (List Nat × List Nat) := (true, [([], []), ([0], [0]), ([], []), ([1, 2], [1, 2]), ([], []), ([4], [4]), ([], []), ([5, 6], [5, 6]), ([], []), ([8], [8]), ([], []), ([9, 10], [9, 10]), ([3, 7, 11], [3, 7, 11]), ([12, 0, 1, 2, 3, 4, 5, 6, 7, 8, 9, 10, 11, 12], [12]), ([13, 0, 1, 2, 3, 4, 5, 6, 7, 8, 9, 10, 11, 12, 13], [])])
def L_LineOf.B6 : List Nat := [0, 1, 0, 7, 0, 16, 0, 112, 0, 256, 0, 1792, 4095, 8191, 16383]
theorem L_LineOf.tab6 : rtab .any (opsOf Try.f37 6) = L_LineOf.T6 := by kernel_rfl
theorem L_LineOf.bits6 : waitsOk L_LineOf.T6.2 L_LineOf.B6 = true := by kernel_rfl
theorem L_LineOf.calls (k : Nat) (A0 : Option Addr) (c0 : Nat) (l0 : List (S85)) (r1 : Int) (r2 : Int) (r3 : Int) (r4 : Int) (w : World) (hr0 : Kd.C k85 w A0 l0.length l0) (hc0 : l0.length ≤ c0) (H : L_LineOf.f k l0 = some (r1, r2, r3, r4)) :
  Calls Try.prog 37 #[.slice A0 l0.length c0] w fun e w' => e = .returned (.tuple #[.agg #[.int .i64 r1, .int .i64 r2, .int .i64 r3], .int .i64 r4]) ∧ Below w.heap.size w w' := by
 have hu56 := Try.underlying56; have hu149 := Try.underlying149; have HR0 := m0 hr0; have HC0 := m0 hc0; clear hr0 hc0; have HB := m0 (Below.refl w.heap.size w); unfold L_LineOf.f at H; replace H := oa H; obtain ⟨⟨t162, t163, t164, t165, t166, t167, t168⟩, A2, H⟩ := H; (try dsimp only at H)
 by_cases c3 : t168 = 0
 ·rw [if_pos c3] at H; have c3b0 := beq_iff_eq.mpr c3; have c3b1 := bne_eq_false_iff_eq.mpr c3; clear c3; replace H := oa H; obtain ⟨t170, A4, H⟩ := H; (try dsimp only at H); replace H := oa H; obtain ⟨t171, A5, H⟩ := H; (try dsimp only at H); obtain ⟨y173, hy173⟩ : ∃ y_ : List Int, y_ = (([t170, wrap64 ((wrap64 (t164 * t165)) - (wrap64 (t163 * t166))), t171] : List Int)) := ⟨_, rfl⟩; replace H : ((L_divisor.f k y173).bind fun t176 => (if t176 = 0 then (none) else (some (wrap64 (Int.tdiv t170 t176), wrap64 (Int.tdiv (wrap64 ((wrap64 (t164 * t165)) - (wrap64 (t163 * t166)))) t176), wrap64 (Int.tdiv t171 t176), 0)))) = some (r1, r2, r3, r4) := by first | (rw [hy173]; with_reducible exact H) | (have H2_ := (Option.bind_some _ _).symm.trans H; rw [hy173]; with_reducible exact H2_) | (have H2_ := (Option.bind_some _ _).symm.trans H; with_reducible exact H2_) | with_reducible exact H | (rw [hy173]; exact H) | exact H
  have Ny173 := m0 hy173; clear hy173; replace H := oa H; obtain ⟨t176, A6, H⟩ := H; (try dsimp only at H)
  by_cases c7 : t176 = 0
  ·rw [if_pos c7] at H; exact absurd H (by simp)
  ·rw [if_neg c7] at H; have c7b0 := beq_eq_false_iff_ne.mpr c7; have c7b1 := bne_iff_ne.mpr c7; simp only [Option.some.injEq, Prod.mk.injEq] at H; obtain ⟨rfl, rfl, rfl, rfl⟩ := H; go_enter Try.func37, Try.ntmps37
   try go_wp2_with (first | ((with_reducible refine ga 2 rfl ?_); refine be 2 56 #[.int .i64 0, .int .i64 0, .int .i64 0] ?_; intro gb161 hg w8 hbox hb; have BK161 := m0 hbox; have GE161 := gw w hg; replace HB := sb HB hb; clear hb hbox hg) | ((with_reducible refine gc 94 rfl ?_); refine gl (some 10) Try.func94 #[.slice A0 l0.length c0] ?_; (with_reducible refine (L_open.calls k _ _ l0 t162 t163 t164 t165 t166 t167 t168 _ ?side1 ?side2 A2.out).mono ?_); (case side1 => exact cb HR0 HB); (case side2 => exact HC0.out); rintro e w9 ⟨rfl, hb⟩; refine ⟨_, rfl, ?_⟩; replace BK161 := bb BK161 hb; replace HB := sb HB hb; (try clear hb)) | ((with_reducible refine ga 4 rfl ?_); refine be 4 149 #[.int .i64 0, .int .i64 0, .int .i64 0, .int .i64 0, .int .i64 0, .int .i64 0] ?_; intro gb169 hg w10 hbox hb; have BK169 := m0 hbox; have GE169 := gw w hg; replace HB := sb HB hb; have NB161_169 := nl BK161 hg; have NB169_161 := ng (nl BK161 hg); replace BK161 := bb BK161 hb; clear hb hbox hg; have hnb11 := NB169_161.out; have hnc11 := NB161_169.out; obtain ⟨_, _, _, _, _, _, _, _, _, _, _, _⟩ := b6 BK169))
   replace BK161 : Aside0 (((((((w10.setCell ⟨gb169, 0, none⟩ (.int .i64 t162)).setCell ⟨gb169, 1, none⟩ (.int .i64 t163)).setCell ⟨gb169, 2, none⟩ (.int .i64 t164)).setCell ⟨gb169, 3, none⟩ (.int .i64 t165)).setCell ⟨gb169, 4, none⟩ (.int .i64 t166)).setCell ⟨gb169, 5, none⟩ (.int .i64 t167)).heap[gb161]? = some (.cells #[.int .i64 0, .int .i64 0, .int .i64 0] 56 (0, 0))) := ⟨bq BK161.out⟩; replace BK169 : Aside0 (((((((w10.setCell ⟨gb169, 0, none⟩ (.int .i64 t162)).setCell ⟨gb169, 1, none⟩ (.int .i64 t163)).setCell ⟨gb169, 2, none⟩ (.int .i64 t164)).setCell ⟨gb169, 3, none⟩ (.int .i64 t165)).setCell ⟨gb169, 4, none⟩ (.int .i64 t166)).setCell ⟨gb169, 5, none⟩ (.int .i64 t167)).heap[gb169]? = some (.cells #[.int .i64 t162, .int .i64 t163, .int .i64 t164, .int .i64 t165, .int .i64 t166, .int .i64 t167] 149 (0, 0))) := ⟨bq BK169.out⟩; replace HB : Aside0 (Below w.heap.size w ((((((w10.setCell ⟨gb169, 0, none⟩ (.int .i64 t162)).setCell ⟨gb169, 1, none⟩ (.int .i64 t163)).setCell ⟨gb169, 2, none⟩ (.int .i64 t164)).setCell ⟨gb169, 3, none⟩ (.int .i64 t165)).setCell ⟨gb169, 4, none⟩ (.int .i64 t166)).setCell ⟨gb169, 5, none⟩ (.int .i64 t167))) := ⟨bz⟩; generalize ((((((w10.setCell ⟨gb169, 0, none⟩ (.int .i64 t162)).setCell ⟨gb169, 1, none⟩ (.int .i64 t163)).setCell ⟨gb169, 2, none⟩ (.int .i64 t164)).setCell ⟨gb169, 3, none⟩ (.int .i64 t165)).setCell ⟨gb169, 4, none⟩ (.int .i64 t166)).setCell ⟨gb169, 5, none⟩ (.int .i64 t167)) = w13 at BK161 BK169 HB ⊢; replace BK161 := bd BK161; replace BK169 := bd BK169; replace HB := sd HB; refine start_ (n := 18) (S := fun w' => w'.cell? ⟨gb169, 0, none⟩ = some (.int .i64 t162) ∧ w'.cell? ⟨gb169, 1, none⟩ = some (.int .i64 t163) ∧ w'.cell? ⟨gb169, 2, none⟩ = some (.int .i64 t164) ∧ w'.cell? ⟨gb169, 3, none⟩ = some (.int .i64 t165) ∧ w'.cell? ⟨gb169, 4, none⟩ = some (.int .i64 t166) ∧ w'.cell? ⟨gb169, 5, none⟩ = some (.int .i64 t167)) (ds := []) _ (by kernel_rfl) rfl rfl cz (fun hH => ?_); refine with_tabW L_LineOf.tab4 L_LineOf.bits4 (fun HT_ HW_ => ?_); generalize w13.drew = w14 at BK161 BK169 HB hH ⊢; refine pZ 2 (some 19) (bs 18 4) HT_ ?_; refine pZ 4 (some 21) (bs 18 20) HT_ ?_; refine pZ 7 (some 24) (bs 18 148) HT_ ?_; refine pZ 9 (some 26) (bs 18 660) HT_ ?_; refine takeZ 0 (some 17) (bs 18 661) (tw HT_ HW_) hH ?_; refine takeZ 3 (some 20) (bs 18 669) (tw HT_ HW_) hH ?_; refine takeZ 5 (some 22) (bs 18 701) (tw HT_ HW_) hH ?_; refine pZ 6 (some 23) (bs 18 765) HT_ ?_; refine takeZ 8 (some 25) (bs 18 1021) (tw HT_ HW_) hH ?_; refine takeZ 10 (some 27) (bs 18 2045) (tw HT_ HW_) hH ?_; refine pZ 11 (some 28) (bs 18 4093) HT_ ?_; refine pZ 12 (some 29) (bs 18 8189) HT_ ?_; refine takeZ 13 (some 30) (bs 18 16381) (tw HT_ HW_) hH ?_; refine join_ (σ := Nat) 1 (bs 18 131071) (fun s_ => [(18, .int .i64 t170), (31, .int .i64 t171), (6, .pointer (some ⟨s_, 0, none⟩)), (32, .agg #[.int .i64 t170, .int .i64 (wrap64 ((wrap64 (t164 * t165)) - (wrap64 (t163 * t166)))), .int .i64 t171])]) (fun s_ w' => (w'.cell? ⟨gb169, 0, none⟩ = some (.int .i64 t162) ∧ w'.cell? ⟨gb169, 1, none⟩ = some (.int .i64 t163) ∧ w'.cell? ⟨gb169, 2, none⟩ = some (.int .i64 t164) ∧ w'.cell? ⟨gb169, 3, none⟩ = some (.int .i64 t165) ∧ w'.cell? ⟨gb169, 4, none⟩ = some (.int .i64 t166) ∧ w'.cell? ⟨gb169, 5, none⟩ = some (.int .i64 t167)) ∧ (w'.heap[gb161]? = some (.cells #[.int .i64 0, .int .i64 0, .int .i64 0] 56 (0, 0))) ∧ (w'.heap[gb169]? = some (.cells #[.int .i64 t162, .int .i64 t163, .int .i64 t164, .int .i64 t165, .int .i64 t166, .int .i64 t167] 149 (0, 0))) ∧ (w'.heap[s_]? = some (.cells #[.int .i64 0, .int .i64 0, .int .i64 0] 56 (0, 0))) ∧ (w.heap.size ≤ s_) ∧ (w.heap.size ≤ s_) ∧ (gb161 ≠ s_) ∧ (s_ ≠ gb161) ∧ (gb169 ≠ s_) ∧ (s_ ≠ gb169) ∧ (Below w.heap.size w w')) ?_ ?_; rotate_left
   ·intro hCont; refine two_ (i := 1) (j := 16) (Ni := some 18) (Nj := some 6) (bs 18 16383) (bs 18 81917) rfl rfl rfl rfl (two_of HT_.out (by kernel_rfl)) (by decide) (by decide) (fun K hK => ?_) (fun K hK => ?_)
    ·skip
     refine gz Try.func95 #[.agg #[.int .i64 t162, .int .i64 t163, .int .i64 t164, .int .i64 t165, .int .i64 t166, .int .i64 t167]] ?_
     with_reducible refine (L_sums_shared.calls t162 t163 t164 t165 t166 t167 t170 _ A4.out).mono ?_
     rintro e w15 ⟨rfl, hb⟩; refine ⟨_, rfl, ?_⟩; replace BK161 := bb BK161 hb; replace BK169 := bb BK169 hb; replace HB := sb HB hb; (try clear hb); refine hK.out _ _ cz (fun hH => ?_); clear hK K; refine nz 18 ?_; refine two_ (i := 14) (j := 16) (Ni := some 31) (Nj := some 6) (bs 18 32767) (bs 18 81919) rfl rfl rfl rfl (two_of HT_.out (by kernel_rfl)) (by decide) (by decide) (fun K hK => ?_) (fun K hK => ?_)
     ·skip
      refine gz Try.func96 #[.agg #[.int .i64 t162, .int .i64 t163, .int .i64 t164, .int .i64 t165, .int .i64 t166, .int .i64 t167]] ?_
      with_reducible refine (L_sums_spread.calls t162 t163 t164 t165 t166 t167 t171 _ A5.out).mono ?_
      rintro e w16 ⟨rfl, hb⟩; refine ⟨_, rfl, ?_⟩; replace BK161 := bb BK161 hb; replace BK169 := bb BK169 hb; replace HB := sb HB hb; (try clear hb); refine hK.out _ _ cz (fun hH => ?_); clear hK K; refine nz 31 ?_; refine pZ 15 (some 32) (bs 18 65535) HT_ ?_; refine oneZ 16 (some 6) (bs 18 131071) (o1 HT_) fun K hK => ?_; refine box_step ?hg (N := 6) ?hd (cs := #[.int .i64 0, .int .i64 0, .int .i64 0]) (t := 56) ?hr ?_; (case hd => rfl); (case hg => rfl); (case hr => first | (go_simp; done) | (go_simp; rfl))
      intro gb172 hg w17 hbox hb; have BK172 := m0 hbox; have GW172 := gw w hg; have GE172 := gw w hg; replace HB := sb HB hb; have NB161_172 := nl BK161 hg; have NB172_161 := ng (nl BK161 hg); replace BK161 := bb BK161 hb; have NB169_172 := nl BK169 hg; have NB172_169 := ng (nl BK169 hg); replace BK169 := bb BK169 hb; clear hb hbox hg; refine hK.out _ _ cz (fun hH => ?_); clear hK K; refine nz 6 ?_; exact norm_ (by simp only [putAll, Act.put, List.setIfInBounds_toArray, List.set_cons_zero, List.set_cons_succ]) (hCont (gb172) _ ⟨hH, (bk BK161.out), (bk BK169.out), (bk BK172.out), GW172.out, GE172.out, NB161_172.out, NB172_161.out, NB169_172.out, NB172_169.out, bz⟩)
     ·skip
      refine box_step ?hg (N := 6) ?hd (cs := #[.int .i64 0, .int .i64 0, .int .i64 0]) (t := 56) ?hr ?_; (case hd => rfl); (case hg => rfl); (case hr => first | (go_simp; done) | (go_simp; rfl))
      intro gb172 hg w16 hbox hb; have BK172 := m0 hbox; have GW172 := gw w hg; have GE172 := gw w hg; replace HB := sb HB hb; have NB161_172 := nl BK161 hg; have NB172_161 := ng (nl BK161 hg); replace BK161 := bb BK161 hb; have NB169_172 := nl BK169 hg; have NB172_169 := ng (nl BK169 hg); replace BK169 := bb BK169 hb; clear hb hbox hg; refine hK.out _ _ cz (fun hH => ?_); clear hK K; refine nz 6 ?_; refine oneZ 14 (some 31) (bs 18 98303) (o1 HT_) fun K hK => ?_; refine gz Try.func96 #[.agg #[.int .i64 t162, .int .i64 t163, .int .i64 t164, .int .i64 t165, .int .i64 t166, .int .i64 t167]] ?_
      with_reducible refine (L_sums_spread.calls t162 t163 t164 t165 t166 t167 t171 _ A5.out).mono ?_
      rintro e w17 ⟨rfl, hb⟩; refine ⟨_, rfl, ?_⟩; replace BK161 := bb BK161 hb; replace BK169 := bb BK169 hb; replace BK172 := bb BK172 hb; replace HB := sb HB hb; (try clear hb); refine hK.out _ _ cz (fun hH => ?_); clear hK K; refine nz 31 ?_; refine pZ 15 (some 32) (bs 18 131071) HT_ ?_; exact norm_ (by simp only [putAll, Act.put, List.setIfInBounds_toArray, List.set_cons_zero, List.set_cons_succ]) (hCont (gb172) _ ⟨hH, (bk BK161.out), (bk BK169.out), (bk BK172.out), GW172.out, GE172.out, NB161_172.out, NB172_161.out, NB169_172.out, NB172_169.out, bz⟩)
    ·skip
     refine box_step ?hg (N := 6) ?hd (cs := #[.int .i64 0, .int .i64 0, .int .i64 0]) (t := 56) ?hr ?_; (case hd => rfl); (case hg => rfl); (case hr => first | (go_simp; done) | (go_simp; rfl))
     intro gb172 hg w15 hbox hb; have BK172 := m0 hbox; have GW172 := gw w hg; have GE172 := gw w hg; replace HB := sb HB hb; have NB161_172 := nl BK161 hg; have NB172_161 := ng (nl BK161 hg); replace BK161 := bb BK161 hb; have NB169_172 := nl BK169 hg; have NB172_169 := ng (nl BK169 hg); replace BK169 := bb BK169 hb; clear hb hbox hg; refine hK.out _ _ cz (fun hH => ?_); clear hK K; refine nz 6 ?_; refine oneZ 1 (some 18) (bs 18 81919) (o1 HT_) fun K hK => ?_; refine gz Try.func95 #[.agg #[.int .i64 t162, .int .i64 t163, .int .i64 t164, .int .i64 t165, .int .i64 t166, .int .i64 t167]] ?_
     with_reducible refine (L_sums_shared.calls t162 t163 t164 t165 t166 t167 t170 _ A4.out).mono ?_
     rintro e w16 ⟨rfl, hb⟩; refine ⟨_, rfl, ?_⟩; replace BK161 := bb BK161 hb; replace BK169 := bb BK169 hb; replace BK172 := bb BK172 hb; replace HB := sb HB hb; (try clear hb); refine hK.out _ _ cz (fun hH => ?_); clear hK K; refine nz 18 ?_; refine oneZ 14 (some 31) (bs 18 98303) (o1 HT_) fun K hK => ?_; refine gz Try.func96 #[.agg #[.int .i64 t162, .int .i64 t163, .int .i64 t164, .int .i64 t165, .int .i64 t166, .int .i64 t167]] ?_
     with_reducible refine (L_sums_spread.calls t162 t163 t164 t165 t166 t167 t171 _ A5.out).mono ?_
     rintro e w17 ⟨rfl, hb⟩; refine ⟨_, rfl, ?_⟩; replace BK161 := bb BK161 hb; replace BK169 := bb BK169 hb; replace BK172 := bb BK172 hb; replace HB := sb HB hb; (try clear hb); refine hK.out _ _ cz (fun hH => ?_); clear hK K; refine nz 31 ?_; refine pZ 15 (some 32) (bs 18 131071) HT_ ?_; exact norm_ (by simp only [putAll, Act.put, List.setIfInBounds_toArray, List.set_cons_zero, List.set_cons_succ]) (hCont (gb172) _ ⟨hH, (bk BK161.out), (bk BK169.out), (bk BK172.out), GW172.out, GE172.out, NB161_172.out, NB172_161.out, NB169_172.out, NB172_169.out, bz⟩)
   rintro gb172 w18 ⟨hS_, h0_, h1_, h2_, h3_, h4_, h5_, h6_, h7_, h8_, h9_⟩; clear BK161 BK169 HB; have BK161 : Aside0 (w18.heap[gb161]? = some (.cells #[.int .i64 0, .int .i64 0, .int .i64 0] 56 (0, 0))) := ⟨h0_⟩; have BK169 : Aside0 (w18.heap[gb169]? = some (.cells #[.int .i64 t162, .int .i64 t163, .int .i64 t164, .int .i64 t165, .int .i64 t166, .int .i64 t167] 149 (0, 0))) := ⟨h1_⟩; have BK172 : Aside0 (w18.heap[gb172]? = some (.cells #[.int .i64 0, .int .i64 0, .int .i64 0] 56 (0, 0))) := ⟨h2_⟩; have GW172 : Aside0 (w.heap.size ≤ gb172) := ⟨h3_⟩; have GE172 : Aside0 (w.heap.size ≤ gb172) := ⟨h4_⟩; have NB161_172 : Aside0 (gb161 ≠ gb172) := ⟨h5_⟩; have NB172_161 : Aside0 (gb172 ≠ gb161) := ⟨h6_⟩; have NB169_172 : Aside0 (gb169 ≠ gb172) := ⟨h7_⟩; have NB172_169 : Aside0 (gb172 ≠ gb169) := ⟨h8_⟩; have HB : Aside0 (Below w.heap.size w w18) := ⟨h9_⟩; clear h0_ h1_ h2_ h3_ h4_ h5_ h6_ h7_ h8_ h9_; have hH : w18.cell? ⟨gb169, 0, none⟩ = some (.int .i64 t162) ∧ w18.cell? ⟨gb169, 1, none⟩ = some (.int .i64 t163) ∧ w18.cell? ⟨gb169, 2, none⟩ = some (.int .i64 t164) ∧ w18.cell? ⟨gb169, 3, none⟩ = some (.int .i64 t165) ∧ w18.cell? ⟨gb169, 4, none⟩ = some (.int .i64 t166) ∧ w18.cell? ⟨gb169, 5, none⟩ = some (.int .i64 t167) := hS_; refine norm_ (a' := ?_) ?_ ?_; rotate_left
   ·simp only [putAll, Act.put, List.setIfInBounds_toArray, List.set_cons_zero, List.set_cons_succ]
    rfl
   refine oneZ 17 (none) (bs 18 262143) (o1 HT_) fun K hK => ?_; obtain ⟨hs19, hfs19⟩ := q0 BK172; obtain ⟨hs20, hfs20⟩ := q1 BK172; obtain ⟨hs21, hfs21⟩ := q2 BK172; refine skip_ (w1 := ?_) (by rfl) rfl ?_ ?_; rotate_left
   ·go_simp
    rfl
   refine hK.out _ _ (cf hH) (fun hH => ?_); clear hK K; refine done_ (done_of HT_.out (by kernel_rfl)) ?_; have hnb22 := NB172_161.out; have hnc22 := NB161_172.out; have hnb23 := NB172_169.out; have hnc23 := NB169_172.out; obtain ⟨_, _, _, _, _, _⟩ := b3 BK172
   try go_wp2_with (first | ((with_reducible refine ga 39 rfl ?_); refine Kd.R_lit (Kd.int .i64) _ 3 ?hg (N := 39) ?hd (xs := ([t170, wrap64 ((wrap64 (t164 * t165)) - (wrap64 (t163 * t166))), t171] : List Int)) (inner := [.int .i64 t170, .int .i64 (wrap64 ((wrap64 (t164 * t165)) - (wrap64 (t163 * t166)))), .int .i64 t171]) (ok := fun _ => True) (okp := fun _ => True) ?hr ?hp (fun _ hk => hk) trivial (Below.refl _ _) (Nat.le_refl _) (by simp) ?_; (case hd => rfl); (case hg => rfl); (case hr => first | (go_simp; done) | (go_simp; rfl)); (case hp => exact (Reps.one (ki t170) (Reps.one (ki (wrap64 ((wrap64 (t164 * t165)) - (wrap64 (t163 * t166))))) (Reps.one (ki t171) (Reps.none _ _))))); intro v174 w25 ho26 hb hg_ hnew_; clear hg_ hnew_; (first | rw [← Ny173.out] at ho26 | (simp only [Int.reduceToNat] at ho26; rw [← Ny173.out] at ho26)); have HO175 := m0 (Kd.R_lower ho26 (below_size bz)); replace BK161 := m0 (blk_below (g := gb161) (o := .cells #[.int .i64 0, .int .i64 0, .int .i64 0] 56 (0, 0)) (bq BK161.out) hb); replace BK169 := m0 (blk_below (g := gb169) (o := .cells #[.int .i64 t162, .int .i64 t163, .int .i64 t164, .int .i64 t165, .int .i64 t166, .int .i64 t167] 149 (0, 0)) (bq BK169.out) hb); replace BK172 := m0 (blk_below (g := gb172) (o := .cells #[.int .i64 t170, .int .i64 (wrap64 ((wrap64 (t164 * t165)) - (wrap64 (t163 * t166)))), .int .i64 t171] 56 (0, 0)) (bq BK172.out) hb); replace HB := sb HB hb; clear hb ho26; obtain ⟨Ao27, co27, eo27⟩ := Kd.R_slice HO175.out; subst eo27) | ((with_reducible refine gc 97 rfl ?_); refine gl (some 40) Try.func97 #[.slice Ao27 y173.length co27] ?_; (with_reducible refine (L_divisor.calls k _ _ y173 t176 _ ?side1 ?side2 A6.out).mono ?_); (case side1 => exact bc (Kd.R_reads' HO175.out).2.2); (case side2 => exact (Kd.R_reads' HO175.out).2.1); rintro e w28 ⟨rfl, hb⟩; refine ⟨_, rfl, ?_⟩; replace HO175 := rb HO175 hb; replace BK161 := bb BK161 hb; replace BK169 := bb BK169 hb; replace BK172 := bb BK172 hb; replace HB := sb HB hb; (try clear hb)))
   replace HO175 := m0 (Kd.R_drew HO175.out); replace BK161 := bd BK161; replace BK169 := bd BK169; replace BK172 := bd BK172; replace HB := sd HB; refine start_ (n := 15) (S := fun w' => w'.cell? ⟨gb172, 0, none⟩ = some (.int .i64 t170) ∧ w'.cell? ⟨gb172, 1, none⟩ = some (.int .i64 (wrap64 ((wrap64 (t164 * t165)) - (wrap64 (t163 * t166))))) ∧ w'.cell? ⟨gb172, 2, none⟩ = some (.int .i64 t171)) (ds := []) _ (by kernel_rfl) rfl rfl cz (fun hH => ?_); refine with_tabW L_LineOf.tab6 L_LineOf.bits6 (fun HT_ HW_ => ?_); generalize w28.drew = w29 at HO175 BK161 BK169 BK172 HB hH ⊢; refine pZ 0 (some 41) (bs 15 1) HT_ ?_; refine pZ 2 (some 43) (bs 15 5) HT_ ?_; refine pZ 4 (some 45) (bs 15 21) HT_ ?_; refine pZ 6 (some 47) (bs 15 85) HT_ ?_; refine pZ 8 (some 49) (bs 15 341) HT_ ?_; refine pZ 10 (some 51) (bs 15 1365) HT_ ?_; refine takeZ 1 (some 42) (bs 15 1367) (tw HT_ HW_) hH ?_; refine pZ 3 (some 44) (bs 15 1375) HT_ ?_; refine takeZ 5 (some 46) (bs 15 1407) (tw HT_ HW_) hH ?_; refine pZ 7 (some 48) (bs 15 1535) HT_ ?_; refine takeZ 9 (some 50) (bs 15 2047) (tw HT_ HW_) hH ?_; refine pZ 11 (some 52) (bs 15 4095) HT_ ?_; refine pZ 12 (some 53) (bs 15 8191) HT_ ?_; refine oneZ 13 (none) (bs 15 16383) (o1 HT_) fun K hK => ?_; obtain ⟨hs30, hfs30⟩ := q0 BK161; obtain ⟨hs31, hfs31⟩ := q1 BK161; obtain ⟨hs32, hfs32⟩ := q2 BK161; refine skip_ (w1 := ?_) (by rfl) rfl ?_ ?_; rotate_left
   ·go_simp
    rfl
   refine hK.out _ _ (cf hH) (fun hH => ?_); clear hK K; refine pZ 14 (some 3) (bs 15 32767) HT_ ?_; refine done_ (done_of HT_.out (by kernel_rfl)) ?_
   try go_wp2
   refine bodyPost_ret (results_ct rfl _ _ gb161 56 #[.int .i64 (wrap64 (Int.tdiv t170 t176)), .int .i64 (wrap64 (Int.tdiv (wrap64 ((wrap64 (t164 * t165)) - (wrap64 (t163 * t166)))) t176)), .int .i64 (wrap64 (Int.tdiv t171 t176))] (0, 0) _ rfl (bq BK161.out) Try.underlying56 rfl (by kernel_rfl)) rfl ?_; exact ez
 ·rw [if_neg c3] at H; have c3b0 := beq_eq_false_iff_ne.mpr c3; have c3b1 := bne_iff_ne.mpr c3; simp only [Option.some.injEq, Prod.mk.injEq] at H; obtain ⟨rfl, rfl, rfl, rfl⟩ := H; go_enter Try.func37, Try.ntmps37
  go_wp2_with (first | ((with_reducible refine ga 2 rfl ?_); refine be 2 56 #[.int .i64 0, .int .i64 0, .int .i64 0] ?_; intro gb161 hg w33 hbox hb; have BK161 := m0 hbox; have GE161 := gw w hg; replace HB := sb HB hb; clear hb hbox hg) | ((with_reducible refine gc 94 rfl ?_); refine gl (some 10) Try.func94 #[.slice A0 l0.length c0] ?_; (with_reducible refine (L_open.calls k _ _ l0 t162 t163 t164 t165 t166 t167 t168 _ ?side1 ?side2 A2.out).mono ?_); (case side1 => exact cb HR0 HB); (case side2 => exact HC0.out); rintro e w34 ⟨rfl, hb⟩; refine ⟨_, rfl, ?_⟩; replace BK161 := bb BK161 hb; replace HB := sb HB hb; (try clear hb)) | ((with_reducible refine ga 4 rfl ?_); refine be 4 149 #[.int .i64 0, .int .i64 0, .int .i64 0, .int .i64 0, .int .i64 0, .int .i64 0] ?_; intro gb169 hg w35 hbox hb; have BK169 := m0 hbox; have GE169 := gw w hg; replace HB := sb HB hb; have NB161_169 := nl BK161 hg; have NB169_161 := ng (nl BK161 hg); replace BK161 := bb BK161 hb; clear hb hbox hg; have hnb36 := NB169_161.out; have hnc36 := NB161_169.out; obtain ⟨_, _, _, _, _, _, _, _, _, _, _, _⟩ := b6 BK169; obtain ⟨_, _, _, _, _, _⟩ := b3 BK161))
  refine bodyPost_ret (results_ct rfl _ _ gb161 56 #[.int .i64 0, .int .i64 0, .int .i64 0] (0, 0) _ rfl (by (with_reducible repeat (first | refine blk_drewN ?_ _ | refine blk_drew ?_ | refine blk_alloc ?_ _)); refine blk_put (cs := #[.int .i64 0, .int .i64 0, .int .i64 0]) ?_ 2 _ rfl; (with_reducible repeat (first | refine blk_drewN ?_ _ | refine blk_drew ?_ | refine blk_alloc ?_ _)); refine blk_put (cs := #[.int .i64 0, .int .i64 0, .int .i64 0]) ?_ 1 _ rfl; (with_reducible repeat (first | refine blk_drewN ?_ _ | refine blk_drew ?_ | refine blk_alloc ?_ _)); refine blk_put (cs := #[.int .i64 0, .int .i64 0, .int .i64 0]) ?_ 0 _ rfl; (with_reducible repeat (first | refine blk_drewN ?_ _ | refine blk_drew ?_ | refine blk_alloc ?_ _)); refine blk_far ?_ NB161_169.out _; (with_reducible repeat (first | refine blk_drewN ?_ _ | refine blk_drew ?_ | refine blk_alloc ?_ _)); refine blk_far ?_ NB161_169.out _; (with_reducible repeat (first | refine blk_drewN ?_ _ | refine blk_drew ?_ | refine blk_alloc ?_ _)); refine blk_far ?_ NB161_169.out _; (with_reducible repeat (first | refine blk_drewN ?_ _ | refine blk_drew ?_ | refine blk_alloc ?_ _)); refine blk_far ?_ NB161_169.out _; (with_reducible repeat (first | refine blk_drewN ?_ _ | refine blk_drew ?_ | refine blk_alloc ?_ _)); refine blk_far ?_ NB161_169.out _; (with_reducible repeat (first | refine blk_drewN ?_ _ | refine blk_drew ?_ | refine blk_alloc ?_ _)); refine blk_far ?_ NB161_169.out _; (with_reducible repeat (first | refine blk_drewN ?_ _ | refine blk_drew ?_ | refine blk_alloc ?_ _)); exact BK161.out) Try.underlying56 rfl (by kernel_rfl)) rfl ?_; exact ez
end
section
theorem eqA58 (d : Nat) (w : World) (x0 y0 : Int) (x1 y1 : Int) :
  (Op.equalIn (d + 2) 58 (.agg #[.int .i64 x0, .int .i64 x1]) (.agg #[.int .i64 y0, .int .i64 y1])).run Try.prog w = .ok (x0 == y0 && (x1 == y1)) w := by
 refine eqA_of Try.underlying58 (by kernel_rfl) ?_; refine eqf_cons (by rfl) (by go_simp; rfl) (by go_simp; rfl) (by go_simp) ?_; exact eqf_last (by rfl) (by go_simp; rfl) (by go_simp; rfl) (by go_simp)
end
section
def nameCh (i : Nat) (c : Int) : Bool := decide (97 ≤ wrap64 (Go.bits .or .u8 c 32) ∧ wrap64 (Go.bits .or .u8 c 32) ≤ 122) || (!decide (i = 0) && (decide (c = 45) || decide (48 ≤ wrap64 c ∧ wrap64 c ≤ 57)))
def nameFrom : Nat → List Int → Bool
 | _, [] => true
 | i, c :: r => nameCh i c && nameFrom (i + 1) r
def strNums (s : ByteArray) : List Int := s.data.toList.map fun b => (b.toNat : Int)
def L_isName.f (a0 : ByteArray) : Option Bool := if a0.size ≤ 9223372036854775807 then some (nameFrom 0 (strNums a0) && decide ((1 : Int) ≤ (a0.size : Int) ∧ (a0.size : Int) ≤ 12)) else none
theorem strNums_length (s : ByteArray) : (strNums s).length = s.size := by rw [strNums, List.length_map]; rfl
theorem bytes_below (w : World) (e : TypeId) (s : ByteArray) : Below w.heap.size w (Lib.bytesWorld w e s) :=
 ⟨rfl, rfl, rfl, by rw [Lib.bytesWorld_size]; omega, fun k hk => Lib.bytesWorld_at_old w e s k hk⟩
theorem bytes_C (w : World) (e : TypeId) (s : ByteArray) (hs : s.size ≤ 9223372036854775807) : Kd.C (Kd.int .u8) (Lib.bytesWorld w e s) (some ⟨w.heap.size, 0, none⟩) (strNums s).length (strNums s) := by
 refine ⟨rfl, by rw [strNums_length]; exact hs, fun _ => ⟨_, rfl, ?_⟩⟩; intro j p hp; have hj : j < s.size := by rw [← strNums_length]; exact (List.getElem?_eq_some_iff.1 hp).1
 refine ⟨[.int .u8 p], rfl, rfl, fun i u hu => ?_⟩
 match i, hu with
 | 0, hu =>
  cases hu
  show (Lib.bytesWorld w e s).cell? ((⟨w.heap.size, 0, none⟩ : Addr).add (j * 1 + 0)) = _
  rw [add_plain, Nat.mul_one, Nat.add_zero, Lib.bytesWorld_cell w e s j hj]; have : p = ((s.data.toList.getD j 0).toNat : Int) := by
   simp only [strNums, List.getElem?_map] at hp; obtain ⟨b, hb, rfl⟩ := Option.map_eq_some_iff.1 hp; rw [List.getD_eq_getElem?_getD, hb]; rfl
  rw [this]
 | (k + 1), hu => simp at hu
theorem within_calls (a b c : Int) (w : World) : Calls Try.prog 78 #[.int .i64 a, .int .i64 b, .int .i64 c] w fun e w' => e = .returned (.bool (decide (b ≤ a ∧ a ≤ c))) ∧ ∃ q, w' = w.drewN q :=
 (L_within.calls a b c (decide (b ≤ a ∧ a ≤ c)) w (by unfold L_within.f; by_cases h : b ≤ a <;> simp [h])).mono fun e w' h => ⟨h.1, h.2.out⟩
theorem toNat_up {x : Int} (h : 0 ≤ x) : (x + 1).toNat = x.toNat + 1 := by omega
theorem wrap_up {x : Int} {n : Nat} (h : 0 ≤ x) (h1 : x < (n : Int)) (h2 : n ≤ 9223372036854775807) : wrap64 (x + 1) = x + 1 := by unfold wrap64; omega
theorem up_in {x : Int} {n : Nat} (h : 0 ≤ x) (h1 : x < (n : Int)) : 0 ≤ x + 1 ∧ x + 1 ≤ (n : Int) := by omega
theorem up_left {x : Int} {n : Nat} : (n : Int) - (x + 1) ≤ (((n : Int) - (x + 1)).toNat : Int) := by omega
theorem up_less {x : Int} {n g : Nat} (h : 0 ≤ x) (h1 : x < (n : Int)) (h2 : (n : Int) - x ≤ (g : Int)) : ((n : Int) - (x + 1)).toNat < g := by omega
theorem nameFrom_drop {l : List Int} {i : Nat} (h : i < l.length) : nameFrom i (l.drop i) = (nameCh i (rd l (i : Int)) && nameFrom (i + 1) (l.drop (i + 1))) := by
 rw [List.drop_eq_getElem_cons h, nameFrom]
 congr 2
 simp [rd, List.getD_eq_getElem?_getD, List.getElem?_eq_getElem h]
theorem L_isName.calls (a0 : ByteArray) (r : Bool) (w : World) (h : L_isName.f a0 = some r) :
  Calls Try.prog 77 #[.string a0] w fun e w' => e = .returned (.bool r) ∧ Below w.heap.size w w' := by
 unfold L_isName.f at h
 by_cases hs : a0.size ≤ 9223372036854775807
 case neg => simp [hs] at h
 rw [if_pos hs] at h; obtain rfl := Option.some.inj h; clear h; have kc := fun w : World => Lib.run_convert_string_bytes (P := Try.prog) w 9 180 5 a0 Try.underlying9 Try.underlying180 Try.underlying5; have HB := m0 (bytes_below w 5 a0); have HR := m0 (bytes_C w 5 a0 hs); have HL := m0 (strNums_length a0); have HS := m0 hs; clear hs; go_enter Try.func77, Try.ntmps77
 go_wp2
 clear kc; generalize Lib.bytesWorld w 5 a0 = W0 at HB HR ⊢; generalize grownCap w a0.size 0 5 = cap; generalize (some (⟨w.heap.size, 0, none⟩ : Addr)) = A0 at HR ⊢
 go_loopg [9] a0.size (fun gg s9 wr => ∃ x : Int, s9 = .int .i64 x ∧ Aside0 (0 ≤ x ∧ x ≤ a0.size ∧ (a0.size : Int) - x ≤ gg ∧ nameFrom 0 (strNums a0) = nameFrom x.toNat ((strNums a0).drop x.toNat)) ∧ Drawn0 W0 wr)
 case atStart => exact ⟨0, rfl, ⟨by omega, by omega, by omega, rfl⟩, Drawn0.refl _⟩
 case round =>
  obtain ⟨x, rfl, HA, ⟨q, rfl⟩⟩ := hrel
  by_cases hlt : x < (a0.size : Int)
  ·obtain ⟨ad, e, hx⟩ := Kd.at_int HR.out x HA.out.1 (by rw [HL.out]; exact hlt)
   cases e
   have c1 : decide (x < (a0.size : Int)) = true := decide_eq_true hlt; have p1 := eq_true HA.out.1; have q1 := eq_true hlt; clear hlt; have hn := nameFrom_drop (l := strNums a0) (i := x.toNat) (by rw [HL.out]; have := of_decide_eq_true c1; have := HA.out.1; omega); rw [show ((x.toNat : Nat) : Int) = x by have := HA.out.1; omega] at hn; generalize rd (strNums a0) x = c at hx hn; have hc1 := fun W => within_calls (wrap64 (Go.bits .or .u8 c 32)) 97 122 W; have hc2 := fun W => within_calls (wrap64 c) 48 57 W; have hh : nameCh x.toNat c = (decide (97 ≤ wrap64 (Go.bits .or .u8 c 32) ∧ wrap64 (Go.bits .or .u8 c 32) ≤ 122) || (!decide (x = 0) && (decide (c = 45) || decide (48 ≤ wrap64 c ∧ wrap64 c ≤ 57)))) := by
    unfold nameCh; rw [show decide (x.toNat = 0) = decide (x = 0) from decide_eq_decide.2 (by have := HA.out.1; omega)]
   generalize decide (97 ≤ wrap64 (Go.bits .or .u8 c 32) ∧ wrap64 (Go.bits .or .u8 c 32) ≤ 122) = b1 at hc1 hh; generalize decide (48 ≤ wrap64 c ∧ wrap64 c ≤ 57) = b2 at hc2 hh; have HC1 := m0 hc1; have HC2 := m0 hc2; have HN := m0 hn; have HH := m0 hh; clear hc1 hc2 hn hh
   cases b1 with
   | true =>
    go_wp2_with (first | (go_at_call 78; with_reducible refine (HC1.out _).mono ?_; rintro e w' ⟨rfl, q, rfl⟩) | (go_at_call 78; with_reducible refine (HC2.out _).mono ?_; rintro e w' ⟨rfl, q, rfl⟩))
    obtain ⟨h0, h1, h2, h3⟩ := HA.out; have hc := of_decide_eq_true c1
    go_roundg (a0.size - (x + 1)).toNat
    case measure => exact up_less h0 (of_decide_eq_true c1) h2
    case rel =>
     refine ⟨wrap64 (x + 1), rfl, ⟨?_⟩, by repeat (first | exact Drawn0.refl _ | apply Drawn0.step)⟩; have hs := HS.out; have e1 := wrap_up h0 (of_decide_eq_true c1) HS.out; rw [e1]; refine ⟨(up_in h0 (of_decide_eq_true c1)).1, (up_in h0 (of_decide_eq_true c1)).2, up_left, ?_⟩; rw [h3, HN.out, HH.out, toNat_up h0, Bool.true_or, Bool.true_and]
   | false =>
    by_cases hx0 : x = 0
    ·have e0 : (x == 0) = true := beq_iff_eq.mpr hx0; have HX0 := m0 hx0; clear hx0
     go_wp2_with (first | (go_at_call 78; with_reducible refine (HC1.out _).mono ?_; rintro e w' ⟨rfl, q, rfl⟩) | (go_at_call 78; with_reducible refine (HC2.out _).mono ?_; rintro e w' ⟨rfl, q, rfl⟩))
     go_ret
     refine ⟨ret_bool ?_, below_then HB.out HB.out.size (by repeat (first | exact Below.refl _ _ | apply pw_below_drewN))⟩; obtain ⟨h0, h1, h2, h3⟩ := HA.out; rw [h3, HN.out, HH.out]; simp only [HX0.out, decide_true, decide_false, Bool.not_true, Bool.not_false, Bool.false_and, Bool.true_and, Bool.false_or, Bool.true_or, Bool.or_false, Bool.or_true]
    ·have e0 : (x == 0) = false := beq_eq_false_iff_ne.mpr hx0; have HX0 := m0 hx0; clear hx0
     by_cases hc45 : c = 45
     ·have e2 : (c != 45) = false := bne_eq_false_iff_eq.mpr hc45; have HC45 := m0 hc45; clear hc45
      go_wp2_with (first | (go_at_call 78; with_reducible refine (HC1.out _).mono ?_; rintro e w' ⟨rfl, q, rfl⟩) | (go_at_call 78; with_reducible refine (HC2.out _).mono ?_; rintro e w' ⟨rfl, q, rfl⟩))
      obtain ⟨h0, h1, h2, h3⟩ := HA.out; have hc := of_decide_eq_true c1
      go_roundg (a0.size - (x + 1)).toNat
      case measure => exact up_less h0 (of_decide_eq_true c1) h2
      case rel =>
       refine ⟨wrap64 (x + 1), rfl, ⟨?_⟩, by repeat (first | exact Drawn0.refl _ | apply Drawn0.step)⟩; have hs := HS.out; have e1 := wrap_up h0 (of_decide_eq_true c1) HS.out; rw [e1]; refine ⟨(up_in h0 (of_decide_eq_true c1)).1, (up_in h0 (of_decide_eq_true c1)).2, up_left, ?_⟩; rw [h3, HN.out, HH.out, toNat_up h0]; simp only [HX0.out, HC45.out, decide_true, decide_false, Bool.not_true, Bool.not_false, Bool.false_and, Bool.true_and, Bool.false_or, Bool.true_or, Bool.or_false, Bool.or_true]
     ·have e2 : (c != 45) = true := bne_iff_ne.mpr hc45; have HC45 := m0 hc45; clear hc45
      cases b2 with
      | true =>
       go_wp2_with (first | (go_at_call 78; with_reducible refine (HC1.out _).mono ?_; rintro e w' ⟨rfl, q, rfl⟩) | (go_at_call 78; with_reducible refine (HC2.out _).mono ?_; rintro e w' ⟨rfl, q, rfl⟩))
       obtain ⟨h0, h1, h2, h3⟩ := HA.out; have hc := of_decide_eq_true c1
       go_roundg (a0.size - (x + 1)).toNat
       case measure => exact up_less h0 (of_decide_eq_true c1) h2
       case rel =>
        refine ⟨wrap64 (x + 1), rfl, ⟨?_⟩, by repeat (first | exact Drawn0.refl _ | apply Drawn0.step)⟩; have hs := HS.out; have e1 := wrap_up h0 (of_decide_eq_true c1) HS.out; rw [e1]; refine ⟨(up_in h0 (of_decide_eq_true c1)).1, (up_in h0 (of_decide_eq_true c1)).2, up_left, ?_⟩; rw [h3, HN.out, HH.out, toNat_up h0]; simp only [HX0.out, decide_true, decide_false, Bool.not_true, Bool.not_false, Bool.false_and, Bool.true_and, Bool.false_or, Bool.true_or, Bool.or_false, Bool.or_true]
      | false =>
       go_wp2_with (first | (go_at_call 78; with_reducible refine (HC1.out _).mono ?_; rintro e w' ⟨rfl, q, rfl⟩) | (go_at_call 78; with_reducible refine (HC2.out _).mono ?_; rintro e w' ⟨rfl, q, rfl⟩))
       go_ret
       refine ⟨ret_bool ?_, below_then HB.out HB.out.size (by repeat (first | exact Below.refl _ _ | apply pw_below_drewN))⟩; obtain ⟨h0, h1, h2, h3⟩ := HA.out; rw [h3, HN.out, HH.out]; simp only [HX0.out, HC45.out, decide_true, decide_false, Bool.not_true, Bool.not_false, Bool.false_and, Bool.true_and, Bool.false_or, Bool.true_or, Bool.or_false, Bool.or_true]
  ·have c1 : decide (x < (a0.size : Int)) = false := decide_eq_false hlt; have HX := m0 hlt; clear hlt
   go_wp2_with (first | (go_at_call 78; refine (within_calls _ _ _ _).mono ?_; rintro e w' ⟨rfl, q, rfl⟩))
   go_ret
   refine ⟨ret_bool ?_, below_then HB.out HB.out.size (by repeat (first | exact Below.refl _ _ | apply pw_below_drewN))⟩; obtain ⟨h0, h1, h2, h3⟩ := HA.out; have := HX.out; rw [h3, List.drop_eq_nil_of_le (by rw [HL.out]; omega), nameFrom, Bool.true_and]; exact (Bool.decide_and _ _).symm
end
end Go.Proofs.Ytibhfahbabgbaaa.A
