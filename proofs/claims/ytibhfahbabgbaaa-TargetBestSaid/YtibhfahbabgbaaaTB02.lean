/- Walks of the program's functions (printed, made shorter), each with what it computes. -/
import Derived.Test.YtibhfahbabgbaaaB05
import Derived.Test.YtibhfahbabgbaaaB08
import Derived.Test.YtibhfahbabgbaaaB10
import Derived.Test.YtibhfahbabgbaaaTB01
import Derived.Test.YtibhfahbabgbaaaB04
import Derived.Test.YtibhfahbabgbaaaB12
namespace Go.Proofs.Ytibhfahbabgbaaa.A
set_option maxHeartbeats 8000000
set_option maxRecDepth 100000
open Go.RowKit Go.Proofs.YtibhfahbabgbaaaW.PrintWords Go.Proofs.YtibhfahbabgbaaaW.PrintLast Go.Proofs.YtibhfahbabgbaaaW.PrintMore
attribute [local go_sem] max2_int min2_int max_two min_two max_three min_three max_four min_four
set_option linter.unusedVariables false
set_option linter.unusedSimpArgs false
section
def L_ResidualOf.f (k : Nat) (l0 : List (S85)) : Option (Int × Int × Int) := (L_open.f k l0).bind fun bt624 => (if bt624.2.2.2.2.2.2 = 0 then ((L_sums_square.f bt624.1 bt624.2.1 bt624.2.2.1 bt624.2.2.2.1 bt624.2.2.2.2.1 bt624.2.2.2.2.2.1).bind fun t632 => ((L_sums_spread.f bt624.1 bt624.2.1 bt624.2.2.1 bt624.2.2.2.1 bt624.2.2.2.2.1 bt624.2.2.2.2.2.1).bind fun t633 => ((L_sums_shared.f bt624.1 bt624.2.1 bt624.2.2.1 bt624.2.2.2.1 bt624.2.2.2.2.1 bt624.2.2.2.2.2.1).bind fun t634 => ((L_sums_shared.f bt624.1 bt624.2.1 bt624.2.2.1 bt624.2.2.2.1 bt624.2.2.2.2.1 bt624.2.2.2.2.2.1).bind fun t635 => ((L_sums_spread.f bt624.1 bt624.2.1 bt624.2.2.1 bt624.2.2.2.1 bt624.2.2.2.2.1 bt624.2.2.2.2.2.1).bind fun t636 => ((L_fraction.f k (wrap64 ((wrap64 (t632 * t633)) - (wrap64 (t634 * t635)))) (wrap64 (bt624.1 * t636))).bind fun bt637 => (if bt637.1 > 1000000000 then (some (0, 0, 8)) else (if bt637.2 > 1000000000 then (some (0, 0, 8)) else (some (bt637.1, bt637.2, 0)))))))))) else (some (0, 0, bt624.2.2.2.2.2.2)))
theorem L_ResidualOf.mono : ∀ a0 k, LeO (L_ResidualOf.f k a0) (L_ResidualOf.f (k + 1) a0) := by
 intro a0 k
 unfold L_ResidualOf.f
 repeat' with_reducible first
  | exact L_fraction.mono ..
  | exact L_open.mono ..
  | exact LeO.refl ..
  | exact LeO.none ..
  | refine LeO.ite ?_ ?_
  | refine LeO.bind ?_ (fun _ => ?_)
def L_ResidualOf.T4 : Bool × List (List Nat × List Nat) := (true, [([], []), ([0], [0]), ([], []), ([2, 1], [2]), ([1, 3], [1, 3]), ([], []), ([5, 3], [5]), ([], []), ([7, 6], [7]), ([6, 8], [6, 8]), ([4, 9], [4, 9]), ([], []), ([11], [11]), ([], []), ([13, 8], [13]), ([12, 14], [12, 14]), ([10, 15, 14], [10, 15]), ([], []), ([17, 16, 16, 0, 1, 2, 3, 4, 5, 6, 7, 8, 9, 10, 11, 12, 13, 14, 15, 16, 17], [16, 17])])
def L_ResidualOf.B4 : List Nat := [0, 1, 0, 7, 15, 0, 47, 0, 239, 495, 1023, 0, 2048, 0, 8687, 31215, 65535, 0, 262143]
theorem L_ResidualOf.tab4 : rtab .any (opsOf Try.f39 4) = L_ResidualOf.T4 := by kernel_rfl
theorem L_ResidualOf.bits4 : waitsOk L_ResidualOf.T4.2 L_ResidualOf.B4 = true := by kernel_rfl
theorem L_ResidualOf.calls (k : Nat) (A0 : Option Addr) (c0 : Nat) (l0 : List (S85)) (r1 : Int) (r2 : Int) (r3 : Int) (w : World) (hr0 : Kd.C k85 w A0 l0.length l0) (hc0 : l0.length ≤ c0) (h : L_ResidualOf.f k l0 = some (r1, r2, r3)) :
  Calls Try.prog 39 #[.slice A0 l0.length c0] w fun e w' => e = .returned (.tuple #[.agg #[.int .i64 r1, .int .i64 r2], .int .i64 r3]) ∧ Below w.heap.size w w' := by
 have hu73 := Try.underlying73
 have hu149 := Try.underlying149
 have HR0 := m0 hr0
 have HC0 := m0 hc0
 clear hr0 hc0
 have HB := m0 (Below.refl w.heap.size w)
 have H : ((L_open.f k l0).bind fun bt624 => (if bt624.2.2.2.2.2.2 = 0 then ((L_sums_square.f bt624.1 bt624.2.1 bt624.2.2.1 bt624.2.2.2.1 bt624.2.2.2.2.1 bt624.2.2.2.2.2.1).bind fun t632 => ((L_sums_spread.f bt624.1 bt624.2.1 bt624.2.2.1 bt624.2.2.2.1 bt624.2.2.2.2.1 bt624.2.2.2.2.2.1).bind fun t633 => ((L_sums_shared.f bt624.1 bt624.2.1 bt624.2.2.1 bt624.2.2.2.1 bt624.2.2.2.2.1 bt624.2.2.2.2.2.1).bind fun t634 => ((L_sums_shared.f bt624.1 bt624.2.1 bt624.2.2.1 bt624.2.2.2.1 bt624.2.2.2.2.1 bt624.2.2.2.2.2.1).bind fun t635 => ((L_sums_spread.f bt624.1 bt624.2.1 bt624.2.2.1 bt624.2.2.2.1 bt624.2.2.2.2.1 bt624.2.2.2.2.2.1).bind fun t636 => ((L_fraction.f k (wrap64 ((wrap64 (t632 * t633)) - (wrap64 (t634 * t635)))) (wrap64 (bt624.1 * t636))).bind fun bt637 => (if bt637.1 > 1000000000 then (some (0, 0, 8)) else (if bt637.2 > 1000000000 then (some (0, 0, 8)) else (some (bt637.1, bt637.2, 0)))))))))) else (some (0, 0, bt624.2.2.2.2.2.2)))) = some (r1, r2, r3) := h
 clear h
 replace H := ob H
 obtain ⟨⟨t624, t625, t626, t627, t628, t629, t630⟩, A2, H⟩ := H
 (try dsimp only at H)
 replace A2 := m0 A2
 by_cases c3 : t630 = 0
 ·rw [if_pos c3] at H
  have c3b0 := beq_iff_eq.mpr c3
  have c3b1 := bne_eq_false_iff_eq.mpr c3
  clear c3
  replace H := ob H
  obtain ⟨t632, A4, H⟩ := H
  (try dsimp only at H)
  replace A4 := m0 A4
  replace H := ob H
  obtain ⟨t633, A5, H⟩ := H
  (try dsimp only at H)
  replace A5 := m0 A5
  replace H := ob H
  obtain ⟨t634, A6, H⟩ := H
  (try dsimp only at H)
  replace A6 := m0 A6
  replace H := ob H
  obtain ⟨t635, A7, H⟩ := H
  (try dsimp only at H)
  replace A7 := m0 A7
  replace H := ob H
  obtain ⟨t636, A8, H⟩ := H
  (try dsimp only at H)
  replace A8 := m0 A8
  replace H := ob H
  obtain ⟨⟨t637, t638⟩, A9, H⟩ := H
  (try dsimp only at H)
  replace A9 := m0 A9
  go_enter Try.func39, Try.ntmps39
  try go_wp2_with (first | ((with_reducible refine gate_dst (N := 2) rfl ?_); refine be 2 73 #[.int .i64 0, .int .i64 0] ?_; intro gb623 hg w11 hbox hb; have BK623 := m0 hbox; have GE623 := gw w hg; replace HB := sb HB hb; clear hb hbox hg) | ((with_reducible refine gate_callee (f := 94) rfl ?_); refine gl (some 9) Try.func94 #[.slice A0 l0.length c0] ?_; (with_reducible refine (L_open.calls k _ _ l0 t624 t625 t626 t627 t628 t629 t630 _ ?side1 ?side2 A2.out).mono ?_); (case side1 => exact cb HR0 HB); (case side2 => exact HC0.out); rintro e w12 ⟨rfl, hb⟩; refine ⟨_, rfl, ?_⟩; replace BK623 := bb BK623 hb; replace HB := sb HB hb; (try clear hb)) | ((with_reducible refine gate_dst (N := 4) rfl ?_); refine be 4 149 #[.int .i64 0, .int .i64 0, .int .i64 0, .int .i64 0, .int .i64 0, .int .i64 0] ?_; intro gb631 hg w13 hbox hb; have BK631 := m0 hbox; have GE631 := gw w hg; replace HB := sb HB hb; have NB623_631 := nl BK623 hg; have NB631_623 := ng (nl BK623 hg); replace BK623 := bb BK623 hb; clear hb hbox hg; have hnb14 := NB631_623.out; have hnc14 := NB623_631.out; have hcz15_0 : w13.cell? ⟨gb631, 0, none⟩ = some (.int .i64 0) := (blk_cell BK631.out 0).trans rfl; have hcz15_1 : w13.cell? ⟨gb631, 1, none⟩ = some (.int .i64 0) := (blk_cell BK631.out 1).trans rfl; have hcz15_2 : w13.cell? ⟨gb631, 2, none⟩ = some (.int .i64 0) := (blk_cell BK631.out 2).trans rfl; have hcz15_3 : w13.cell? ⟨gb631, 3, none⟩ = some (.int .i64 0) := (blk_cell BK631.out 3).trans rfl; have hcz15_4 : w13.cell? ⟨gb631, 4, none⟩ = some (.int .i64 0) := (blk_cell BK631.out 4).trans rfl; have hcz15_5 : w13.cell? ⟨gb631, 5, none⟩ = some (.int .i64 0) := (blk_cell BK631.out 5).trans rfl; have hfz15_0 := blk_frozen BK631.out 0; have hfz15_1 := blk_frozen BK631.out 1; have hfz15_2 := blk_frozen BK631.out 2; have hfz15_3 := blk_frozen BK631.out 3; have hfz15_4 := blk_frozen BK631.out 4; have hfz15_5 := blk_frozen BK631.out 5))
  replace BK623 : Aside0 (((((((w13.setCell ⟨gb631, 0, none⟩ (.int .i64 t624)).setCell ⟨gb631, 1, none⟩ (.int .i64 t625)).setCell ⟨gb631, 2, none⟩ (.int .i64 t626)).setCell ⟨gb631, 3, none⟩ (.int .i64 t627)).setCell ⟨gb631, 4, none⟩ (.int .i64 t628)).setCell ⟨gb631, 5, none⟩ (.int .i64 t629)).heap[gb623]? = some (.cells #[.int .i64 0, .int .i64 0] 73 (0, 0))) := ⟨bq BK623.out⟩
  replace BK631 : Aside0 (((((((w13.setCell ⟨gb631, 0, none⟩ (.int .i64 t624)).setCell ⟨gb631, 1, none⟩ (.int .i64 t625)).setCell ⟨gb631, 2, none⟩ (.int .i64 t626)).setCell ⟨gb631, 3, none⟩ (.int .i64 t627)).setCell ⟨gb631, 4, none⟩ (.int .i64 t628)).setCell ⟨gb631, 5, none⟩ (.int .i64 t629)).heap[gb631]? = some (.cells #[.int .i64 t624, .int .i64 t625, .int .i64 t626, .int .i64 t627, .int .i64 t628, .int .i64 t629] 149 (0, 0))) := ⟨bq BK631.out⟩
  replace HB : Aside0 (Below w.heap.size w ((((((w13.setCell ⟨gb631, 0, none⟩ (.int .i64 t624)).setCell ⟨gb631, 1, none⟩ (.int .i64 t625)).setCell ⟨gb631, 2, none⟩ (.int .i64 t626)).setCell ⟨gb631, 3, none⟩ (.int .i64 t627)).setCell ⟨gb631, 4, none⟩ (.int .i64 t628)).setCell ⟨gb631, 5, none⟩ (.int .i64 t629))) := ⟨bz⟩
  generalize ((((((w13.setCell ⟨gb631, 0, none⟩ (.int .i64 t624)).setCell ⟨gb631, 1, none⟩ (.int .i64 t625)).setCell ⟨gb631, 2, none⟩ (.int .i64 t626)).setCell ⟨gb631, 3, none⟩ (.int .i64 t627)).setCell ⟨gb631, 4, none⟩ (.int .i64 t628)).setCell ⟨gb631, 5, none⟩ (.int .i64 t629)) = w16 at BK623 BK631 HB ⊢
  replace BK623 := bd BK623; replace BK631 := bd BK631; replace HB := sd HB
  refine start_ (n := 19) (S := fun w' => w'.cell? ⟨gb631, 0, none⟩ = some (.int .i64 t624) ∧ w'.cell? ⟨gb631, 1, none⟩ = some (.int .i64 t625) ∧ w'.cell? ⟨gb631, 2, none⟩ = some (.int .i64 t626) ∧ w'.cell? ⟨gb631, 3, none⟩ = some (.int .i64 t627) ∧ w'.cell? ⟨gb631, 4, none⟩ = some (.int .i64 t628) ∧ w'.cell? ⟨gb631, 5, none⟩ = some (.int .i64 t629)) (ds := []) #[false, false, false, false, false, false, false, false, false, false, false, false, false, false, false, false, false, false, false] (by kernel_rfl) rfl rfl cz (fun hH => ?_); refine with_tabW L_ResidualOf.tab4 L_ResidualOf.bits4 (fun HT_ HW_ => ?_)
  generalize w16.drew = w17 at BK623 BK631 HB hH ⊢
  refine pZ 11 (some 27) (bs 19 2048) HT_ ?_
  refine takeZ 0 (some 16) (bs 19 2049) (take_ofW HT_.out HW_.out (by kernel_rfl)) hH ?_
  refine takeZ 2 (some 18) (bs 19 2053) (take_ofW HT_.out HW_.out (by kernel_rfl)) hH ?_
  refine takeZ 5 (some 21) (bs 19 2085) (take_ofW HT_.out HW_.out (by kernel_rfl)) hH ?_
  refine takeZ 7 (some 23) (bs 19 2213) (take_ofW HT_.out HW_.out (by kernel_rfl)) hH ?_
  refine takeZ 12 (some 28) (bs 19 6309) (take_ofW HT_.out HW_.out (by kernel_rfl)) hH ?_
  refine takeZ 13 (some 29) (bs 19 14501) (take_ofW HT_.out HW_.out (by kernel_rfl)) hH ?_
  refine join_ (σ := Nat) 1 (bs 19 262143) (fun s_ => [(17, .int .i64 t632), (19, .int .i64 t633), (22, .int .i64 t634), (24, .int .i64 t635), (30, .int .i64 t636), (32, .agg #[.int .i64 t637, .int .i64 t638]), (6, .pointer (some ⟨s_, 0, none⟩)), (20, .int .i64 (wrap64 (t632 * t633))), (25, .int .i64 (wrap64 (t634 * t635))), (26, .int .i64 (wrap64 ((wrap64 (t632 * t633)) - (wrap64 (t634 * t635))))), (31, .int .i64 (wrap64 (t624 * t636)))]) (fun s_ w' => (w'.cell? ⟨gb631, 0, none⟩ = some (.int .i64 t624) ∧ w'.cell? ⟨gb631, 1, none⟩ = some (.int .i64 t625) ∧ w'.cell? ⟨gb631, 2, none⟩ = some (.int .i64 t626) ∧ w'.cell? ⟨gb631, 3, none⟩ = some (.int .i64 t627) ∧ w'.cell? ⟨gb631, 4, none⟩ = some (.int .i64 t628) ∧ w'.cell? ⟨gb631, 5, none⟩ = some (.int .i64 t629)) ∧ (w'.heap[gb623]? = some (.cells #[.int .i64 0, .int .i64 0] 73 (0, 0))) ∧ (w'.heap[gb631]? = some (.cells #[.int .i64 t624, .int .i64 t625, .int .i64 t626, .int .i64 t627, .int .i64 t628, .int .i64 t629] 149 (0, 0))) ∧ (w'.heap[s_]? = some (.cells #[.int .i64 0, .int .i64 0] 73 (0, 0))) ∧ (w.heap.size ≤ s_) ∧ (w.heap.size ≤ s_) ∧ (gb623 ≠ s_) ∧ (s_ ≠ gb623) ∧ (gb631 ≠ s_) ∧ (s_ ≠ gb631) ∧ (Below w.heap.size w w')) ?_ ?_
  rotate_left
  ·intro hJ1_3_6_8_14_16_17
   refine join_ (σ := Unit) 2 (bs 19 131071) (fun s_ => [(17, .int .i64 t632), (19, .int .i64 t633), (22, .int .i64 t634), (24, .int .i64 t635), (30, .int .i64 t636), (32, .agg #[.int .i64 t637, .int .i64 t638]), (20, .int .i64 (wrap64 (t632 * t633))), (25, .int .i64 (wrap64 (t634 * t635))), (26, .int .i64 (wrap64 ((wrap64 (t632 * t633)) - (wrap64 (t634 * t635))))), (31, .int .i64 (wrap64 (t624 * t636)))]) (fun s_ w' => (w'.cell? ⟨gb631, 0, none⟩ = some (.int .i64 t624) ∧ w'.cell? ⟨gb631, 1, none⟩ = some (.int .i64 t625) ∧ w'.cell? ⟨gb631, 2, none⟩ = some (.int .i64 t626) ∧ w'.cell? ⟨gb631, 3, none⟩ = some (.int .i64 t627) ∧ w'.cell? ⟨gb631, 4, none⟩ = some (.int .i64 t628) ∧ w'.cell? ⟨gb631, 5, none⟩ = some (.int .i64 t629)) ∧ (w'.heap[gb623]? = some (.cells #[.int .i64 0, .int .i64 0] 73 (0, 0))) ∧ (w'.heap[gb631]? = some (.cells #[.int .i64 t624, .int .i64 t625, .int .i64 t626, .int .i64 t627, .int .i64 t628, .int .i64 t629] 149 (0, 0))) ∧ (Below w.heap.size w w')) ?_ ?_
   rotate_left
   ·intro hJ1_3_6_8_14_16
    refine join_ (σ := Nat) 2 (bs 19 196607) (fun s_ => [(17, .int .i64 t632), (19, .int .i64 t633), (22, .int .i64 t634), (24, .int .i64 t635), (30, .int .i64 t636), (6, .pointer (some ⟨s_, 0, none⟩)), (20, .int .i64 (wrap64 (t632 * t633))), (25, .int .i64 (wrap64 (t634 * t635))), (26, .int .i64 (wrap64 ((wrap64 (t632 * t633)) - (wrap64 (t634 * t635))))), (31, .int .i64 (wrap64 (t624 * t636)))]) (fun s_ w' => (w'.cell? ⟨gb631, 0, none⟩ = some (.int .i64 t624) ∧ w'.cell? ⟨gb631, 1, none⟩ = some (.int .i64 t625) ∧ w'.cell? ⟨gb631, 2, none⟩ = some (.int .i64 t626) ∧ w'.cell? ⟨gb631, 3, none⟩ = some (.int .i64 t627) ∧ w'.cell? ⟨gb631, 4, none⟩ = some (.int .i64 t628) ∧ w'.cell? ⟨gb631, 5, none⟩ = some (.int .i64 t629)) ∧ (w'.heap[gb623]? = some (.cells #[.int .i64 0, .int .i64 0] 73 (0, 0))) ∧ (w'.heap[gb631]? = some (.cells #[.int .i64 t624, .int .i64 t625, .int .i64 t626, .int .i64 t627, .int .i64 t628, .int .i64 t629] 149 (0, 0))) ∧ (w'.heap[s_]? = some (.cells #[.int .i64 0, .int .i64 0] 73 (0, 0))) ∧ (w.heap.size ≤ s_) ∧ (w.heap.size ≤ s_) ∧ (gb623 ≠ s_) ∧ (s_ ≠ gb623) ∧ (gb631 ≠ s_) ∧ (s_ ≠ gb631) ∧ (Below w.heap.size w w')) ?_ ?_
    rotate_left
    ·intro hJ1_3_6_8_14_17
     refine join_ (σ := Unit) 3 (bs 19 65535) (fun s_ => [(17, .int .i64 t632), (19, .int .i64 t633), (22, .int .i64 t634), (24, .int .i64 t635), (30, .int .i64 t636), (20, .int .i64 (wrap64 (t632 * t633))), (25, .int .i64 (wrap64 (t634 * t635))), (26, .int .i64 (wrap64 ((wrap64 (t632 * t633)) - (wrap64 (t634 * t635))))), (31, .int .i64 (wrap64 (t624 * t636)))]) (fun s_ w' => (w'.cell? ⟨gb631, 0, none⟩ = some (.int .i64 t624) ∧ w'.cell? ⟨gb631, 1, none⟩ = some (.int .i64 t625) ∧ w'.cell? ⟨gb631, 2, none⟩ = some (.int .i64 t626) ∧ w'.cell? ⟨gb631, 3, none⟩ = some (.int .i64 t627) ∧ w'.cell? ⟨gb631, 4, none⟩ = some (.int .i64 t628) ∧ w'.cell? ⟨gb631, 5, none⟩ = some (.int .i64 t629)) ∧ (w'.heap[gb623]? = some (.cells #[.int .i64 0, .int .i64 0] 73 (0, 0))) ∧ (w'.heap[gb631]? = some (.cells #[.int .i64 t624, .int .i64 t625, .int .i64 t626, .int .i64 t627, .int .i64 t628, .int .i64 t629] 149 (0, 0))) ∧ (Below w.heap.size w w')) ?_ ?_
     rotate_left
     ·intro hJ1_3_6_8_14
      refine join_ (σ := Nat) 4 (bs 19 147455) (fun s_ => [(17, .int .i64 t632), (19, .int .i64 t633), (22, .int .i64 t634), (24, .int .i64 t635), (6, .pointer (some ⟨s_, 0, none⟩)), (20, .int .i64 (wrap64 (t632 * t633))), (25, .int .i64 (wrap64 (t634 * t635))), (26, .int .i64 (wrap64 ((wrap64 (t632 * t633)) - (wrap64 (t634 * t635)))))]) (fun s_ w' => (w'.cell? ⟨gb631, 0, none⟩ = some (.int .i64 t624) ∧ w'.cell? ⟨gb631, 1, none⟩ = some (.int .i64 t625) ∧ w'.cell? ⟨gb631, 2, none⟩ = some (.int .i64 t626) ∧ w'.cell? ⟨gb631, 3, none⟩ = some (.int .i64 t627) ∧ w'.cell? ⟨gb631, 4, none⟩ = some (.int .i64 t628) ∧ w'.cell? ⟨gb631, 5, none⟩ = some (.int .i64 t629)) ∧ (w'.heap[gb623]? = some (.cells #[.int .i64 0, .int .i64 0] 73 (0, 0))) ∧ (w'.heap[gb631]? = some (.cells #[.int .i64 t624, .int .i64 t625, .int .i64 t626, .int .i64 t627, .int .i64 t628, .int .i64 t629] 149 (0, 0))) ∧ (w'.heap[s_]? = some (.cells #[.int .i64 0, .int .i64 0] 73 (0, 0))) ∧ (w.heap.size ≤ s_) ∧ (w.heap.size ≤ s_) ∧ (gb623 ≠ s_) ∧ (s_ ≠ gb623) ∧ (gb631 ≠ s_) ∧ (s_ ≠ gb631) ∧ (Below w.heap.size w w')) ?_ ?_
      rotate_left
      ·intro hJ1_3_6_8_17
       refine join_ (σ := Unit) 5 (bs 19 16383) (fun s_ => [(17, .int .i64 t632), (19, .int .i64 t633), (22, .int .i64 t634), (24, .int .i64 t635), (20, .int .i64 (wrap64 (t632 * t633))), (25, .int .i64 (wrap64 (t634 * t635))), (26, .int .i64 (wrap64 ((wrap64 (t632 * t633)) - (wrap64 (t634 * t635)))))]) (fun s_ w' => (w'.cell? ⟨gb631, 0, none⟩ = some (.int .i64 t624) ∧ w'.cell? ⟨gb631, 1, none⟩ = some (.int .i64 t625) ∧ w'.cell? ⟨gb631, 2, none⟩ = some (.int .i64 t626) ∧ w'.cell? ⟨gb631, 3, none⟩ = some (.int .i64 t627) ∧ w'.cell? ⟨gb631, 4, none⟩ = some (.int .i64 t628) ∧ w'.cell? ⟨gb631, 5, none⟩ = some (.int .i64 t629)) ∧ (w'.heap[gb623]? = some (.cells #[.int .i64 0, .int .i64 0] 73 (0, 0))) ∧ (w'.heap[gb631]? = some (.cells #[.int .i64 t624, .int .i64 t625, .int .i64 t626, .int .i64 t627, .int .i64 t628, .int .i64 t629] 149 (0, 0))) ∧ (Below w.heap.size w w')) ?_ ?_
       rotate_left
       ·intro hJ1_3_6_8
        refine join_ (σ := Nat) 7 (bs 19 145663) (fun s_ => [(17, .int .i64 t632), (19, .int .i64 t633), (22, .int .i64 t634), (6, .pointer (some ⟨s_, 0, none⟩)), (20, .int .i64 (wrap64 (t632 * t633)))]) (fun s_ w' => (w'.cell? ⟨gb631, 0, none⟩ = some (.int .i64 t624) ∧ w'.cell? ⟨gb631, 1, none⟩ = some (.int .i64 t625) ∧ w'.cell? ⟨gb631, 2, none⟩ = some (.int .i64 t626) ∧ w'.cell? ⟨gb631, 3, none⟩ = some (.int .i64 t627) ∧ w'.cell? ⟨gb631, 4, none⟩ = some (.int .i64 t628) ∧ w'.cell? ⟨gb631, 5, none⟩ = some (.int .i64 t629)) ∧ (w'.heap[gb623]? = some (.cells #[.int .i64 0, .int .i64 0] 73 (0, 0))) ∧ (w'.heap[gb631]? = some (.cells #[.int .i64 t624, .int .i64 t625, .int .i64 t626, .int .i64 t627, .int .i64 t628, .int .i64 t629] 149 (0, 0))) ∧ (w'.heap[s_]? = some (.cells #[.int .i64 0, .int .i64 0] 73 (0, 0))) ∧ (w.heap.size ≤ s_) ∧ (w.heap.size ≤ s_) ∧ (gb623 ≠ s_) ∧ (s_ ≠ gb623) ∧ (gb631 ≠ s_) ∧ (s_ ≠ gb631) ∧ (Below w.heap.size w w')) ?_ ?_
        rotate_left
        ·intro hJ1_3_6_17
         refine join_ (σ := Unit) 8 (bs 19 14591) (fun s_ => [(17, .int .i64 t632), (19, .int .i64 t633), (22, .int .i64 t634), (20, .int .i64 (wrap64 (t632 * t633)))]) (fun s_ w' => (w'.cell? ⟨gb631, 0, none⟩ = some (.int .i64 t624) ∧ w'.cell? ⟨gb631, 1, none⟩ = some (.int .i64 t625) ∧ w'.cell? ⟨gb631, 2, none⟩ = some (.int .i64 t626) ∧ w'.cell? ⟨gb631, 3, none⟩ = some (.int .i64 t627) ∧ w'.cell? ⟨gb631, 4, none⟩ = some (.int .i64 t628) ∧ w'.cell? ⟨gb631, 5, none⟩ = some (.int .i64 t629)) ∧ (w'.heap[gb623]? = some (.cells #[.int .i64 0, .int .i64 0] 73 (0, 0))) ∧ (w'.heap[gb631]? = some (.cells #[.int .i64 t624, .int .i64 t625, .int .i64 t626, .int .i64 t627, .int .i64 t628, .int .i64 t629] 149 (0, 0))) ∧ (Below w.heap.size w w')) ?_ ?_
         rotate_left
         ·intro hJ1_3_6
          refine join_ (σ := Nat) 8 (bs 19 145599) (fun s_ => [(17, .int .i64 t632), (19, .int .i64 t633), (6, .pointer (some ⟨s_, 0, none⟩)), (20, .int .i64 (wrap64 (t632 * t633)))]) (fun s_ w' => (w'.cell? ⟨gb631, 0, none⟩ = some (.int .i64 t624) ∧ w'.cell? ⟨gb631, 1, none⟩ = some (.int .i64 t625) ∧ w'.cell? ⟨gb631, 2, none⟩ = some (.int .i64 t626) ∧ w'.cell? ⟨gb631, 3, none⟩ = some (.int .i64 t627) ∧ w'.cell? ⟨gb631, 4, none⟩ = some (.int .i64 t628) ∧ w'.cell? ⟨gb631, 5, none⟩ = some (.int .i64 t629)) ∧ (w'.heap[gb623]? = some (.cells #[.int .i64 0, .int .i64 0] 73 (0, 0))) ∧ (w'.heap[gb631]? = some (.cells #[.int .i64 t624, .int .i64 t625, .int .i64 t626, .int .i64 t627, .int .i64 t628, .int .i64 t629] 149 (0, 0))) ∧ (w'.heap[s_]? = some (.cells #[.int .i64 0, .int .i64 0] 73 (0, 0))) ∧ (w.heap.size ≤ s_) ∧ (w.heap.size ≤ s_) ∧ (gb623 ≠ s_) ∧ (s_ ≠ gb623) ∧ (gb631 ≠ s_) ∧ (s_ ≠ gb631) ∧ (Below w.heap.size w w')) ?_ ?_
          rotate_left
          ·intro hJ1_3_17
           refine join_ (σ := Unit) 9 (bs 19 14527) (fun s_ => [(17, .int .i64 t632), (19, .int .i64 t633), (20, .int .i64 (wrap64 (t632 * t633)))]) (fun s_ w' => (w'.cell? ⟨gb631, 0, none⟩ = some (.int .i64 t624) ∧ w'.cell? ⟨gb631, 1, none⟩ = some (.int .i64 t625) ∧ w'.cell? ⟨gb631, 2, none⟩ = some (.int .i64 t626) ∧ w'.cell? ⟨gb631, 3, none⟩ = some (.int .i64 t627) ∧ w'.cell? ⟨gb631, 4, none⟩ = some (.int .i64 t628) ∧ w'.cell? ⟨gb631, 5, none⟩ = some (.int .i64 t629)) ∧ (w'.heap[gb623]? = some (.cells #[.int .i64 0, .int .i64 0] 73 (0, 0))) ∧ (w'.heap[gb631]? = some (.cells #[.int .i64 t624, .int .i64 t625, .int .i64 t626, .int .i64 t627, .int .i64 t628, .int .i64 t629] 149 (0, 0))) ∧ (Below w.heap.size w w')) ?_ ?_
           rotate_left
           ·intro hJ1_3
            refine join_ (σ := Nat) 10 (bs 19 145575) (fun s_ => [(17, .int .i64 t632), (6, .pointer (some ⟨s_, 0, none⟩))]) (fun s_ w' => (w'.cell? ⟨gb631, 0, none⟩ = some (.int .i64 t624) ∧ w'.cell? ⟨gb631, 1, none⟩ = some (.int .i64 t625) ∧ w'.cell? ⟨gb631, 2, none⟩ = some (.int .i64 t626) ∧ w'.cell? ⟨gb631, 3, none⟩ = some (.int .i64 t627) ∧ w'.cell? ⟨gb631, 4, none⟩ = some (.int .i64 t628) ∧ w'.cell? ⟨gb631, 5, none⟩ = some (.int .i64 t629)) ∧ (w'.heap[gb623]? = some (.cells #[.int .i64 0, .int .i64 0] 73 (0, 0))) ∧ (w'.heap[gb631]? = some (.cells #[.int .i64 t624, .int .i64 t625, .int .i64 t626, .int .i64 t627, .int .i64 t628, .int .i64 t629] 149 (0, 0))) ∧ (w'.heap[s_]? = some (.cells #[.int .i64 0, .int .i64 0] 73 (0, 0))) ∧ (w.heap.size ≤ s_) ∧ (w.heap.size ≤ s_) ∧ (gb623 ≠ s_) ∧ (s_ ≠ gb623) ∧ (gb631 ≠ s_) ∧ (s_ ≠ gb631) ∧ (Below w.heap.size w w')) ?_ ?_
            rotate_left
            ·intro hJ1_17
             refine join_ (σ := Unit) 11 (bs 19 14503) (fun s_ => [(17, .int .i64 t632)]) (fun s_ w' => (w'.cell? ⟨gb631, 0, none⟩ = some (.int .i64 t624) ∧ w'.cell? ⟨gb631, 1, none⟩ = some (.int .i64 t625) ∧ w'.cell? ⟨gb631, 2, none⟩ = some (.int .i64 t626) ∧ w'.cell? ⟨gb631, 3, none⟩ = some (.int .i64 t627) ∧ w'.cell? ⟨gb631, 4, none⟩ = some (.int .i64 t628) ∧ w'.cell? ⟨gb631, 5, none⟩ = some (.int .i64 t629)) ∧ (w'.heap[gb623]? = some (.cells #[.int .i64 0, .int .i64 0] 73 (0, 0))) ∧ (w'.heap[gb631]? = some (.cells #[.int .i64 t624, .int .i64 t625, .int .i64 t626, .int .i64 t627, .int .i64 t628, .int .i64 t629] 149 (0, 0))) ∧ (Below w.heap.size w w')) ?_ ?_
             rotate_left
             ·intro hJ1
              refine join_ (σ := Nat) 11 (bs 19 145573) (fun s_ => [(6, .pointer (some ⟨s_, 0, none⟩))]) (fun s_ w' => (w'.cell? ⟨gb631, 0, none⟩ = some (.int .i64 t624) ∧ w'.cell? ⟨gb631, 1, none⟩ = some (.int .i64 t625) ∧ w'.cell? ⟨gb631, 2, none⟩ = some (.int .i64 t626) ∧ w'.cell? ⟨gb631, 3, none⟩ = some (.int .i64 t627) ∧ w'.cell? ⟨gb631, 4, none⟩ = some (.int .i64 t628) ∧ w'.cell? ⟨gb631, 5, none⟩ = some (.int .i64 t629)) ∧ (w'.heap[gb623]? = some (.cells #[.int .i64 0, .int .i64 0] 73 (0, 0))) ∧ (w'.heap[gb631]? = some (.cells #[.int .i64 t624, .int .i64 t625, .int .i64 t626, .int .i64 t627, .int .i64 t628, .int .i64 t629] 149 (0, 0))) ∧ (w'.heap[s_]? = some (.cells #[.int .i64 0, .int .i64 0] 73 (0, 0))) ∧ (w.heap.size ≤ s_) ∧ (w.heap.size ≤ s_) ∧ (gb623 ≠ s_) ∧ (s_ ≠ gb623) ∧ (gb631 ≠ s_) ∧ (s_ ≠ gb631) ∧ (Below w.heap.size w w')) ?_ ?_
              rotate_left
              ·intro hJ17
               refine two_ (i := 1) (j := 17) (Ni := some 17) (Nj := some 6) (bs 19 14503) (bs 19 145573) rfl rfl rfl rfl (two_of HT_.out (by kernel_rfl)) (by decide) (by decide) (fun K hK => ?_) (fun K hK => ?_)
               ·skip
                refine gz Try.func99 #[.agg #[.int .i64 t624, .int .i64 t625, .int .i64 t626, .int .i64 t627, .int .i64 t628, .int .i64 t629]] ?_
                with_reducible refine (L_sums_square.calls t624 t625 t626 t627 t628 t629 t632 _ A4.out).mono ?_
                rintro e w18 ⟨rfl, hb⟩
                refine ⟨_, rfl, ?_⟩
                replace BK623 := bb BK623 hb; replace BK631 := bb BK631 hb; replace HB := sb HB hb
                (try clear hb)
                refine hK.out _ _ cz (fun hH => ?_)
                clear hK K
                refine norm_ (a' := ?_) ?_ ?_
                rotate_left
                ·show Act.put _ (some 17) _ = _
                 exact pz
                exact norm_ (by first | (simp only [putAll, Act.put, List.setIfInBounds_toArray, List.set_cons_zero, List.set_cons_succ]; done) | (simp only [putAll, Act.put, List.setIfInBounds_toArray, List.set_cons_zero, List.set_cons_succ]; rfl)) (hJ1 () _ ⟨hH, (bk BK623.out), (bk BK631.out), bz⟩)
               ·skip
                refine box_step ?hg (N := 6) ?hd (cs := #[.int .i64 0, .int .i64 0]) (t := 73) ?hr ?_; (case hd => rfl); (case hg => rfl); (case hr => first | (go_simp; done) | (go_simp; rfl))
                intro gb639 hg w18 hbox hb
                have BK639 := m0 hbox; have GW639 := gw w hg; have GE639 := gw w hg; replace HB := sb HB hb; have NB623_639 := nl BK623 hg; have NB639_623 := ng (nl BK623 hg); replace BK623 := bb BK623 hb; have NB631_639 := nl BK631 hg; have NB639_631 := ng (nl BK631 hg); replace BK631 := bb BK631 hb
                clear hb hbox hg
                refine hK.out _ _ cz (fun hH => ?_)
                clear hK K
                refine norm_ (a' := ?_) ?_ ?_
                rotate_left
                ·show Act.put _ (some 6) _ = _
                 exact pz
                exact norm_ (by first | (simp only [putAll, Act.put, List.setIfInBounds_toArray, List.set_cons_zero, List.set_cons_succ]; done) | (simp only [putAll, Act.put, List.setIfInBounds_toArray, List.set_cons_zero, List.set_cons_succ]; rfl)) (hJ17 (gb639) _ ⟨hH, (bk BK623.out), (bk BK631.out), (bk BK639.out), GW639.out, GE639.out, NB623_639.out, NB639_623.out, NB631_639.out, NB639_631.out, bz⟩)
              ·skip
               rintro gb639 w19 ⟨hS_, h0_, h1_, h2_, h3_, h4_, h5_, h6_, h7_, h8_, h9_⟩
               have n0_ : Aside0 (w19.heap[gb623]? = some (.cells #[.int .i64 0, .int .i64 0] 73 (0, 0))) := ⟨h0_⟩
               have n1_ : Aside0 (w19.heap[gb631]? = some (.cells #[.int .i64 t624, .int .i64 t625, .int .i64 t626, .int .i64 t627, .int .i64 t628, .int .i64 t629] 149 (0, 0))) := ⟨h1_⟩
               have n2_ : Aside0 (w19.heap[gb639]? = some (.cells #[.int .i64 0, .int .i64 0] 73 (0, 0))) := ⟨h2_⟩
               have n3_ : Aside0 (w.heap.size ≤ gb639) := ⟨h3_⟩
               have n4_ : Aside0 (w.heap.size ≤ gb639) := ⟨h4_⟩
               have n5_ : Aside0 (gb623 ≠ gb639) := ⟨h5_⟩
               have n6_ : Aside0 (gb639 ≠ gb623) := ⟨h6_⟩
               have n7_ : Aside0 (gb631 ≠ gb639) := ⟨h7_⟩
               have n8_ : Aside0 (gb639 ≠ gb631) := ⟨h8_⟩
               have n9_ : Aside0 (Below w.heap.size w w19) := ⟨h9_⟩
               clear BK623
               clear BK631
               clear HB
               clear h0_ h1_ h2_ h3_ h4_ h5_ h6_ h7_ h8_ h9_
               have BK623 := n0_
               have BK631 := n1_
               have BK639 := n2_
               have GW639 := n3_
               have GE639 := n4_
               have NB623_639 := n5_
               have NB639_623 := n6_
               have NB631_639 := n7_
               have NB639_631 := n8_
               have HB := n9_
               clear n0_ n1_ n2_ n3_ n4_ n5_ n6_ n7_ n8_ n9_
               have hH : w19.cell? ⟨gb631, 0, none⟩ = some (.int .i64 t624) ∧ w19.cell? ⟨gb631, 1, none⟩ = some (.int .i64 t625) ∧ w19.cell? ⟨gb631, 2, none⟩ = some (.int .i64 t626) ∧ w19.cell? ⟨gb631, 3, none⟩ = some (.int .i64 t627) ∧ w19.cell? ⟨gb631, 4, none⟩ = some (.int .i64 t628) ∧ w19.cell? ⟨gb631, 5, none⟩ = some (.int .i64 t629) := hS_
               refine norm_ (a' := ?_) ?_ ?_
               rotate_left
               ·simp only [putAll, Act.put, List.setIfInBounds_toArray, List.set_cons_zero, List.set_cons_succ]
                rfl
               refine oneZ 1 (some 17) (bs 19 145575) (one_of HT_.out (by kernel_rfl)) fun K hK => ?_
               refine gz Try.func99 #[.agg #[.int .i64 t624, .int .i64 t625, .int .i64 t626, .int .i64 t627, .int .i64 t628, .int .i64 t629]] ?_
               with_reducible refine (L_sums_square.calls t624 t625 t626 t627 t628 t629 t632 _ A4.out).mono ?_
               rintro e w20 ⟨rfl, hb⟩
               refine ⟨_, rfl, ?_⟩
               replace BK623 := bb BK623 hb; replace BK631 := bb BK631 hb; replace BK639 := bb BK639 hb; replace HB := sb HB hb
               (try clear hb)
               refine hK.out _ _ cz (fun hH => ?_)
               clear hK K
               refine norm_ (a' := ?_) ?_ ?_
               rotate_left
               ·show Act.put _ (some 17) _ = _
                exact pz
               exact norm_ (by first | (simp only [putAll, Act.put, List.setIfInBounds_toArray, List.set_cons_zero, List.set_cons_succ]; done) | (simp only [putAll, Act.put, List.setIfInBounds_toArray, List.set_cons_zero, List.set_cons_succ]; rfl)) (hJ1_17 (gb639) _ ⟨hH, (bk BK623.out), (bk BK631.out), (bk BK639.out), GW639.out, GE639.out, NB623_639.out, NB639_623.out, NB631_639.out, NB639_631.out, bz⟩)
             ·skip
              rintro _ w19 ⟨hS_, h0_, h1_, h2_⟩
              have n0_ : Aside0 (w19.heap[gb623]? = some (.cells #[.int .i64 0, .int .i64 0] 73 (0, 0))) := ⟨h0_⟩
              have n1_ : Aside0 (w19.heap[gb631]? = some (.cells #[.int .i64 t624, .int .i64 t625, .int .i64 t626, .int .i64 t627, .int .i64 t628, .int .i64 t629] 149 (0, 0))) := ⟨h1_⟩
              have n2_ : Aside0 (Below w.heap.size w w19) := ⟨h2_⟩
              clear BK623
              clear BK631
              clear HB
              clear h0_ h1_ h2_
              have BK623 := n0_
              have BK631 := n1_
              have HB := n2_
              clear n0_ n1_ n2_
              have hH : w19.cell? ⟨gb631, 0, none⟩ = some (.int .i64 t624) ∧ w19.cell? ⟨gb631, 1, none⟩ = some (.int .i64 t625) ∧ w19.cell? ⟨gb631, 2, none⟩ = some (.int .i64 t626) ∧ w19.cell? ⟨gb631, 3, none⟩ = some (.int .i64 t627) ∧ w19.cell? ⟨gb631, 4, none⟩ = some (.int .i64 t628) ∧ w19.cell? ⟨gb631, 5, none⟩ = some (.int .i64 t629) := hS_
              refine norm_ (a' := ?_) ?_ ?_
              rotate_left
              ·simp only [putAll, Act.put, List.setIfInBounds_toArray, List.set_cons_zero, List.set_cons_succ]
               rfl
              refine two_ (i := 3) (j := 17) (Ni := some 19) (Nj := some 6) (bs 19 14511) (bs 19 145575) rfl rfl rfl rfl (two_of HT_.out (by kernel_rfl)) (by decide) (by decide) (fun K hK => ?_) (fun K hK => ?_)
              ·skip
               refine gz Try.func96 #[.agg #[.int .i64 t624, .int .i64 t625, .int .i64 t626, .int .i64 t627, .int .i64 t628, .int .i64 t629]] ?_
               with_reducible refine (L_sums_spread.calls t624 t625 t626 t627 t628 t629 t633 _ A5.out).mono ?_
               rintro e w20 ⟨rfl, hb⟩
               refine ⟨_, rfl, ?_⟩
               replace BK623 := bb BK623 hb; replace BK631 := bb BK631 hb; replace HB := sb HB hb
               (try clear hb)
               refine hK.out _ _ cz (fun hH => ?_)
               clear hK K
               refine norm_ (a' := ?_) ?_ ?_
               rotate_left
               ·show Act.put _ (some 19) _ = _
                exact pz
               refine pZ 4 (some 20) (bs 19 14527) HT_ ?_
               exact norm_ (by first | (simp only [putAll, Act.put, List.setIfInBounds_toArray, List.set_cons_zero, List.set_cons_succ]; done) | (simp only [putAll, Act.put, List.setIfInBounds_toArray, List.set_cons_zero, List.set_cons_succ]; rfl)) (hJ1_3 () _ ⟨hH, (bk BK623.out), (bk BK631.out), bz⟩)
              ·skip
               refine box_step ?hg (N := 6) ?hd (cs := #[.int .i64 0, .int .i64 0]) (t := 73) ?hr ?_; (case hd => rfl); (case hg => rfl); (case hr => first | (go_simp; done) | (go_simp; rfl))
               intro gb639 hg w20 hbox hb
               have BK639 := m0 hbox; have GW639 := gw w hg; have GE639 := gw w hg; replace HB := sb HB hb; have NB623_639 := nl BK623 hg; have NB639_623 := ng (nl BK623 hg); replace BK623 := bb BK623 hb; have NB631_639 := nl BK631 hg; have NB639_631 := ng (nl BK631 hg); replace BK631 := bb BK631 hb
               clear hb hbox hg
               refine hK.out _ _ cz (fun hH => ?_)
               clear hK K
               refine norm_ (a' := ?_) ?_ ?_
               rotate_left
               ·show Act.put _ (some 6) _ = _
                exact pz
               exact norm_ (by first | (simp only [putAll, Act.put, List.setIfInBounds_toArray, List.set_cons_zero, List.set_cons_succ]; done) | (simp only [putAll, Act.put, List.setIfInBounds_toArray, List.set_cons_zero, List.set_cons_succ]; rfl)) (hJ1_17 (gb639) _ ⟨hH, (bk BK623.out), (bk BK631.out), (bk BK639.out), GW639.out, GE639.out, NB623_639.out, NB639_623.out, NB631_639.out, NB639_631.out, bz⟩)
            ·skip
             rintro gb639 w20 ⟨hS_, h0_, h1_, h2_, h3_, h4_, h5_, h6_, h7_, h8_, h9_⟩
             have n0_ : Aside0 (w20.heap[gb623]? = some (.cells #[.int .i64 0, .int .i64 0] 73 (0, 0))) := ⟨h0_⟩
             have n1_ : Aside0 (w20.heap[gb631]? = some (.cells #[.int .i64 t624, .int .i64 t625, .int .i64 t626, .int .i64 t627, .int .i64 t628, .int .i64 t629] 149 (0, 0))) := ⟨h1_⟩
             have n2_ : Aside0 (w20.heap[gb639]? = some (.cells #[.int .i64 0, .int .i64 0] 73 (0, 0))) := ⟨h2_⟩
             have n3_ : Aside0 (w.heap.size ≤ gb639) := ⟨h3_⟩
             have n4_ : Aside0 (w.heap.size ≤ gb639) := ⟨h4_⟩
             have n5_ : Aside0 (gb623 ≠ gb639) := ⟨h5_⟩
             have n6_ : Aside0 (gb639 ≠ gb623) := ⟨h6_⟩
             have n7_ : Aside0 (gb631 ≠ gb639) := ⟨h7_⟩
             have n8_ : Aside0 (gb639 ≠ gb631) := ⟨h8_⟩
             have n9_ : Aside0 (Below w.heap.size w w20) := ⟨h9_⟩
             clear BK623
             clear BK631
             clear HB
             clear h0_ h1_ h2_ h3_ h4_ h5_ h6_ h7_ h8_ h9_
             have BK623 := n0_
             have BK631 := n1_
             have BK639 := n2_
             have GW639 := n3_
             have GE639 := n4_
             have NB623_639 := n5_
             have NB639_623 := n6_
             have NB631_639 := n7_
             have NB639_631 := n8_
             have HB := n9_
             clear n0_ n1_ n2_ n3_ n4_ n5_ n6_ n7_ n8_ n9_
             have hH : w20.cell? ⟨gb631, 0, none⟩ = some (.int .i64 t624) ∧ w20.cell? ⟨gb631, 1, none⟩ = some (.int .i64 t625) ∧ w20.cell? ⟨gb631, 2, none⟩ = some (.int .i64 t626) ∧ w20.cell? ⟨gb631, 3, none⟩ = some (.int .i64 t627) ∧ w20.cell? ⟨gb631, 4, none⟩ = some (.int .i64 t628) ∧ w20.cell? ⟨gb631, 5, none⟩ = some (.int .i64 t629) := hS_
             refine norm_ (a' := ?_) ?_ ?_
             rotate_left
             ·simp only [putAll, Act.put, List.setIfInBounds_toArray, List.set_cons_zero, List.set_cons_succ]
              rfl
             refine oneZ 3 (some 19) (bs 19 145583) (one_of HT_.out (by kernel_rfl)) fun K hK => ?_
             refine gz Try.func96 #[.agg #[.int .i64 t624, .int .i64 t625, .int .i64 t626, .int .i64 t627, .int .i64 t628, .int .i64 t629]] ?_
             with_reducible refine (L_sums_spread.calls t624 t625 t626 t627 t628 t629 t633 _ A5.out).mono ?_
             rintro e w21 ⟨rfl, hb⟩
             refine ⟨_, rfl, ?_⟩
             replace BK623 := bb BK623 hb; replace BK631 := bb BK631 hb; replace BK639 := bb BK639 hb; replace HB := sb HB hb
             (try clear hb)
             refine hK.out _ _ cz (fun hH => ?_)
             clear hK K
             refine norm_ (a' := ?_) ?_ ?_
             rotate_left
             ·show Act.put _ (some 19) _ = _
              exact pz
             refine pZ 4 (some 20) (bs 19 145599) HT_ ?_
             exact norm_ (by first | (simp only [putAll, Act.put, List.setIfInBounds_toArray, List.set_cons_zero, List.set_cons_succ]; done) | (simp only [putAll, Act.put, List.setIfInBounds_toArray, List.set_cons_zero, List.set_cons_succ]; rfl)) (hJ1_3_17 (gb639) _ ⟨hH, (bk BK623.out), (bk BK631.out), (bk BK639.out), GW639.out, GE639.out, NB623_639.out, NB639_623.out, NB631_639.out, NB639_631.out, bz⟩)
           ·skip
            rintro _ w20 ⟨hS_, h0_, h1_, h2_⟩
            have n0_ : Aside0 (w20.heap[gb623]? = some (.cells #[.int .i64 0, .int .i64 0] 73 (0, 0))) := ⟨h0_⟩
            have n1_ : Aside0 (w20.heap[gb631]? = some (.cells #[.int .i64 t624, .int .i64 t625, .int .i64 t626, .int .i64 t627, .int .i64 t628, .int .i64 t629] 149 (0, 0))) := ⟨h1_⟩
            have n2_ : Aside0 (Below w.heap.size w w20) := ⟨h2_⟩
            clear BK623
            clear BK631
            clear HB
            clear h0_ h1_ h2_
            have BK623 := n0_
            have BK631 := n1_
            have HB := n2_
            clear n0_ n1_ n2_
            have hH : w20.cell? ⟨gb631, 0, none⟩ = some (.int .i64 t624) ∧ w20.cell? ⟨gb631, 1, none⟩ = some (.int .i64 t625) ∧ w20.cell? ⟨gb631, 2, none⟩ = some (.int .i64 t626) ∧ w20.cell? ⟨gb631, 3, none⟩ = some (.int .i64 t627) ∧ w20.cell? ⟨gb631, 4, none⟩ = some (.int .i64 t628) ∧ w20.cell? ⟨gb631, 5, none⟩ = some (.int .i64 t629) := hS_
            refine norm_ (a' := ?_) ?_ ?_
            rotate_left
            ·simp only [putAll, Act.put, List.setIfInBounds_toArray, List.set_cons_zero, List.set_cons_succ]
             rfl
            refine two_ (i := 6) (j := 17) (Ni := some 22) (Nj := some 6) (bs 19 14591) (bs 19 145599) rfl rfl rfl rfl (two_of HT_.out (by kernel_rfl)) (by decide) (by decide) (fun K hK => ?_) (fun K hK => ?_)
            ·skip
             refine gz Try.func95 #[.agg #[.int .i64 t624, .int .i64 t625, .int .i64 t626, .int .i64 t627, .int .i64 t628, .int .i64 t629]] ?_
             with_reducible refine (L_sums_shared.calls t624 t625 t626 t627 t628 t629 t634 _ A6.out).mono ?_
             rintro e w21 ⟨rfl, hb⟩
             refine ⟨_, rfl, ?_⟩
             replace BK623 := bb BK623 hb; replace BK631 := bb BK631 hb; replace HB := sb HB hb
             (try clear hb)
             refine hK.out _ _ cz (fun hH => ?_)
             clear hK K
             refine norm_ (a' := ?_) ?_ ?_
             rotate_left
             ·show Act.put _ (some 22) _ = _
              exact pz
             exact norm_ (by first | (simp only [putAll, Act.put, List.setIfInBounds_toArray, List.set_cons_zero, List.set_cons_succ]; done) | (simp only [putAll, Act.put, List.setIfInBounds_toArray, List.set_cons_zero, List.set_cons_succ]; rfl)) (hJ1_3_6 () _ ⟨hH, (bk BK623.out), (bk BK631.out), bz⟩)
            ·skip
             refine box_step ?hg (N := 6) ?hd (cs := #[.int .i64 0, .int .i64 0]) (t := 73) ?hr ?_; (case hd => rfl); (case hg => rfl); (case hr => first | (go_simp; done) | (go_simp; rfl))
             intro gb639 hg w21 hbox hb
             have BK639 := m0 hbox; have GW639 := gw w hg; have GE639 := gw w hg; replace HB := sb HB hb; have NB623_639 := nl BK623 hg; have NB639_623 := ng (nl BK623 hg); replace BK623 := bb BK623 hb; have NB631_639 := nl BK631 hg; have NB639_631 := ng (nl BK631 hg); replace BK631 := bb BK631 hb
             clear hb hbox hg
             refine hK.out _ _ cz (fun hH => ?_)
             clear hK K
             refine norm_ (a' := ?_) ?_ ?_
             rotate_left
             ·show Act.put _ (some 6) _ = _
              exact pz
             exact norm_ (by first | (simp only [putAll, Act.put, List.setIfInBounds_toArray, List.set_cons_zero, List.set_cons_succ]; done) | (simp only [putAll, Act.put, List.setIfInBounds_toArray, List.set_cons_zero, List.set_cons_succ]; rfl)) (hJ1_3_17 (gb639) _ ⟨hH, (bk BK623.out), (bk BK631.out), (bk BK639.out), GW639.out, GE639.out, NB623_639.out, NB639_623.out, NB631_639.out, NB639_631.out, bz⟩)
          ·skip
           rintro gb639 w21 ⟨hS_, h0_, h1_, h2_, h3_, h4_, h5_, h6_, h7_, h8_, h9_⟩
           have n0_ : Aside0 (w21.heap[gb623]? = some (.cells #[.int .i64 0, .int .i64 0] 73 (0, 0))) := ⟨h0_⟩
           have n1_ : Aside0 (w21.heap[gb631]? = some (.cells #[.int .i64 t624, .int .i64 t625, .int .i64 t626, .int .i64 t627, .int .i64 t628, .int .i64 t629] 149 (0, 0))) := ⟨h1_⟩
           have n2_ : Aside0 (w21.heap[gb639]? = some (.cells #[.int .i64 0, .int .i64 0] 73 (0, 0))) := ⟨h2_⟩
           have n3_ : Aside0 (w.heap.size ≤ gb639) := ⟨h3_⟩
           have n4_ : Aside0 (w.heap.size ≤ gb639) := ⟨h4_⟩
           have n5_ : Aside0 (gb623 ≠ gb639) := ⟨h5_⟩
           have n6_ : Aside0 (gb639 ≠ gb623) := ⟨h6_⟩
           have n7_ : Aside0 (gb631 ≠ gb639) := ⟨h7_⟩
           have n8_ : Aside0 (gb639 ≠ gb631) := ⟨h8_⟩
           have n9_ : Aside0 (Below w.heap.size w w21) := ⟨h9_⟩
           clear BK623
           clear BK631
           clear HB
           clear h0_ h1_ h2_ h3_ h4_ h5_ h6_ h7_ h8_ h9_
           have BK623 := n0_
           have BK631 := n1_
           have BK639 := n2_
           have GW639 := n3_
           have GE639 := n4_
           have NB623_639 := n5_
           have NB639_623 := n6_
           have NB631_639 := n7_
           have NB639_631 := n8_
           have HB := n9_
           clear n0_ n1_ n2_ n3_ n4_ n5_ n6_ n7_ n8_ n9_
           have hH : w21.cell? ⟨gb631, 0, none⟩ = some (.int .i64 t624) ∧ w21.cell? ⟨gb631, 1, none⟩ = some (.int .i64 t625) ∧ w21.cell? ⟨gb631, 2, none⟩ = some (.int .i64 t626) ∧ w21.cell? ⟨gb631, 3, none⟩ = some (.int .i64 t627) ∧ w21.cell? ⟨gb631, 4, none⟩ = some (.int .i64 t628) ∧ w21.cell? ⟨gb631, 5, none⟩ = some (.int .i64 t629) := hS_
           refine norm_ (a' := ?_) ?_ ?_
           rotate_left
           ·simp only [putAll, Act.put, List.setIfInBounds_toArray, List.set_cons_zero, List.set_cons_succ]
            rfl
           refine oneZ 6 (some 22) (bs 19 145663) (one_of HT_.out (by kernel_rfl)) fun K hK => ?_
           refine gz Try.func95 #[.agg #[.int .i64 t624, .int .i64 t625, .int .i64 t626, .int .i64 t627, .int .i64 t628, .int .i64 t629]] ?_
           with_reducible refine (L_sums_shared.calls t624 t625 t626 t627 t628 t629 t634 _ A6.out).mono ?_
           rintro e w22 ⟨rfl, hb⟩
           refine ⟨_, rfl, ?_⟩
           replace BK623 := bb BK623 hb; replace BK631 := bb BK631 hb; replace BK639 := bb BK639 hb; replace HB := sb HB hb
           (try clear hb)
           refine hK.out _ _ cz (fun hH => ?_)
           clear hK K
           refine norm_ (a' := ?_) ?_ ?_
           rotate_left
           ·show Act.put _ (some 22) _ = _
            exact pz
           exact norm_ (by first | (simp only [putAll, Act.put, List.setIfInBounds_toArray, List.set_cons_zero, List.set_cons_succ]; done) | (simp only [putAll, Act.put, List.setIfInBounds_toArray, List.set_cons_zero, List.set_cons_succ]; rfl)) (hJ1_3_6_17 (gb639) _ ⟨hH, (bk BK623.out), (bk BK631.out), (bk BK639.out), GW639.out, GE639.out, NB623_639.out, NB639_623.out, NB631_639.out, NB639_631.out, bz⟩)
         ·skip
          rintro _ w21 ⟨hS_, h0_, h1_, h2_⟩
          have n0_ : Aside0 (w21.heap[gb623]? = some (.cells #[.int .i64 0, .int .i64 0] 73 (0, 0))) := ⟨h0_⟩
          have n1_ : Aside0 (w21.heap[gb631]? = some (.cells #[.int .i64 t624, .int .i64 t625, .int .i64 t626, .int .i64 t627, .int .i64 t628, .int .i64 t629] 149 (0, 0))) := ⟨h1_⟩
          have n2_ : Aside0 (Below w.heap.size w w21) := ⟨h2_⟩
          clear BK623
          clear BK631
          clear HB
          clear h0_ h1_ h2_
          have BK623 := n0_
          have BK631 := n1_
          have HB := n2_
          clear n0_ n1_ n2_
          have hH : w21.cell? ⟨gb631, 0, none⟩ = some (.int .i64 t624) ∧ w21.cell? ⟨gb631, 1, none⟩ = some (.int .i64 t625) ∧ w21.cell? ⟨gb631, 2, none⟩ = some (.int .i64 t626) ∧ w21.cell? ⟨gb631, 3, none⟩ = some (.int .i64 t627) ∧ w21.cell? ⟨gb631, 4, none⟩ = some (.int .i64 t628) ∧ w21.cell? ⟨gb631, 5, none⟩ = some (.int .i64 t629) := hS_
          refine norm_ (a' := ?_) ?_ ?_
          rotate_left
          ·simp only [putAll, Act.put, List.setIfInBounds_toArray, List.set_cons_zero, List.set_cons_succ]
           rfl
          refine two_ (i := 8) (j := 17) (Ni := some 24) (Nj := some 6) (bs 19 14847) (bs 19 145663) rfl rfl rfl rfl (two_of HT_.out (by kernel_rfl)) (by decide) (by decide) (fun K hK => ?_) (fun K hK => ?_)
          ·skip
           refine gz Try.func95 #[.agg #[.int .i64 t624, .int .i64 t625, .int .i64 t626, .int .i64 t627, .int .i64 t628, .int .i64 t629]] ?_
           with_reducible refine (L_sums_shared.calls t624 t625 t626 t627 t628 t629 t635 _ A7.out).mono ?_
           rintro e w22 ⟨rfl, hb⟩
           refine ⟨_, rfl, ?_⟩
           replace BK623 := bb BK623 hb; replace BK631 := bb BK631 hb; replace HB := sb HB hb
           (try clear hb)
           refine hK.out _ _ cz (fun hH => ?_)
           clear hK K
           refine norm_ (a' := ?_) ?_ ?_
           rotate_left
           ·show Act.put _ (some 24) _ = _
            exact pz
           refine pZ 9 (some 25) (bs 19 15359) HT_ ?_
           refine pZ 10 (some 26) (bs 19 16383) HT_ ?_
           exact norm_ (by first | (simp only [putAll, Act.put, List.setIfInBounds_toArray, List.set_cons_zero, List.set_cons_succ]; done) | (simp only [putAll, Act.put, List.setIfInBounds_toArray, List.set_cons_zero, List.set_cons_succ]; rfl)) (hJ1_3_6_8 () _ ⟨hH, (bk BK623.out), (bk BK631.out), bz⟩)
          ·skip
           refine box_step ?hg (N := 6) ?hd (cs := #[.int .i64 0, .int .i64 0]) (t := 73) ?hr ?_; (case hd => rfl); (case hg => rfl); (case hr => first | (go_simp; done) | (go_simp; rfl))
           intro gb639 hg w22 hbox hb
           have BK639 := m0 hbox; have GW639 := gw w hg; have GE639 := gw w hg; replace HB := sb HB hb; have NB623_639 := nl BK623 hg; have NB639_623 := ng (nl BK623 hg); replace BK623 := bb BK623 hb; have NB631_639 := nl BK631 hg; have NB639_631 := ng (nl BK631 hg); replace BK631 := bb BK631 hb
           clear hb hbox hg
           refine hK.out _ _ cz (fun hH => ?_)
           clear hK K
           refine norm_ (a' := ?_) ?_ ?_
           rotate_left
           ·show Act.put _ (some 6) _ = _
            exact pz
           exact norm_ (by first | (simp only [putAll, Act.put, List.setIfInBounds_toArray, List.set_cons_zero, List.set_cons_succ]; done) | (simp only [putAll, Act.put, List.setIfInBounds_toArray, List.set_cons_zero, List.set_cons_succ]; rfl)) (hJ1_3_6_17 (gb639) _ ⟨hH, (bk BK623.out), (bk BK631.out), (bk BK639.out), GW639.out, GE639.out, NB623_639.out, NB639_623.out, NB631_639.out, NB639_631.out, bz⟩)
        ·skip
         rintro gb639 w22 ⟨hS_, h0_, h1_, h2_, h3_, h4_, h5_, h6_, h7_, h8_, h9_⟩
         have n0_ : Aside0 (w22.heap[gb623]? = some (.cells #[.int .i64 0, .int .i64 0] 73 (0, 0))) := ⟨h0_⟩
         have n1_ : Aside0 (w22.heap[gb631]? = some (.cells #[.int .i64 t624, .int .i64 t625, .int .i64 t626, .int .i64 t627, .int .i64 t628, .int .i64 t629] 149 (0, 0))) := ⟨h1_⟩
         have n2_ : Aside0 (w22.heap[gb639]? = some (.cells #[.int .i64 0, .int .i64 0] 73 (0, 0))) := ⟨h2_⟩
         have n3_ : Aside0 (w.heap.size ≤ gb639) := ⟨h3_⟩
         have n4_ : Aside0 (w.heap.size ≤ gb639) := ⟨h4_⟩
         have n5_ : Aside0 (gb623 ≠ gb639) := ⟨h5_⟩
         have n6_ : Aside0 (gb639 ≠ gb623) := ⟨h6_⟩
         have n7_ : Aside0 (gb631 ≠ gb639) := ⟨h7_⟩
         have n8_ : Aside0 (gb639 ≠ gb631) := ⟨h8_⟩
         have n9_ : Aside0 (Below w.heap.size w w22) := ⟨h9_⟩
         clear BK623
         clear BK631
         clear HB
         clear h0_ h1_ h2_ h3_ h4_ h5_ h6_ h7_ h8_ h9_
         have BK623 := n0_
         have BK631 := n1_
         have BK639 := n2_
         have GW639 := n3_
         have GE639 := n4_
         have NB623_639 := n5_
         have NB639_623 := n6_
         have NB631_639 := n7_
         have NB639_631 := n8_
         have HB := n9_
         clear n0_ n1_ n2_ n3_ n4_ n5_ n6_ n7_ n8_ n9_
         have hH : w22.cell? ⟨gb631, 0, none⟩ = some (.int .i64 t624) ∧ w22.cell? ⟨gb631, 1, none⟩ = some (.int .i64 t625) ∧ w22.cell? ⟨gb631, 2, none⟩ = some (.int .i64 t626) ∧ w22.cell? ⟨gb631, 3, none⟩ = some (.int .i64 t627) ∧ w22.cell? ⟨gb631, 4, none⟩ = some (.int .i64 t628) ∧ w22.cell? ⟨gb631, 5, none⟩ = some (.int .i64 t629) := hS_
         refine norm_ (a' := ?_) ?_ ?_
         rotate_left
         ·simp only [putAll, Act.put, List.setIfInBounds_toArray, List.set_cons_zero, List.set_cons_succ]
          rfl
         refine oneZ 8 (some 24) (bs 19 145919) (one_of HT_.out (by kernel_rfl)) fun K hK => ?_
         refine gz Try.func95 #[.agg #[.int .i64 t624, .int .i64 t625, .int .i64 t626, .int .i64 t627, .int .i64 t628, .int .i64 t629]] ?_
         with_reducible refine (L_sums_shared.calls t624 t625 t626 t627 t628 t629 t635 _ A7.out).mono ?_
         rintro e w23 ⟨rfl, hb⟩
         refine ⟨_, rfl, ?_⟩
         replace BK623 := bb BK623 hb; replace BK631 := bb BK631 hb; replace BK639 := bb BK639 hb; replace HB := sb HB hb
         (try clear hb)
         refine hK.out _ _ cz (fun hH => ?_)
         clear hK K
         refine norm_ (a' := ?_) ?_ ?_
         rotate_left
         ·show Act.put _ (some 24) _ = _
          exact pz
         refine pZ 9 (some 25) (bs 19 146431) HT_ ?_
         refine pZ 10 (some 26) (bs 19 147455) HT_ ?_
         exact norm_ (by first | (simp only [putAll, Act.put, List.setIfInBounds_toArray, List.set_cons_zero, List.set_cons_succ]; done) | (simp only [putAll, Act.put, List.setIfInBounds_toArray, List.set_cons_zero, List.set_cons_succ]; rfl)) (hJ1_3_6_8_17 (gb639) _ ⟨hH, (bk BK623.out), (bk BK631.out), (bk BK639.out), GW639.out, GE639.out, NB623_639.out, NB639_623.out, NB631_639.out, NB639_631.out, bz⟩)
       ·skip
        rintro _ w22 ⟨hS_, h0_, h1_, h2_⟩
        have n0_ : Aside0 (w22.heap[gb623]? = some (.cells #[.int .i64 0, .int .i64 0] 73 (0, 0))) := ⟨h0_⟩
        have n1_ : Aside0 (w22.heap[gb631]? = some (.cells #[.int .i64 t624, .int .i64 t625, .int .i64 t626, .int .i64 t627, .int .i64 t628, .int .i64 t629] 149 (0, 0))) := ⟨h1_⟩
        have n2_ : Aside0 (Below w.heap.size w w22) := ⟨h2_⟩
        clear BK623
        clear BK631
        clear HB
        clear h0_ h1_ h2_
        have BK623 := n0_
        have BK631 := n1_
        have HB := n2_
        clear n0_ n1_ n2_
        have hH : w22.cell? ⟨gb631, 0, none⟩ = some (.int .i64 t624) ∧ w22.cell? ⟨gb631, 1, none⟩ = some (.int .i64 t625) ∧ w22.cell? ⟨gb631, 2, none⟩ = some (.int .i64 t626) ∧ w22.cell? ⟨gb631, 3, none⟩ = some (.int .i64 t627) ∧ w22.cell? ⟨gb631, 4, none⟩ = some (.int .i64 t628) ∧ w22.cell? ⟨gb631, 5, none⟩ = some (.int .i64 t629) := hS_
        refine norm_ (a' := ?_) ?_ ?_
        rotate_left
        ·simp only [putAll, Act.put, List.setIfInBounds_toArray, List.set_cons_zero, List.set_cons_succ]
         rfl
        refine two_ (i := 14) (j := 17) (Ni := some 30) (Nj := some 6) (bs 19 32767) (bs 19 147455) rfl rfl rfl rfl (two_of HT_.out (by kernel_rfl)) (by decide) (by decide) (fun K hK => ?_) (fun K hK => ?_)
        ·skip
         refine gz Try.func96 #[.agg #[.int .i64 t624, .int .i64 t625, .int .i64 t626, .int .i64 t627, .int .i64 t628, .int .i64 t629]] ?_
         with_reducible refine (L_sums_spread.calls t624 t625 t626 t627 t628 t629 t636 _ A8.out).mono ?_
         rintro e w23 ⟨rfl, hb⟩
         refine ⟨_, rfl, ?_⟩
         replace BK623 := bb BK623 hb; replace BK631 := bb BK631 hb; replace HB := sb HB hb
         (try clear hb)
         refine hK.out _ _ cz (fun hH => ?_)
         clear hK K
         refine norm_ (a' := ?_) ?_ ?_
         rotate_left
         ·show Act.put _ (some 30) _ = _
          exact pz
         refine pZ 15 (some 31) (bs 19 65535) HT_ ?_
         exact norm_ (by first | (simp only [putAll, Act.put, List.setIfInBounds_toArray, List.set_cons_zero, List.set_cons_succ]; done) | (simp only [putAll, Act.put, List.setIfInBounds_toArray, List.set_cons_zero, List.set_cons_succ]; rfl)) (hJ1_3_6_8_14 () _ ⟨hH, (bk BK623.out), (bk BK631.out), bz⟩)
        ·skip
         refine box_step ?hg (N := 6) ?hd (cs := #[.int .i64 0, .int .i64 0]) (t := 73) ?hr ?_; (case hd => rfl); (case hg => rfl); (case hr => first | (go_simp; done) | (go_simp; rfl))
         intro gb639 hg w23 hbox hb
         have BK639 := m0 hbox; have GW639 := gw w hg; have GE639 := gw w hg; replace HB := sb HB hb; have NB623_639 := nl BK623 hg; have NB639_623 := ng (nl BK623 hg); replace BK623 := bb BK623 hb; have NB631_639 := nl BK631 hg; have NB639_631 := ng (nl BK631 hg); replace BK631 := bb BK631 hb
         clear hb hbox hg
         refine hK.out _ _ cz (fun hH => ?_)
         clear hK K
         refine norm_ (a' := ?_) ?_ ?_
         rotate_left
         ·show Act.put _ (some 6) _ = _
          exact pz
         exact norm_ (by first | (simp only [putAll, Act.put, List.setIfInBounds_toArray, List.set_cons_zero, List.set_cons_succ]; done) | (simp only [putAll, Act.put, List.setIfInBounds_toArray, List.set_cons_zero, List.set_cons_succ]; rfl)) (hJ1_3_6_8_17 (gb639) _ ⟨hH, (bk BK623.out), (bk BK631.out), (bk BK639.out), GW639.out, GE639.out, NB623_639.out, NB639_623.out, NB631_639.out, NB639_631.out, bz⟩)
      ·skip
       rintro gb639 w23 ⟨hS_, h0_, h1_, h2_, h3_, h4_, h5_, h6_, h7_, h8_, h9_⟩
       have n0_ : Aside0 (w23.heap[gb623]? = some (.cells #[.int .i64 0, .int .i64 0] 73 (0, 0))) := ⟨h0_⟩
       have n1_ : Aside0 (w23.heap[gb631]? = some (.cells #[.int .i64 t624, .int .i64 t625, .int .i64 t626, .int .i64 t627, .int .i64 t628, .int .i64 t629] 149 (0, 0))) := ⟨h1_⟩
       have n2_ : Aside0 (w23.heap[gb639]? = some (.cells #[.int .i64 0, .int .i64 0] 73 (0, 0))) := ⟨h2_⟩
       have n3_ : Aside0 (w.heap.size ≤ gb639) := ⟨h3_⟩
       have n4_ : Aside0 (w.heap.size ≤ gb639) := ⟨h4_⟩
       have n5_ : Aside0 (gb623 ≠ gb639) := ⟨h5_⟩
       have n6_ : Aside0 (gb639 ≠ gb623) := ⟨h6_⟩
       have n7_ : Aside0 (gb631 ≠ gb639) := ⟨h7_⟩
       have n8_ : Aside0 (gb639 ≠ gb631) := ⟨h8_⟩
       have n9_ : Aside0 (Below w.heap.size w w23) := ⟨h9_⟩
       clear BK623
       clear BK631
       clear HB
       clear h0_ h1_ h2_ h3_ h4_ h5_ h6_ h7_ h8_ h9_
       have BK623 := n0_
       have BK631 := n1_
       have BK639 := n2_
       have GW639 := n3_
       have GE639 := n4_
       have NB623_639 := n5_
       have NB639_623 := n6_
       have NB631_639 := n7_
       have NB639_631 := n8_
       have HB := n9_
       clear n0_ n1_ n2_ n3_ n4_ n5_ n6_ n7_ n8_ n9_
       have hH : w23.cell? ⟨gb631, 0, none⟩ = some (.int .i64 t624) ∧ w23.cell? ⟨gb631, 1, none⟩ = some (.int .i64 t625) ∧ w23.cell? ⟨gb631, 2, none⟩ = some (.int .i64 t626) ∧ w23.cell? ⟨gb631, 3, none⟩ = some (.int .i64 t627) ∧ w23.cell? ⟨gb631, 4, none⟩ = some (.int .i64 t628) ∧ w23.cell? ⟨gb631, 5, none⟩ = some (.int .i64 t629) := hS_
       refine norm_ (a' := ?_) ?_ ?_
       rotate_left
       ·simp only [putAll, Act.put, List.setIfInBounds_toArray, List.set_cons_zero, List.set_cons_succ]
        rfl
       refine oneZ 14 (some 30) (bs 19 163839) (one_of HT_.out (by kernel_rfl)) fun K hK => ?_
       refine gz Try.func96 #[.agg #[.int .i64 t624, .int .i64 t625, .int .i64 t626, .int .i64 t627, .int .i64 t628, .int .i64 t629]] ?_
       with_reducible refine (L_sums_spread.calls t624 t625 t626 t627 t628 t629 t636 _ A8.out).mono ?_
       rintro e w24 ⟨rfl, hb⟩
       refine ⟨_, rfl, ?_⟩
       replace BK623 := bb BK623 hb; replace BK631 := bb BK631 hb; replace BK639 := bb BK639 hb; replace HB := sb HB hb
       (try clear hb)
       refine hK.out _ _ cz (fun hH => ?_)
       clear hK K
       refine norm_ (a' := ?_) ?_ ?_
       rotate_left
       ·show Act.put _ (some 30) _ = _
        exact pz
       refine pZ 15 (some 31) (bs 19 196607) HT_ ?_
       exact norm_ (by first | (simp only [putAll, Act.put, List.setIfInBounds_toArray, List.set_cons_zero, List.set_cons_succ]; done) | (simp only [putAll, Act.put, List.setIfInBounds_toArray, List.set_cons_zero, List.set_cons_succ]; rfl)) (hJ1_3_6_8_14_17 (gb639) _ ⟨hH, (bk BK623.out), (bk BK631.out), (bk BK639.out), GW639.out, GE639.out, NB623_639.out, NB639_623.out, NB631_639.out, NB639_631.out, bz⟩)
     ·skip
      rintro _ w23 ⟨hS_, h0_, h1_, h2_⟩
      have n0_ : Aside0 (w23.heap[gb623]? = some (.cells #[.int .i64 0, .int .i64 0] 73 (0, 0))) := ⟨h0_⟩
      have n1_ : Aside0 (w23.heap[gb631]? = some (.cells #[.int .i64 t624, .int .i64 t625, .int .i64 t626, .int .i64 t627, .int .i64 t628, .int .i64 t629] 149 (0, 0))) := ⟨h1_⟩
      have n2_ : Aside0 (Below w.heap.size w w23) := ⟨h2_⟩
      clear BK623
      clear BK631
      clear HB
      clear h0_ h1_ h2_
      have BK623 := n0_
      have BK631 := n1_
      have HB := n2_
      clear n0_ n1_ n2_
      have hH : w23.cell? ⟨gb631, 0, none⟩ = some (.int .i64 t624) ∧ w23.cell? ⟨gb631, 1, none⟩ = some (.int .i64 t625) ∧ w23.cell? ⟨gb631, 2, none⟩ = some (.int .i64 t626) ∧ w23.cell? ⟨gb631, 3, none⟩ = some (.int .i64 t627) ∧ w23.cell? ⟨gb631, 4, none⟩ = some (.int .i64 t628) ∧ w23.cell? ⟨gb631, 5, none⟩ = some (.int .i64 t629) := hS_
      refine norm_ (a' := ?_) ?_ ?_
      rotate_left
      ·simp only [putAll, Act.put, List.setIfInBounds_toArray, List.set_cons_zero, List.set_cons_succ]
       rfl
      refine two_ (i := 16) (j := 17) (Ni := some 32) (Nj := some 6) (bs 19 131071) (bs 19 196607) rfl rfl rfl rfl (two_of HT_.out (by kernel_rfl)) (by decide) (by decide) (fun K hK => ?_) (fun K hK => ?_)
      ·skip
       refine gz Try.func98 #[.int .i64 (wrap64 ((wrap64 (t632 * t633)) - (wrap64 (t634 * t635)))), .int .i64 (wrap64 (t624 * t636))] ?_
       with_reducible refine (L_fraction.calls k (wrap64 ((wrap64 (t632 * t633)) - (wrap64 (t634 * t635)))) (wrap64 (t624 * t636)) t637 t638 _ A9.out).mono ?_
       rintro e w24 ⟨rfl, hb⟩
       refine ⟨_, rfl, ?_⟩
       replace BK623 := bb BK623 hb; replace BK631 := bb BK631 hb; replace HB := sb HB hb
       (try clear hb)
       refine hK.out _ _ cz (fun hH => ?_)
       clear hK K
       refine norm_ (a' := ?_) ?_ ?_
       rotate_left
       ·show Act.put _ (some 32) _ = _
        exact pz
       exact norm_ (by first | (simp only [putAll, Act.put, List.setIfInBounds_toArray, List.set_cons_zero, List.set_cons_succ]; done) | (simp only [putAll, Act.put, List.setIfInBounds_toArray, List.set_cons_zero, List.set_cons_succ]; rfl)) (hJ1_3_6_8_14_16 () _ ⟨hH, (bk BK623.out), (bk BK631.out), bz⟩)
      ·skip
       refine box_step ?hg (N := 6) ?hd (cs := #[.int .i64 0, .int .i64 0]) (t := 73) ?hr ?_; (case hd => rfl); (case hg => rfl); (case hr => first | (go_simp; done) | (go_simp; rfl))
       intro gb639 hg w24 hbox hb
       have BK639 := m0 hbox; have GW639 := gw w hg; have GE639 := gw w hg; replace HB := sb HB hb; have NB623_639 := nl BK623 hg; have NB639_623 := ng (nl BK623 hg); replace BK623 := bb BK623 hb; have NB631_639 := nl BK631 hg; have NB639_631 := ng (nl BK631 hg); replace BK631 := bb BK631 hb
       clear hb hbox hg
       refine hK.out _ _ cz (fun hH => ?_)
       clear hK K
       refine norm_ (a' := ?_) ?_ ?_
       rotate_left
       ·show Act.put _ (some 6) _ = _
        exact pz
       exact norm_ (by first | (simp only [putAll, Act.put, List.setIfInBounds_toArray, List.set_cons_zero, List.set_cons_succ]; done) | (simp only [putAll, Act.put, List.setIfInBounds_toArray, List.set_cons_zero, List.set_cons_succ]; rfl)) (hJ1_3_6_8_14_17 (gb639) _ ⟨hH, (bk BK623.out), (bk BK631.out), (bk BK639.out), GW639.out, GE639.out, NB623_639.out, NB639_623.out, NB631_639.out, NB639_631.out, bz⟩)
    ·skip
     rintro gb639 w24 ⟨hS_, h0_, h1_, h2_, h3_, h4_, h5_, h6_, h7_, h8_, h9_⟩
     have n0_ : Aside0 (w24.heap[gb623]? = some (.cells #[.int .i64 0, .int .i64 0] 73 (0, 0))) := ⟨h0_⟩
     have n1_ : Aside0 (w24.heap[gb631]? = some (.cells #[.int .i64 t624, .int .i64 t625, .int .i64 t626, .int .i64 t627, .int .i64 t628, .int .i64 t629] 149 (0, 0))) := ⟨h1_⟩
     have n2_ : Aside0 (w24.heap[gb639]? = some (.cells #[.int .i64 0, .int .i64 0] 73 (0, 0))) := ⟨h2_⟩
     have n3_ : Aside0 (w.heap.size ≤ gb639) := ⟨h3_⟩
     have n4_ : Aside0 (w.heap.size ≤ gb639) := ⟨h4_⟩
     have n5_ : Aside0 (gb623 ≠ gb639) := ⟨h5_⟩
     have n6_ : Aside0 (gb639 ≠ gb623) := ⟨h6_⟩
     have n7_ : Aside0 (gb631 ≠ gb639) := ⟨h7_⟩
     have n8_ : Aside0 (gb639 ≠ gb631) := ⟨h8_⟩
     have n9_ : Aside0 (Below w.heap.size w w24) := ⟨h9_⟩
     clear BK623
     clear BK631
     clear HB
     clear h0_ h1_ h2_ h3_ h4_ h5_ h6_ h7_ h8_ h9_
     have BK623 := n0_
     have BK631 := n1_
     have BK639 := n2_
     have GW639 := n3_
     have GE639 := n4_
     have NB623_639 := n5_
     have NB639_623 := n6_
     have NB631_639 := n7_
     have NB639_631 := n8_
     have HB := n9_
     clear n0_ n1_ n2_ n3_ n4_ n5_ n6_ n7_ n8_ n9_
     have hH : w24.cell? ⟨gb631, 0, none⟩ = some (.int .i64 t624) ∧ w24.cell? ⟨gb631, 1, none⟩ = some (.int .i64 t625) ∧ w24.cell? ⟨gb631, 2, none⟩ = some (.int .i64 t626) ∧ w24.cell? ⟨gb631, 3, none⟩ = some (.int .i64 t627) ∧ w24.cell? ⟨gb631, 4, none⟩ = some (.int .i64 t628) ∧ w24.cell? ⟨gb631, 5, none⟩ = some (.int .i64 t629) := hS_
     refine norm_ (a' := ?_) ?_ ?_
     rotate_left
     ·simp only [putAll, Act.put, List.setIfInBounds_toArray, List.set_cons_zero, List.set_cons_succ]
      rfl
     refine oneZ 16 (some 32) (bs 19 262143) (one_of HT_.out (by kernel_rfl)) fun K hK => ?_
     refine gz Try.func98 #[.int .i64 (wrap64 ((wrap64 (t632 * t633)) - (wrap64 (t634 * t635)))), .int .i64 (wrap64 (t624 * t636))] ?_
     with_reducible refine (L_fraction.calls k (wrap64 ((wrap64 (t632 * t633)) - (wrap64 (t634 * t635)))) (wrap64 (t624 * t636)) t637 t638 _ A9.out).mono ?_
     rintro e w25 ⟨rfl, hb⟩
     refine ⟨_, rfl, ?_⟩
     replace BK623 := bb BK623 hb; replace BK631 := bb BK631 hb; replace BK639 := bb BK639 hb; replace HB := sb HB hb
     (try clear hb)
     refine hK.out _ _ cz (fun hH => ?_)
     clear hK K
     refine norm_ (a' := ?_) ?_ ?_
     rotate_left
     ·show Act.put _ (some 32) _ = _
      exact pz
     exact norm_ (by first | (simp only [putAll, Act.put, List.setIfInBounds_toArray, List.set_cons_zero, List.set_cons_succ]; done) | (simp only [putAll, Act.put, List.setIfInBounds_toArray, List.set_cons_zero, List.set_cons_succ]; rfl)) (hJ1_3_6_8_14_16_17 (gb639) _ ⟨hH, (bk BK623.out), (bk BK631.out), (bk BK639.out), GW639.out, GE639.out, NB623_639.out, NB639_623.out, NB631_639.out, NB639_631.out, bz⟩)
   ·skip
    rintro _ w24 ⟨hS_, h0_, h1_, h2_⟩
    have n0_ : Aside0 (w24.heap[gb623]? = some (.cells #[.int .i64 0, .int .i64 0] 73 (0, 0))) := ⟨h0_⟩
    have n1_ : Aside0 (w24.heap[gb631]? = some (.cells #[.int .i64 t624, .int .i64 t625, .int .i64 t626, .int .i64 t627, .int .i64 t628, .int .i64 t629] 149 (0, 0))) := ⟨h1_⟩
    have n2_ : Aside0 (Below w.heap.size w w24) := ⟨h2_⟩
    clear BK623
    clear BK631
    clear HB
    clear h0_ h1_ h2_
    have BK623 := n0_
    have BK631 := n1_
    have HB := n2_
    clear n0_ n1_ n2_
    have hH : w24.cell? ⟨gb631, 0, none⟩ = some (.int .i64 t624) ∧ w24.cell? ⟨gb631, 1, none⟩ = some (.int .i64 t625) ∧ w24.cell? ⟨gb631, 2, none⟩ = some (.int .i64 t626) ∧ w24.cell? ⟨gb631, 3, none⟩ = some (.int .i64 t627) ∧ w24.cell? ⟨gb631, 4, none⟩ = some (.int .i64 t628) ∧ w24.cell? ⟨gb631, 5, none⟩ = some (.int .i64 t629) := hS_
    refine norm_ (a' := ?_) ?_ ?_
    rotate_left
    ·simp only [putAll, Act.put, List.setIfInBounds_toArray, List.set_cons_zero, List.set_cons_succ]
     rfl
    refine oneZ 17 (some 6) (bs 19 262143) (one_of HT_.out (by kernel_rfl)) fun K hK => ?_
    refine box_step ?hg (N := 6) ?hd (cs := #[.int .i64 0, .int .i64 0]) (t := 73) ?hr ?_; (case hd => rfl); (case hg => rfl); (case hr => first | (go_simp; done) | (go_simp; rfl))
    intro gb639 hg w25 hbox hb
    have BK639 := m0 hbox; have GW639 := gw w hg; have GE639 := gw w hg; replace HB := sb HB hb; have NB623_639 := nl BK623 hg; have NB639_623 := ng (nl BK623 hg); replace BK623 := bb BK623 hb; have NB631_639 := nl BK631 hg; have NB639_631 := ng (nl BK631 hg); replace BK631 := bb BK631 hb
    clear hb hbox hg
    refine hK.out _ _ cz (fun hH => ?_)
    clear hK K
    refine norm_ (a' := ?_) ?_ ?_
    rotate_left
    ·show Act.put _ (some 6) _ = _
     exact pz
    exact norm_ (by first | (simp only [putAll, Act.put, List.setIfInBounds_toArray, List.set_cons_zero, List.set_cons_succ]; done) | (simp only [putAll, Act.put, List.setIfInBounds_toArray, List.set_cons_zero, List.set_cons_succ]; rfl)) (hJ1_3_6_8_14_16_17 (gb639) _ ⟨hH, (bk BK623.out), (bk BK631.out), (bk BK639.out), GW639.out, GE639.out, NB623_639.out, NB639_623.out, NB631_639.out, NB639_631.out, bz⟩)
  rintro gb639 w25 ⟨hS_, h0_, h1_, h2_, h3_, h4_, h5_, h6_, h7_, h8_, h9_⟩
  have n0_ : Aside0 (w25.heap[gb623]? = some (.cells #[.int .i64 0, .int .i64 0] 73 (0, 0))) := ⟨h0_⟩
  have n1_ : Aside0 (w25.heap[gb631]? = some (.cells #[.int .i64 t624, .int .i64 t625, .int .i64 t626, .int .i64 t627, .int .i64 t628, .int .i64 t629] 149 (0, 0))) := ⟨h1_⟩
  have n2_ : Aside0 (w25.heap[gb639]? = some (.cells #[.int .i64 0, .int .i64 0] 73 (0, 0))) := ⟨h2_⟩
  have n3_ : Aside0 (w.heap.size ≤ gb639) := ⟨h3_⟩
  have n4_ : Aside0 (w.heap.size ≤ gb639) := ⟨h4_⟩
  have n5_ : Aside0 (gb623 ≠ gb639) := ⟨h5_⟩
  have n6_ : Aside0 (gb639 ≠ gb623) := ⟨h6_⟩
  have n7_ : Aside0 (gb631 ≠ gb639) := ⟨h7_⟩
  have n8_ : Aside0 (gb639 ≠ gb631) := ⟨h8_⟩
  have n9_ : Aside0 (Below w.heap.size w w25) := ⟨h9_⟩
  clear BK623
  clear BK631
  clear HB
  clear h0_ h1_ h2_ h3_ h4_ h5_ h6_ h7_ h8_ h9_
  have BK623 := n0_
  have BK631 := n1_
  have BK639 := n2_
  have GW639 := n3_
  have GE639 := n4_
  have NB623_639 := n5_
  have NB639_623 := n6_
  have NB631_639 := n7_
  have NB639_631 := n8_
  have HB := n9_
  clear n0_ n1_ n2_ n3_ n4_ n5_ n6_ n7_ n8_ n9_
  have hH : w25.cell? ⟨gb631, 0, none⟩ = some (.int .i64 t624) ∧ w25.cell? ⟨gb631, 1, none⟩ = some (.int .i64 t625) ∧ w25.cell? ⟨gb631, 2, none⟩ = some (.int .i64 t626) ∧ w25.cell? ⟨gb631, 3, none⟩ = some (.int .i64 t627) ∧ w25.cell? ⟨gb631, 4, none⟩ = some (.int .i64 t628) ∧ w25.cell? ⟨gb631, 5, none⟩ = some (.int .i64 t629) := hS_
  refine norm_ (a' := ?_) ?_ ?_
  rotate_left
  ·simp only [putAll, Act.put, List.setIfInBounds_toArray, List.set_cons_zero, List.set_cons_succ]
   rfl
  refine oneZ 18 (none) (bs 19 524287) (one_of HT_.out (by kernel_rfl)) fun K hK => ?_
  have hs26 : w25.cell? ⟨gb639, 0, none⟩ = some (.int .i64 0) := (blk_cell BK639.out 0).trans rfl
  have hfs26 := blk_frozen BK639.out 0
  have hs27 : w25.cell? ⟨gb639, 1, none⟩ = some (.int .i64 0) := (blk_cell BK639.out 1).trans rfl
  have hfs27 := blk_frozen BK639.out 1
  refine skip_ (w1 := ?_) (by rfl) rfl ?_ ?_
  rotate_left
  ·go_simp
   rfl
  refine hK.out _ _ (cf hH) (fun hH => ?_)
  clear hK K
  refine done_ (done_of HT_.out (by kernel_rfl)) ?_
  have hnb28 := NB639_623.out
  have hnc28 := NB623_639.out
  have hnb29 := NB639_631.out
  have hnc29 := NB631_639.out
  obtain ⟨_, _, _, _⟩ := b2 BK639
  obtain ⟨_, _, _, _⟩ := b2 BK623
  by_cases c10 : t637 > 1000000000
  ·rw [if_pos c10] at H
   have c10b0 := decide_eq_true c10
   clear c10
   simp only [Option.some.injEq, Prod.mk.injEq] at H
   obtain ⟨rfl, rfl, rfl⟩ := H
   try go_wp2
   refine bodyPost_ret (results_ct rfl _ _ gb623 73 #[.int .i64 0, .int .i64 0] (0, 0) _ rfl (by (with_reducible repeat (first | refine blk_drewN ?_ _ | refine blk_drew ?_ | refine blk_alloc ?_ _)); refine blk_put (cs := #[.int .i64 0, .int .i64 0]) ?_ 1 _ rfl; (with_reducible repeat (first | refine blk_drewN ?_ _ | refine blk_drew ?_ | refine blk_alloc ?_ _)); refine blk_put (cs := #[.int .i64 0, .int .i64 0]) ?_ 0 _ rfl; (with_reducible repeat (first | refine blk_drewN ?_ _ | refine blk_drew ?_ | refine blk_alloc ?_ _)); refine blk_far ?_ NB623_639.out _; (with_reducible repeat (first | refine blk_drewN ?_ _ | refine blk_drew ?_ | refine blk_alloc ?_ _)); refine blk_far ?_ NB623_639.out _; (with_reducible repeat (first | refine blk_drewN ?_ _ | refine blk_drew ?_ | refine blk_alloc ?_ _)); exact BK623.out) Try.underlying73 rfl (by kernel_rfl)) rfl ?_
   exact ez
  ·rw [if_neg c10] at H
   have c10b0 := decide_eq_false c10
   clear c10
   by_cases c32 : t638 > 1000000000
   ·rw [if_pos c32] at H
    have c32b0 := decide_eq_true c32
    clear c32
    simp only [Option.some.injEq, Prod.mk.injEq] at H
    obtain ⟨rfl, rfl, rfl⟩ := H
    try go_wp2
    refine bodyPost_ret (results_ct rfl _ _ gb623 73 #[.int .i64 0, .int .i64 0] (0, 0) _ rfl (by (with_reducible repeat (first | refine blk_drewN ?_ _ | refine blk_drew ?_ | refine blk_alloc ?_ _)); refine blk_put (cs := #[.int .i64 0, .int .i64 0]) ?_ 1 _ rfl; (with_reducible repeat (first | refine blk_drewN ?_ _ | refine blk_drew ?_ | refine blk_alloc ?_ _)); refine blk_put (cs := #[.int .i64 0, .int .i64 0]) ?_ 0 _ rfl; (with_reducible repeat (first | refine blk_drewN ?_ _ | refine blk_drew ?_ | refine blk_alloc ?_ _)); refine blk_far ?_ NB623_639.out _; (with_reducible repeat (first | refine blk_drewN ?_ _ | refine blk_drew ?_ | refine blk_alloc ?_ _)); refine blk_far ?_ NB623_639.out _; (with_reducible repeat (first | refine blk_drewN ?_ _ | refine blk_drew ?_ | refine blk_alloc ?_ _)); exact BK623.out) Try.underlying73 rfl (by kernel_rfl)) rfl ?_
    exact ez
   ·rw [if_neg c32] at H
    have c32b0 := decide_eq_false c32
    clear c32
    simp only [Option.some.injEq, Prod.mk.injEq] at H
    obtain ⟨rfl, rfl, rfl⟩ := H
    try go_wp2
    refine bodyPost_ret (results_ct rfl _ _ gb623 73 #[.int .i64 t637, .int .i64 t638] (0, 0) _ rfl (by (with_reducible repeat (first | refine blk_drewN ?_ _ | refine blk_drew ?_ | refine blk_alloc ?_ _)); refine blk_put (cs := #[.int .i64 t637, .int .i64 0]) ?_ 1 _ rfl; (with_reducible repeat (first | refine blk_drewN ?_ _ | refine blk_drew ?_ | refine blk_alloc ?_ _)); refine blk_put (cs := #[.int .i64 0, .int .i64 0]) ?_ 0 _ rfl; (with_reducible repeat (first | refine blk_drewN ?_ _ | refine blk_drew ?_ | refine blk_alloc ?_ _)); refine blk_far ?_ NB623_639.out _; (with_reducible repeat (first | refine blk_drewN ?_ _ | refine blk_drew ?_ | refine blk_alloc ?_ _)); refine blk_far ?_ NB623_639.out _; (with_reducible repeat (first | refine blk_drewN ?_ _ | refine blk_drew ?_ | refine blk_alloc ?_ _)); exact BK623.out) Try.underlying73 rfl (by kernel_rfl)) rfl ?_
    exact ez
 ·rw [if_neg c3] at H
  have c3b0 := beq_eq_false_iff_ne.mpr c3
  have c3b1 := bne_iff_ne.mpr c3
  simp only [Option.some.injEq, Prod.mk.injEq] at H
  obtain ⟨rfl, rfl, rfl⟩ := H
  go_enter Try.func39, Try.ntmps39
  go_wp2_with (first | ((with_reducible refine gate_dst (N := 2) rfl ?_); refine be 2 73 #[.int .i64 0, .int .i64 0] ?_; intro gb623 hg w75 hbox hb; have BK623 := m0 hbox; have GE623 := gw w hg; replace HB := sb HB hb; clear hb hbox hg) | ((with_reducible refine gate_callee (f := 94) rfl ?_); refine gl (some 9) Try.func94 #[.slice A0 l0.length c0] ?_; (with_reducible refine (L_open.calls k _ _ l0 t624 t625 t626 t627 t628 t629 t630 _ ?side1 ?side2 A2.out).mono ?_); (case side1 => exact cb HR0 HB); (case side2 => exact HC0.out); rintro e w76 ⟨rfl, hb⟩; refine ⟨_, rfl, ?_⟩; replace BK623 := bb BK623 hb; replace HB := sb HB hb; (try clear hb)) | ((with_reducible refine gate_dst (N := 4) rfl ?_); refine be 4 149 #[.int .i64 0, .int .i64 0, .int .i64 0, .int .i64 0, .int .i64 0, .int .i64 0] ?_; intro gb631 hg w77 hbox hb; have BK631 := m0 hbox; have GE631 := gw w hg; replace HB := sb HB hb; have NB623_631 := nl BK623 hg; have NB631_623 := ng (nl BK623 hg); replace BK623 := bb BK623 hb; clear hb hbox hg; have hnb78 := NB631_623.out; have hnc78 := NB623_631.out; have hcz79_0 : w77.cell? ⟨gb631, 0, none⟩ = some (.int .i64 0) := (blk_cell BK631.out 0).trans rfl; have hcz79_1 : w77.cell? ⟨gb631, 1, none⟩ = some (.int .i64 0) := (blk_cell BK631.out 1).trans rfl; have hcz79_2 : w77.cell? ⟨gb631, 2, none⟩ = some (.int .i64 0) := (blk_cell BK631.out 2).trans rfl; have hcz79_3 : w77.cell? ⟨gb631, 3, none⟩ = some (.int .i64 0) := (blk_cell BK631.out 3).trans rfl; have hcz79_4 : w77.cell? ⟨gb631, 4, none⟩ = some (.int .i64 0) := (blk_cell BK631.out 4).trans rfl; have hcz79_5 : w77.cell? ⟨gb631, 5, none⟩ = some (.int .i64 0) := (blk_cell BK631.out 5).trans rfl; have hfz79_0 := blk_frozen BK631.out 0; have hfz79_1 := blk_frozen BK631.out 1; have hfz79_2 := blk_frozen BK631.out 2; have hfz79_3 := blk_frozen BK631.out 3; have hfz79_4 := blk_frozen BK631.out 4; have hfz79_5 := blk_frozen BK631.out 5; obtain ⟨_, _, _, _⟩ := b2 BK623))
  refine bodyPost_ret (results_ct rfl _ _ gb623 73 #[.int .i64 0, .int .i64 0] (0, 0) _ rfl (by (with_reducible repeat (first | refine blk_drewN ?_ _ | refine blk_drew ?_ | refine blk_alloc ?_ _)); refine blk_put (cs := #[.int .i64 0, .int .i64 0]) ?_ 1 _ rfl; (with_reducible repeat (first | refine blk_drewN ?_ _ | refine blk_drew ?_ | refine blk_alloc ?_ _)); refine blk_put (cs := #[.int .i64 0, .int .i64 0]) ?_ 0 _ rfl; (with_reducible repeat (first | refine blk_drewN ?_ _ | refine blk_drew ?_ | refine blk_alloc ?_ _)); refine blk_far ?_ NB623_631.out _; (with_reducible repeat (first | refine blk_drewN ?_ _ | refine blk_drew ?_ | refine blk_alloc ?_ _)); refine blk_far ?_ NB623_631.out _; (with_reducible repeat (first | refine blk_drewN ?_ _ | refine blk_drew ?_ | refine blk_alloc ?_ _)); refine blk_far ?_ NB623_631.out _; (with_reducible repeat (first | refine blk_drewN ?_ _ | refine blk_drew ?_ | refine blk_alloc ?_ _)); refine blk_far ?_ NB623_631.out _; (with_reducible repeat (first | refine blk_drewN ?_ _ | refine blk_drew ?_ | refine blk_alloc ?_ _)); refine blk_far ?_ NB623_631.out _; (with_reducible repeat (first | refine blk_drewN ?_ _ | refine blk_drew ?_ | refine blk_alloc ?_ _)); refine blk_far ?_ NB623_631.out _; (with_reducible repeat (first | refine blk_drewN ?_ _ | refine blk_drew ?_ | refine blk_alloc ?_ _)); exact BK623.out) Try.underlying73 rfl (by kernel_rfl)) rfl ?_
  exact ez
end
section
def L_lineErr.j0 : Nat → Bool → Int → Int → Int → Option (Int)
 | 0, _, _, _, _ => none
 | k + 1, x3, x527000, x527001, x527002 => if x3 = true then ((L_divisor.f k (([x527000, x527001, x527002] : List Int))).bind fun t533 => ((L_unless.f (t533 == 1) 3).bind fun t534 => (some t534))) else (some 2)
def L_lineErr.f (k : Nat) (a0_0 : Int) (a0_1 : Int) (a0_2 : Int) : Option (Int) := (L_within.f a0_2 1 1000000000).bind fun t527 => (if t527 = true then ((L_isSized.f a0_0 1000000000).bind fun t528 => (if t528 = true then ((L_isSized.f a0_1 1000000000000).bind fun t529 => (L_lineErr.j0 k t529 a0_0 a0_1 a0_2)) else (L_lineErr.j0 k false a0_0 a0_1 a0_2))) else (L_lineErr.j0 k false a0_0 a0_1 a0_2))
theorem L_lineErr.mono_l : ∀ k, (∀ y0 y1 y2 y3, LeO (L_lineErr.j0 k y0 y1 y2 y3) (L_lineErr.j0 (k + 1) y0 y1 y2 y3))
 | 0 => fun _ _ _ _ r h => by simp [L_lineErr.j0] at h
 | k + 1 => by
  have ih0 := L_lineErr.mono_l k
  ·intro y0 y1 y2 y3
   unfold L_lineErr.j0
   repeat' with_reducible first
    | exact ih0 ..
    | exact L_divisor.mono ..
    | exact LeO.refl ..
    | exact LeO.none ..
    | refine LeO.ite ?_ ?_
    | refine LeO.bind ?_ (fun _ => ?_)
theorem L_lineErr.mono : ∀ a0 a1 a2 k, LeO (L_lineErr.f k a0 a1 a2) (L_lineErr.f (k + 1) a0 a1 a2) := by
 intro a0 a1 a2 k
 have ih0 := L_lineErr.mono_l k
 unfold L_lineErr.f
 repeat' with_reducible first
  | exact ih0 ..
  | exact L_divisor.mono ..
  | exact LeO.refl ..
  | exact LeO.none ..
  | refine LeO.ite ?_ ?_
  | refine LeO.bind ?_ (fun _ => ?_)
theorem L_lineErr.calls (k : Nat) (a0_0 : Int) (a0_1 : Int) (a0_2 : Int) (r : Int) (w : World) (h : L_lineErr.f k a0_0 a0_1 a0_2 = some r) :
  Calls Try.prog 90 #[.agg #[.int .i64 a0_0, .int .i64 a0_1, .int .i64 a0_2]] w fun e w' => e = .returned (.int .i64 r) ∧ Below w.heap.size w w' := by
 have hu56 := Try.underlying56
 have HB := m0 (Below.refl w.heap.size w)
 have H : ((L_within.f a0_2 1 1000000000).bind fun t527 => (if t527 = true then ((L_isSized.f a0_0 1000000000).bind fun t528 => (if t528 = true then ((L_isSized.f a0_1 1000000000000).bind fun t529 => (L_lineErr.j0 k t529 a0_0 a0_1 a0_2)) else (L_lineErr.j0 k false a0_0 a0_1 a0_2))) else (L_lineErr.j0 k false a0_0 a0_1 a0_2))) = some r := h
 clear h
 have HC2 := m0 H
 clear H
 go_enter Try.func90, Try.ntmps90
 go_upto_region 1 with (first | ((with_reducible refine gate_dst (N := 1) rfl ?_); refine be 1 56 #[.int .i64 a0_0, .int .i64 a0_1, .int .i64 a0_2] ?_; intro gb526 hg w3 hbox hb; have BK526 := m0 hbox; have GE526 := gw w hg; replace HB := sb HB hb; clear hb hbox hg))
 (try simp only [Act.put, List.setIfInBounds_toArray, List.set_cons_zero, List.set_cons_succ])
 go_cut [3] (fun v3 wc => ∃ (kq : Nat) (x3_1 : Bool), v3 = .bool x3_1 ∧ Aside0 (L_lineErr.j0 kq x3_1 a0_0 a0_1 a0_2 = some r) ∧ Aside0 (kq ≤ k) ∧ Aside0 (wc.heap[gb526]? = some (.cells #[.int .i64 a0_0, .int .i64 a0_1, .int .i64 a0_2] 56 (0, 0))) ∧ Aside0 (Below w.heap.size w wc))
 case first =>
  have H := HC2.out
  clear HC2
  replace H := ob H
  obtain ⟨t527, A4, H⟩ := H
  (try dsimp only at H)
  replace A4 := m0 A4
  by_cases c5 : t527 = true
  ·subst c5
   rw [if_pos rfl] at H
   replace H := ob H
   obtain ⟨t528, A6, H⟩ := H
   (try dsimp only at H)
   replace A6 := m0 A6
   by_cases c7 : t528 = true
   ·subst c7
    rw [if_pos rfl] at H
    replace H := ob H
    obtain ⟨t529, A8, H⟩ := H
    (try dsimp only at H)
    replace A8 := m0 A8
    have H' := m0 H
    clear H
    obtain ⟨hcz9_0, hcz9_1, hcz9_2, hfz9_0, hfz9_1, hfz9_2⟩ := b3 BK526
    go_wp2_with (first | ((with_reducible refine gate_callee (f := 78) rfl ?_); refine gl (some 6) Try.func78 #[.int .i64 a0_2, .int .i64 1, .int .i64 1000000000] ?_; (with_reducible refine (L_within.calls a0_2 1 1000000000 true _ A4.out).mono ?_); rintro e w' ⟨rfl, ⟨nd, rfl⟩⟩; refine ⟨_, rfl, ?_⟩) | (go_at_call 107; (with_reducible refine (L_isSized.calls a0_0 1000000000 true _ A6.out).mono ?_); rintro e w' ⟨rfl, ⟨nd, rfl⟩⟩) | (go_at_call 107; (with_reducible refine (L_isSized.calls a0_1 1000000000000 t529 _ A8.out).mono ?_); rintro e w' ⟨rfl, ⟨nd, rfl⟩⟩))
    go_meet
    case rel => exact ⟨_, (t529), (by first | rfl | (simp; done) | (simp [*]; done)), H', ⟨by first | omega | exact Nat.le_refl _⟩, ⟨bk BK526.out⟩, ⟨bz⟩⟩
   ·replace c7 := Bool.eq_false_iff.mpr c7
    subst c7
    rw [if_neg (show ¬ (false = true) by decide)] at H
    have H' := m0 H
    clear H
    obtain ⟨hcz10_0, hcz10_1, hcz10_2, hfz10_0, hfz10_1, hfz10_2⟩ := b3 BK526
    go_wp2_with (first | ((with_reducible refine gate_callee (f := 78) rfl ?_); refine gl (some 6) Try.func78 #[.int .i64 a0_2, .int .i64 1, .int .i64 1000000000] ?_; (with_reducible refine (L_within.calls a0_2 1 1000000000 true _ A4.out).mono ?_); rintro e w' ⟨rfl, ⟨nd, rfl⟩⟩; refine ⟨_, rfl, ?_⟩) | (go_at_call 107; (with_reducible refine (L_isSized.calls a0_0 1000000000 false _ A6.out).mono ?_); rintro e w' ⟨rfl, ⟨nd, rfl⟩⟩))
    go_meet
    case rel => exact ⟨_, (false), (by first | rfl | (simp; done) | (simp [*]; done)), H', ⟨by first | omega | exact Nat.le_refl _⟩, ⟨bk BK526.out⟩, ⟨bz⟩⟩
  ·replace c5 := Bool.eq_false_iff.mpr c5
   subst c5
   rw [if_neg (show ¬ (false = true) by decide)] at H
   have H' := m0 H
   clear H
   obtain ⟨hcz11_0, hcz11_1, hcz11_2, hfz11_0, hfz11_1, hfz11_2⟩ := b3 BK526
   go_wp2_with (first | ((with_reducible refine gate_callee (f := 78) rfl ?_); refine gl (some 6) Try.func78 #[.int .i64 a0_2, .int .i64 1, .int .i64 1000000000] ?_; (with_reducible refine (L_within.calls a0_2 1 1000000000 false _ A4.out).mono ?_); rintro e w' ⟨rfl, ⟨nd, rfl⟩⟩; refine ⟨_, rfl, ?_⟩))
   go_meet
   case rel => exact ⟨_, (false), (by first | rfl | (simp; done) | (simp [*]; done)), H', ⟨by first | omega | exact Nat.le_refl _⟩, ⟨bk BK526.out⟩, ⟨bz⟩⟩
 case rest =>
  clear HC2
  try clear hcz10_0
  try clear hcz10_1
  try clear hcz10_2
  try clear hcz11_0
  try clear hcz11_1
  try clear hcz11_2
  try clear hcz9_0
  try clear hcz9_1
  try clear hcz9_2
  try clear hfz10_0
  try clear hfz10_1
  try clear hfz10_2
  try clear hfz11_0
  try clear hfz11_1
  try clear hfz11_2
  try clear hfz9_0
  try clear hfz9_1
  try clear hfz9_2
  obtain ⟨kq, x3_1, rfl, HA, HJ1, BK526, HB⟩ := hcut
  cases kq with
  | zero => exact absurd HA.out (by simp [L_lineErr.j0])
  | succ kj1 =>
   have H := HA.out
   clear HA
   simp only [L_lineErr.j0] at H
   by_cases c12 : x3_1 = true
   ·subst c12
    rw [if_pos rfl] at H
    obtain ⟨y530, hy530⟩ : ∃ y_ : List Int, y_ = (([a0_0, a0_1, a0_2] : List Int)) := ⟨_, rfl⟩
    replace H : ((L_divisor.f kj1 y530).bind fun t533 => ((L_unless.f (t533 == 1) 3).bind fun t534 => (some t534))) = some r := by first | (rw [hy530]; with_reducible exact H) | (have H2_ := (Option.bind_some _ _).symm.trans H; rw [hy530]; with_reducible exact H2_) | (have H2_ := (Option.bind_some _ _).symm.trans H; with_reducible exact H2_) | with_reducible exact H | (rw [hy530]; exact H) | exact H
    have Ny530 := m0 hy530
    clear hy530
    replace H := ob H
    obtain ⟨t533, A13, H⟩ := H
    (try dsimp only at H)
    replace A13 := m0 A13
    replace H := ob H
    obtain ⟨t534, A14, H⟩ := H
    (try dsimp only at H)
    replace A14 := m0 A14
    obtain rfl := Option.some.inj H
    obtain ⟨_, _, _, _, _, _⟩ := b3 BK526
    go_wp2_with (first | ((with_reducible refine gate_dst (N := 25) rfl ?_); refine Kd.R_lit (Kd.int .i64) _ 3 ?hg (N := 25) ?hd (xs := ([a0_0, a0_1, a0_2] : List Int)) (inner := [.int .i64 a0_0, .int .i64 a0_1, .int .i64 a0_2]) (ok := fun _ => True) (okp := fun _ => True) ?hr ?hp (fun _ hk => hk) trivial (Below.refl _ _) (Nat.le_refl _) (by simp) ?_; (case hd => rfl); (case hg => rfl); (case hr => first | (go_simp; done) | (go_simp; rfl)); (case hp => exact (Reps.one (show Kd.M (Kd.int .i64) _ _ _ a0_0 [.int .i64 a0_0] from rfl) (Reps.one (show Kd.M (Kd.int .i64) _ _ _ a0_1 [.int .i64 a0_1] from rfl) (Reps.one (show Kd.M (Kd.int .i64) _ _ _ a0_2 [.int .i64 a0_2] from rfl) (Reps.none _ _))))); intro v531 w16 ho17 hb hg_ hnew_; clear hg_ hnew_; (first | rw [← Ny530.out] at ho17 | (simp only [Int.reduceToNat] at ho17; rw [← Ny530.out] at ho17)); have HO532 := m0 (Kd.R_lower ho17 (below_size bz)); replace BK526 := bb BK526 hb; replace HB := sb HB hb; clear hb ho17; obtain ⟨Ao18, co18, eo18⟩ := Kd.R_slice HO532.out; subst eo18) | ((with_reducible refine gate_callee (f := 97) rfl ?_); refine gl (some 26) Try.func97 #[.slice Ao18 y530.length co18] ?_; (with_reducible refine (L_divisor.calls kj1 _ _ y530 t533 _ ?side1 ?side2 A13.out).mono ?_); (case side1 => exact bc (Kd.R_reads' HO532.out).2.2); (case side2 => exact (Kd.R_reads' HO532.out).2.1); rintro e w19 ⟨rfl, hb⟩; refine ⟨_, rfl, ?_⟩; replace HO532 := rb HO532 hb; replace BK526 := bb BK526 hb; replace HB := sb HB hb; (try clear hb)) | ((with_reducible refine gate_callee (f := 76) rfl ?_); refine gl (some 28) Try.func76 #[.bool (t533 == 1), .int .i64 3] ?_; (with_reducible refine (L_unless.calls (t533 == 1) 3 t534 _ A14.out).mono ?_); rintro e w' ⟨rfl, ⟨nd, rfl⟩⟩; refine ⟨_, rfl, ?_⟩))
    go_ret
    exact ez
   ·replace c12 := Bool.eq_false_iff.mpr c12
    subst c12
    rw [if_neg (show ¬ (false = true) by decide)] at H
    obtain rfl := Option.some.inj H
    go_wp2
    go_ret
    exact ez
end
end Go.Proofs.Ytibhfahbabgbaaa.A
