/- Walks of the program's functions (printed, made shorter), each with what it computes. -/
import Derived.Test.YtibhfahbabgbaaaB05
import Derived.Test.YtibhfahbabgbaaaB08
import Derived.Test.YtibhfahbabgbaaaB09
import Derived.Test.YtibhfahbabgbaaaB04
namespace Go.Proofs.Ytibhfahbabgbaaa.A
set_option maxHeartbeats 8000000
set_option maxRecDepth 100000
open Go.RowKit Go.Proofs.YtibhfahbabgbaaaW.PrintWords Go.Proofs.YtibhfahbabgbaaaW.PrintLast Go.Proofs.YtibhfahbabgbaaaW.PrintMore
attribute [local go_sem] max2_int min2_int max_two min_two max_three min_three max_four min_four
set_option linter.unusedVariables false
set_option linter.unusedSimpArgs false
section
def L_open.f (k : Nat) (l0 : List (S85)) : Option (Int × Int × Int × Int × Int × Int × Int) := (L_readingsErr.f k l0).bind fun t149 => (if t149 = 0 then ((L_sumsOf.f k l0).bind fun bt150 => ((L_sums_spread.f bt150.1 bt150.2.1 bt150.2.2.1 bt150.2.2.2.1 bt150.2.2.2.2.1 bt150.2.2.2.2.2).bind fun t157 => ((L_unless.f (t157 != 0) 11).bind fun t158 => (some (bt150.1, bt150.2.1, bt150.2.2.1, bt150.2.2.2.1, bt150.2.2.2.2.1, bt150.2.2.2.2.2, t158))))) else (some (0, 0, 0, 0, 0, 0, t149)))
theorem L_open.mono : ∀ a0 k, LeO (L_open.f k a0) (L_open.f (k + 1) a0) := by
 intro a0 k
 unfold L_open.f
 repeat' with_reducible first
  | exact L_readingsErr.mono ..
  | exact L_sumsOf.mono ..
  | exact LeO.refl ..
  | exact LeO.none ..
  | refine LeO.ite ?_ ?_
  | refine LeO.bind ?_ (fun _ => ?_)
theorem L_open.calls (k : Nat) (A0 : Option Addr) (c0 : Nat) (l0 : List (S85)) (r1 : Int) (r2 : Int) (r3 : Int) (r4 : Int) (r5 : Int) (r6 : Int) (r7 : Int) (w : World) (hr0 : Kd.C k85 w A0 l0.length l0) (hc0 : l0.length ≤ c0) (h : L_open.f k l0 = some (r1, r2, r3, r4, r5, r6, r7)) :
  Calls Try.prog 94 #[.slice A0 l0.length c0] w fun e w' => e = .returned (.tuple #[.agg #[.int .i64 r1, .int .i64 r2, .int .i64 r3, .int .i64 r4, .int .i64 r5, .int .i64 r6], .int .i64 r7]) ∧ Below w.heap.size w w' := by
 have hu149 := Try.underlying149
 have HR0 := m0 hr0
 have HC0 := m0 hc0
 clear hr0 hc0
 have HB := m0 (Below.refl w.heap.size w)
 have H : ((L_readingsErr.f k l0).bind fun t149 => (if t149 = 0 then ((L_sumsOf.f k l0).bind fun bt150 => ((L_sums_spread.f bt150.1 bt150.2.1 bt150.2.2.1 bt150.2.2.2.1 bt150.2.2.2.2.1 bt150.2.2.2.2.2).bind fun t157 => ((L_unless.f (t157 != 0) 11).bind fun t158 => (some (bt150.1, bt150.2.1, bt150.2.2.1, bt150.2.2.2.1, bt150.2.2.2.2.1, bt150.2.2.2.2.2, t158))))) else (some (0, 0, 0, 0, 0, 0, t149)))) = some (r1, r2, r3, r4, r5, r6, r7) := h
 clear h
 replace H := ob H
 obtain ⟨t149, A2, H⟩ := H
 (try dsimp only at H)
 replace A2 := m0 A2
 by_cases c3 : t149 = 0
 ·rw [if_pos c3] at H
  have c3b0 := beq_iff_eq.mpr c3
  have c3b1 := bne_eq_false_iff_eq.mpr c3
  clear c3
  replace H := ob H
  obtain ⟨⟨t150, t151, t152, t153, t154, t155⟩, A4, H⟩ := H
  (try dsimp only at H)
  replace A4 := m0 A4
  replace H := ob H
  obtain ⟨t157, A5, H⟩ := H
  (try dsimp only at H)
  replace A5 := m0 A5
  replace H := ob H
  obtain ⟨t158, A6, H⟩ := H
  (try dsimp only at H)
  replace A6 := m0 A6
  simp only [Option.some.injEq, Prod.mk.injEq] at H
  obtain ⟨rfl, rfl, rfl, rfl, rfl, rfl, rfl⟩ := H
  go_enter Try.func94, Try.ntmps94
  try go_wp2_with (first | ((with_reducible refine gate_dst (N := 2) rfl ?_); refine be 2 149 #[.int .i64 0, .int .i64 0, .int .i64 0, .int .i64 0, .int .i64 0, .int .i64 0] ?_; intro gb148 hg w7 hbox hb; have BK148 := m0 hbox; have GE148 := gw w hg; replace HB := sb HB hb; clear hb hbox hg) | ((with_reducible refine gate_callee (f := 112) rfl ?_); refine gl (some 7) Try.func112 #[.slice A0 l0.length c0] ?_; (with_reducible refine (L_readingsErr.calls k _ _ l0 t149 _ ?side1 ?side2 A2.out).mono ?_); (case side1 => exact cb HR0 HB); (case side2 => exact HC0.out); rintro e w8 ⟨rfl, hb⟩; refine ⟨_, rfl, ?_⟩; replace BK148 := bb BK148 hb; replace HB := sb HB hb; (try clear hb)) | ((with_reducible refine gate_callee (f := 134) rfl ?_); refine gl (some 13) Try.func134 #[.slice A0 l0.length c0] ?_; (with_reducible refine (L_sumsOf.calls k _ _ l0 t150 t151 t152 t153 t154 t155 _ ?side1 ?side2 A4.out).mono ?_); (case side1 => exact cb HR0 HB); (case side2 => exact HC0.out); rintro e w9 ⟨rfl, hb⟩; refine ⟨_, rfl, ?_⟩; replace BK148 := bb BK148 hb; replace HB := sb HB hb; (try clear hb)) | ((with_reducible refine gate_dst (N := 5) rfl ?_); refine be 5 149 #[.int .i64 0, .int .i64 0, .int .i64 0, .int .i64 0, .int .i64 0, .int .i64 0] ?_; intro gb156 hg w10 hbox hb; have BK156 := m0 hbox; have GE156 := gw w hg; replace HB := sb HB hb; have NB148_156 := nl BK148 hg; have NB156_148 := ng (nl BK148 hg); replace BK148 := bb BK148 hb; clear hb hbox hg; have hnb11 := NB156_148.out; have hnc11 := NB148_156.out; have hcz12_0 : w10.cell? ⟨gb156, 0, none⟩ = some (.int .i64 0) := (blk_cell BK156.out 0).trans rfl; have hcz12_1 : w10.cell? ⟨gb156, 1, none⟩ = some (.int .i64 0) := (blk_cell BK156.out 1).trans rfl; have hcz12_2 : w10.cell? ⟨gb156, 2, none⟩ = some (.int .i64 0) := (blk_cell BK156.out 2).trans rfl; have hcz12_3 : w10.cell? ⟨gb156, 3, none⟩ = some (.int .i64 0) := (blk_cell BK156.out 3).trans rfl; have hcz12_4 : w10.cell? ⟨gb156, 4, none⟩ = some (.int .i64 0) := (blk_cell BK156.out 4).trans rfl; have hcz12_5 : w10.cell? ⟨gb156, 5, none⟩ = some (.int .i64 0) := (blk_cell BK156.out 5).trans rfl; have hfz12_0 := blk_frozen BK156.out 0; have hfz12_1 := blk_frozen BK156.out 1; have hfz12_2 := blk_frozen BK156.out 2; have hfz12_3 := blk_frozen BK156.out 3; have hfz12_4 := blk_frozen BK156.out 4; have hfz12_5 := blk_frozen BK156.out 5))
  replace BK148 : Aside0 (((((((w10.setCell ⟨gb156, 0, none⟩ (.int .i64 t150)).setCell ⟨gb156, 1, none⟩ (.int .i64 t151)).setCell ⟨gb156, 2, none⟩ (.int .i64 t152)).setCell ⟨gb156, 3, none⟩ (.int .i64 t153)).setCell ⟨gb156, 4, none⟩ (.int .i64 t154)).setCell ⟨gb156, 5, none⟩ (.int .i64 t155)).heap[gb148]? = some (.cells #[.int .i64 0, .int .i64 0, .int .i64 0, .int .i64 0, .int .i64 0, .int .i64 0] 149 (0, 0))) := ⟨bq BK148.out⟩
  replace BK156 : Aside0 (((((((w10.setCell ⟨gb156, 0, none⟩ (.int .i64 t150)).setCell ⟨gb156, 1, none⟩ (.int .i64 t151)).setCell ⟨gb156, 2, none⟩ (.int .i64 t152)).setCell ⟨gb156, 3, none⟩ (.int .i64 t153)).setCell ⟨gb156, 4, none⟩ (.int .i64 t154)).setCell ⟨gb156, 5, none⟩ (.int .i64 t155)).heap[gb156]? = some (.cells #[.int .i64 t150, .int .i64 t151, .int .i64 t152, .int .i64 t153, .int .i64 t154, .int .i64 t155] 149 (0, 0))) := ⟨bq BK156.out⟩
  replace HB : Aside0 (Below w.heap.size w ((((((w10.setCell ⟨gb156, 0, none⟩ (.int .i64 t150)).setCell ⟨gb156, 1, none⟩ (.int .i64 t151)).setCell ⟨gb156, 2, none⟩ (.int .i64 t152)).setCell ⟨gb156, 3, none⟩ (.int .i64 t153)).setCell ⟨gb156, 4, none⟩ (.int .i64 t154)).setCell ⟨gb156, 5, none⟩ (.int .i64 t155))) := ⟨bz⟩
  generalize ((((((w10.setCell ⟨gb156, 0, none⟩ (.int .i64 t150)).setCell ⟨gb156, 1, none⟩ (.int .i64 t151)).setCell ⟨gb156, 2, none⟩ (.int .i64 t152)).setCell ⟨gb156, 3, none⟩ (.int .i64 t153)).setCell ⟨gb156, 4, none⟩ (.int .i64 t154)).setCell ⟨gb156, 5, none⟩ (.int .i64 t155)) = w13 at BK148 BK156 HB ⊢
  replace BK148 := bd BK148; replace BK156 := bd BK156; replace HB := sd HB
  refine start_ (n := 7) (S := fun w' => w'.cell? ⟨gb156, 0, none⟩ = some (.int .i64 t150) ∧ w'.cell? ⟨gb156, 1, none⟩ = some (.int .i64 t151) ∧ w'.cell? ⟨gb156, 2, none⟩ = some (.int .i64 t152) ∧ w'.cell? ⟨gb156, 3, none⟩ = some (.int .i64 t153) ∧ w'.cell? ⟨gb156, 4, none⟩ = some (.int .i64 t154) ∧ w'.cell? ⟨gb156, 5, none⟩ = some (.int .i64 t155)) (ds := []) #[false, false, false, false, false, false, false] (by kernel_rfl) rfl rfl cz (fun hH => ?_)
  generalize w13.drew = w14 at BK148 BK156 HB hH ⊢
  refine takeZ 0 (some 14) #[true, false, false, false, false, false, false] (by kernel_rfl) hH ?_
  refine takeZ 1 (some 15) #[true, true, false, false, false, false, false] (by kernel_rfl) hH ?_
  refine oneZ 2 (some 16) #[true, true, true, false, false, false, false] (by kernel_rfl) fun K hK => ?_
  refine gz Try.func96 #[.agg #[.int .i64 t150, .int .i64 t151, .int .i64 t152, .int .i64 t153, .int .i64 t154, .int .i64 t155]] ?_
  with_reducible refine (L_sums_spread.calls t150 t151 t152 t153 t154 t155 t157 _ A5.out).mono ?_
  rintro e w15 ⟨rfl, hb⟩
  refine ⟨_, rfl, ?_⟩
  replace BK148 := bb BK148 hb; replace BK156 := bb BK156 hb; replace HB := sb HB hb
  (try clear hb)
  refine hK.out _ _ cz (fun hH => ?_)
  clear hK K
  refine norm_ (a' := ?_) ?_ ?_
  rotate_left
  ·show Act.put _ (some 16) _ = _
   exact pz
  refine pure_ (i := 3) (N := some 17) (v := ?_) (a' := ?_) #[true, true, true, true, false, false, false] rfl rfl (by kernel_rfl) (fun _ _ _ h => h) (Or.inl ⟨by rfl, ?_⟩) ?_ ?_
  rotate_left
  ·intro w'
   go_simp
   with_reducible rfl
  rotate_left
  ·exact pz
  refine oneZ 4 (some 18) #[true, true, true, true, true, false, false] (by kernel_rfl) fun K hK => ?_
  refine gz Try.func76 #[.bool (t157 != 0), .int .i64 11] ?_
  with_reducible refine (L_unless.calls (t157 != 0) 11 t158 _ A6.out).mono ?_
  rintro e w' ⟨rfl, ⟨nd, rfl⟩⟩
  refine ⟨_, rfl, ?_⟩
  refine hK.out _ _ cz (fun hH => ?_)
  clear hK K
  refine norm_ (a' := ?_) ?_ ?_
  rotate_left
  ·show Act.put _ (some 18) _ = _
   exact pz
  refine oneZ 5 (none) #[true, true, true, true, true, true, false] (by kernel_rfl) fun K hK => ?_
  have hs16 : w15.cell? ⟨gb148, 0, none⟩ = some (.int .i64 0) := (blk_cell BK148.out 0).trans rfl
  have hfs16 := blk_frozen BK148.out 0
  have hs17 : w15.cell? ⟨gb148, 1, none⟩ = some (.int .i64 0) := (blk_cell BK148.out 1).trans rfl
  have hfs17 := blk_frozen BK148.out 1
  have hs18 : w15.cell? ⟨gb148, 2, none⟩ = some (.int .i64 0) := (blk_cell BK148.out 2).trans rfl
  have hfs18 := blk_frozen BK148.out 2
  have hs19 : w15.cell? ⟨gb148, 3, none⟩ = some (.int .i64 0) := (blk_cell BK148.out 3).trans rfl
  have hfs19 := blk_frozen BK148.out 3
  have hs20 : w15.cell? ⟨gb148, 4, none⟩ = some (.int .i64 0) := (blk_cell BK148.out 4).trans rfl
  have hfs20 := blk_frozen BK148.out 4
  have hs21 : w15.cell? ⟨gb148, 5, none⟩ = some (.int .i64 0) := (blk_cell BK148.out 5).trans rfl
  have hfs21 := blk_frozen BK148.out 5
  refine skip_ (w1 := ?_) (by rfl) rfl ?_ ?_
  rotate_left
  ·go_simp
   rfl
  refine hK.out _ _ (cf hH) (fun hH => ?_)
  clear hK K
  refine pure_ (i := 6) (N := some 3) (v := ?_) (a' := ?_) #[true, true, true, true, true, true, true] rfl rfl (by kernel_rfl) (fun _ _ _ h => h) (Or.inl ⟨by rfl, ?_⟩) ?_ ?_
  rotate_left
  ·intro w'
   go_simp
   with_reducible rfl
  rotate_left
  ·exact pz
  refine done_ (by kernel_rfl) ?_
  try go_wp2
  refine bodyPost_ret (results_ct rfl _ _ gb148 149 #[.int .i64 t150, .int .i64 t151, .int .i64 t152, .int .i64 t153, .int .i64 t154, .int .i64 t155] (0, 0) _ rfl (bq BK148.out) Try.underlying149 rfl (by kernel_rfl)) rfl ?_
  exact ez
 ·rw [if_neg c3] at H
  have c3b0 := beq_eq_false_iff_ne.mpr c3
  have c3b1 := bne_iff_ne.mpr c3
  simp only [Option.some.injEq, Prod.mk.injEq] at H
  obtain ⟨rfl, rfl, rfl, rfl, rfl, rfl, rfl⟩ := H
  go_enter Try.func94, Try.ntmps94
  go_wp2_with (first | ((with_reducible refine gate_dst (N := 2) rfl ?_); refine be 2 149 #[.int .i64 0, .int .i64 0, .int .i64 0, .int .i64 0, .int .i64 0, .int .i64 0] ?_; intro gb148 hg w22 hbox hb; have BK148 := m0 hbox; have GE148 := gw w hg; replace HB := sb HB hb; clear hb hbox hg) | ((with_reducible refine gate_callee (f := 112) rfl ?_); refine gl (some 7) Try.func112 #[.slice A0 l0.length c0] ?_; (with_reducible refine (L_readingsErr.calls k _ _ l0 t149 _ ?side1 ?side2 A2.out).mono ?_); (case side1 => exact cb HR0 HB); (case side2 => exact HC0.out); rintro e w23 ⟨rfl, hb⟩; refine ⟨_, rfl, ?_⟩; replace BK148 := bb BK148 hb; replace HB := sb HB hb; (try clear hb); have hcz24_0 : w23.cell? ⟨gb148, 0, none⟩ = some (.int .i64 0) := (blk_cell BK148.out 0).trans rfl; have hcz24_1 : w23.cell? ⟨gb148, 1, none⟩ = some (.int .i64 0) := (blk_cell BK148.out 1).trans rfl; have hcz24_2 : w23.cell? ⟨gb148, 2, none⟩ = some (.int .i64 0) := (blk_cell BK148.out 2).trans rfl; have hcz24_3 : w23.cell? ⟨gb148, 3, none⟩ = some (.int .i64 0) := (blk_cell BK148.out 3).trans rfl; have hcz24_4 : w23.cell? ⟨gb148, 4, none⟩ = some (.int .i64 0) := (blk_cell BK148.out 4).trans rfl; have hcz24_5 : w23.cell? ⟨gb148, 5, none⟩ = some (.int .i64 0) := (blk_cell BK148.out 5).trans rfl; have hfz24_0 := blk_frozen BK148.out 0; have hfz24_1 := blk_frozen BK148.out 1; have hfz24_2 := blk_frozen BK148.out 2; have hfz24_3 := blk_frozen BK148.out 3; have hfz24_4 := blk_frozen BK148.out 4; have hfz24_5 := blk_frozen BK148.out 5))
  refine bodyPost_ret (results_ct rfl _ _ gb148 149 #[.int .i64 0, .int .i64 0, .int .i64 0, .int .i64 0, .int .i64 0, .int .i64 0] (0, 0) _ rfl (bq BK148.out) Try.underlying149 rfl (by kernel_rfl)) rfl ?_
  exact ez
end
section
def L_sums_shared.f (a0_0 : Int) (a0_1 : Int) (a0_2 : Int) (a0_3 : Int) (a0_4 : Int) (a0_5 : Int) : Option (Int) := some (wrap64 ((wrap64 (a0_0 * a0_4)) - (wrap64 (a0_1 * a0_2))))
theorem L_sums_shared.calls (a0_0 : Int) (a0_1 : Int) (a0_2 : Int) (a0_3 : Int) (a0_4 : Int) (a0_5 : Int) (r : Int) (w : World) (h : L_sums_shared.f a0_0 a0_1 a0_2 a0_3 a0_4 a0_5 = some r) :
  Calls Try.prog 95 #[.agg #[.int .i64 a0_0, .int .i64 a0_1, .int .i64 a0_2, .int .i64 a0_3, .int .i64 a0_4, .int .i64 a0_5]] w fun e w' => e = .returned (.int .i64 r) ∧ Below w.heap.size w w' := by
 have hu149 := Try.underlying149
 have HB := m0 (Below.refl w.heap.size w)
 have H : (some (wrap64 ((wrap64 (a0_0 * a0_4)) - (wrap64 (a0_1 * a0_2))))) = some r := h
 clear h
 obtain rfl := Option.some.inj H
 go_enter Try.func95, Try.ntmps95
 go_wp2_with (first | ((with_reducible refine gate_dst (N := 1) rfl ?_); refine be 1 149 #[.int .i64 a0_0, .int .i64 a0_1, .int .i64 a0_2, .int .i64 a0_3, .int .i64 a0_4, .int .i64 a0_5] ?_; intro gb159 hg w2 hbox hb; have BK159 := m0 hbox; have GE159 := gw w hg; replace HB := sb HB hb; clear hb hbox hg; have hcz3_0 : w2.cell? ⟨gb159, 0, none⟩ = some (.int .i64 a0_0) := (blk_cell BK159.out 0).trans rfl; have hcz3_1 : w2.cell? ⟨gb159, 1, none⟩ = some (.int .i64 a0_1) := (blk_cell BK159.out 1).trans rfl; have hcz3_2 : w2.cell? ⟨gb159, 2, none⟩ = some (.int .i64 a0_2) := (blk_cell BK159.out 2).trans rfl; have hcz3_3 : w2.cell? ⟨gb159, 3, none⟩ = some (.int .i64 a0_3) := (blk_cell BK159.out 3).trans rfl; have hcz3_4 : w2.cell? ⟨gb159, 4, none⟩ = some (.int .i64 a0_4) := (blk_cell BK159.out 4).trans rfl; have hcz3_5 : w2.cell? ⟨gb159, 5, none⟩ = some (.int .i64 a0_5) := (blk_cell BK159.out 5).trans rfl; have hfz3_0 := blk_frozen BK159.out 0; have hfz3_1 := blk_frozen BK159.out 1; have hfz3_2 := blk_frozen BK159.out 2; have hfz3_3 := blk_frozen BK159.out 3; have hfz3_4 := blk_frozen BK159.out 4; have hfz3_5 := blk_frozen BK159.out 5))
 go_ret
 exact ez
end
section
mutual
def L_divisor.l0 : Nat → Int → List Int → Int → Int → Option (Int)
  | 0, _, _, _, _ => none
  | k + 1, x3, x6, x7, x8 => if x8 < x7 then (if 0 ≤ x8 then (if x8 < (x6.length : Int) then (L_divisor.l1 k x3 (rd x6 x8) x6 x7 x8) else (none)) else (none)) else (some (mx x3 (wrap64 (-x3))))
def L_divisor.l1 : Nat → Int → Int → List Int → Int → Int → Option (Int)
  | 0, _, _, _, _, _ => none
  | k + 1, x3, x5, x6, x7, x8 => if x5 = 0 then (L_divisor.l0 k x3 x6 x7 (wrap64 (x8 + 1))) else (L_divisor.l1 k x5 (Int.tmod x3 x5) x6 x7 x8)
end
def L_divisor.f (k : Nat) (l0 : List Int) : Option (Int) := L_divisor.l0 k 0 l0 (l0.length : Int) 0
theorem L_divisor.mono_l : ∀ k, (∀ y0 y1 y2 y3, LeO (L_divisor.l0 k y0 y1 y2 y3) (L_divisor.l0 (k + 1) y0 y1 y2 y3)) ∧ (∀ y0 y1 y2 y3 y4, LeO (L_divisor.l1 k y0 y1 y2 y3 y4) (L_divisor.l1 (k + 1) y0 y1 y2 y3 y4))
  | 0 => ⟨fun _ _ _ _ r h => by simp [L_divisor.l0] at h, fun _ _ _ _ _ r h => by simp [L_divisor.l1] at h⟩
  | k + 1 => by
    obtain ⟨ih0, ih1⟩ := L_divisor.mono_l k
    refine ⟨?_, ?_⟩
    · intro y0 y1 y2 y3
      unfold L_divisor.l0
      repeat' with_reducible first
        | exact ih0 ..
        | exact ih1 ..
        | exact LeO.refl ..
        | exact LeO.none ..
        | refine LeO.ite ?_ ?_
        | refine LeO.bind ?_ (fun _ => ?_)
    · intro y0 y1 y2 y3 y4
      unfold L_divisor.l1
      repeat' with_reducible first
        | exact ih0 ..
        | exact ih1 ..
        | exact LeO.refl ..
        | exact LeO.none ..
        | refine LeO.ite ?_ ?_
        | refine LeO.bind ?_ (fun _ => ?_)
theorem L_divisor.mono : ∀ a0 k, LeO (L_divisor.f k a0) (L_divisor.f (k + 1) a0) := by
  intro a0 k
  obtain ⟨ih0, ih1⟩ := L_divisor.mono_l k
  unfold L_divisor.f
  repeat' with_reducible first
    | exact ih0 ..
    | exact ih1 ..
    | exact LeO.refl ..
    | exact LeO.none ..
    | refine LeO.ite ?_ ?_
    | refine LeO.bind ?_ (fun _ => ?_)
theorem L_divisor.calls (k : Nat) (A0 : Option Addr) (c0 : Nat) (l0 : List Int) (r : Int) (w : World) (hr0 : Kd.C (Kd.int .i64) w A0 l0.length l0) (hc0 : l0.length ≤ c0) (h : L_divisor.f k l0 = some r) :
    Calls Try.prog 97 #[.slice A0 l0.length c0] w fun e w' => e = .returned (.int .i64 r) ∧ Below w.heap.size w w' := by
  have HR0 := m0 hr0
  have HC0 := m0 hc0
  clear hr0 hc0
  have HB := m0 (Below.refl w.heap.size w)
  have H : (L_divisor.l0 k 0 l0 (l0.length : Int) 0) = some r := h
  clear h
  have H' := m0 H
  clear H
  go_enter Try.func97, Try.ntmps97
  go_wp2
  repeat (go_quiet (fail); try go_wp2)
  go_loopg [3, 8] k (fun kq v3 v8 w' => ∃ (x3_1 : Int) (x8_1 : Int), v3 = .int .i64 x3_1 ∧ v8 = .int .i64 x8_1 ∧ Aside0 (L_divisor.l0 kq x3_1 l0 (l0.length : Int) x8_1 = some r) ∧ Aside0 (kq ≤ k) ∧ Aside0 (Below w.heap.size w w'))
  case atStart => exact ⟨(0), (0), (by first | rfl | (simp; done) | (simp [*]; done)), (by first | rfl | (simp; done) | (simp [*]; done)), H', ⟨Nat.le_refl _⟩, ⟨bz⟩⟩
  case round =>
    clear H'
    obtain ⟨x3_1, x8_1, rfl, rfl, HA, HK1, HB⟩ := hrel
    cases gk with
    | zero => exact absurd HA.out (by simp [L_divisor.l0])
    | succ k1 =>
      have H := HA.out
      clear HA
      simp only [L_divisor.l0] at H
      by_cases c2 : x8_1 < (l0.length : Int)
      · rw [if_pos c2] at H
        have c2b0 := decide_eq_true c2
        clear c2
        by_cases c3 : 0 ≤ x8_1
        · rw [if_pos c3] at H
          have c3b0 := decide_eq_true c3
          clear c3
          by_cases c4 : x8_1 < (l0.length : Int)
          · rw [if_pos c4] at H
            have c4b0 := decide_eq_true c4
            clear c4
            have H' := m0 H
            clear H
            have p160 : 0 ≤ (x8_1 : Int) := od
            have q160 : x8_1 < (l0.length : Int) := od
            obtain ⟨ad160, e160, hx160_0⟩ := Kd.at_int HR0.out x8_1 p160 q160
            cases e160
            replace hx160_0 := (HB.out.cell (World.block_lt_of_cell? w _ hx160_0)).trans hx160_0
            replace p160 := eq_true p160
            replace q160 := eq_true q160
            go_wp2
            repeat (go_quiet (fail); try go_wp2)
            go_loopg [3, 5] k1 (fun kq v3 v5 w' => ∃ (x3_2 : Int) (x5_2 : Int), v3 = .int .i64 x3_2 ∧ v5 = .int .i64 x5_2 ∧ Aside0 (L_divisor.l1 kq x3_2 x5_2 l0 (l0.length : Int) x8_1 = some r) ∧ Aside0 (kq ≤ k1) ∧ Aside0 (Below w.heap.size w w'))
            case atStart => exact ⟨(x3_1), (rd l0 x8_1), (by first | rfl | (simp; done) | (simp [*]; done)), (by first | rfl | (simp; done) | (simp [*]; done)), H', ⟨Nat.le_refl _⟩, ⟨bz⟩⟩
            case round =>
              clear H'
              try clear hx1
              try clear hx160_0
              obtain ⟨x3_2, x5_2, rfl, rfl, HA, HK2, HB⟩ := hrel
              cases gk with
              | zero => exact absurd HA.out (by simp [L_divisor.l1])
              | succ k2 =>
                have H := HA.out
                clear HA
                simp only [L_divisor.l1] at H
                by_cases c5 : x5_2 = 0
                · rw [if_pos c5] at H
                  have c5b0 := beq_iff_eq.mpr c5
                  have c5b1 := bne_eq_false_iff_eq.mpr c5
                  clear c5
                  have H' := m0 H
                  clear H
                  go_wp2
                  repeat (go_quiet (fail); try go_wp2)
                  go_roundg k2
                  case measure => have := HK1.out; have := HK2.out; omega
                  case rel => exact ⟨(x3_2), (wrap64 (x8_1 + 1)), (by first | rfl | (simp; done) | (simp [*]; done)), (by first | rfl | (simp; done) | (simp [*]; done)), H', ⟨by have := HK1.out; have := HK2.out; omega⟩, ⟨bz⟩⟩
                · rw [if_neg c5] at H
                  have c5b0 := beq_eq_false_iff_ne.mpr c5
                  have c5b1 := bne_iff_ne.mpr c5
                  have H' := m0 H
                  clear H
                  go_wp2
                  repeat (go_quiet (fail); try go_wp2)
                  go_roundg k2
                  case measure => have := HK1.out; have := HK2.out; omega
                  case rel => exact ⟨(x5_2), (Int.tmod x3_2 x5_2), (by first | rfl | (simp; done) | (simp [*]; done)), (by first | rfl | (simp; done) | (simp [*]; done)), H', ⟨by have := HK1.out; have := HK2.out; omega⟩, ⟨bz⟩⟩
          · rw [if_neg c4] at H
            exact absurd H (by simp)
        · rw [if_neg c3] at H
          exact absurd H (by simp)
      · rw [if_neg c2] at H
        have c2b0 := decide_eq_false c2
        clear c2
        obtain ⟨ji6, hji6⟩ : ∃ j_ : Int, (mx x3_1 (wrap64 (-x3_1))) = j_ := ⟨_, rfl⟩
        replace H : (some ji6) = some r := by first | (rw [hji6] at H; exact H) | (simp only [hji6] at H ⊢; exact H)
        have hji6_ : (if x3_1 < (wrap64 (-x3_1)) then (wrap64 (-x3_1)) else x3_1) = ji6 := hji6
        obtain rfl := Option.some.inj H
        go_wp2
        repeat (go_quiet (fail); try go_wp2)
        go_ret
        exact ⟨by first | rfl | (simp [errW_none, errW_some] <;> rfl) | (simp only [← hji6]; first | rfl | (simp [errW_none, errW_some] <;> rfl)) | (simp [*, errW_none, errW_some] <;> rfl), by repeat (first | (with_reducible first | exact HB.out | apply below_alloc | apply pw_below_drewN | apply below_drew1) | exact HB.out)⟩
end
section
def L_LineOf.f (k : Nat) (l0 : List (S85)) : Option (Int × Int × Int × Int) := (L_open.f k l0).bind fun bt162 => (if bt162.2.2.2.2.2.2 = 0 then ((L_sums_shared.f bt162.1 bt162.2.1 bt162.2.2.1 bt162.2.2.2.1 bt162.2.2.2.2.1 bt162.2.2.2.2.2.1).bind fun t170 => ((L_sums_spread.f bt162.1 bt162.2.1 bt162.2.2.1 bt162.2.2.2.1 bt162.2.2.2.2.1 bt162.2.2.2.2.2.1).bind fun t171 => ((L_divisor.f k (([t170, wrap64 ((wrap64 (bt162.2.2.1 * bt162.2.2.2.1)) - (wrap64 (bt162.2.1 * bt162.2.2.2.2.1))), t171] : List Int))).bind fun t176 => (if t176 = 0 then (none) else (some (wrap64 (Int.tdiv t170 t176), wrap64 (Int.tdiv (wrap64 ((wrap64 (bt162.2.2.1 * bt162.2.2.2.1)) - (wrap64 (bt162.2.1 * bt162.2.2.2.2.1)))) t176), wrap64 (Int.tdiv t171 t176), 0)))))) else (some (0, 0, 0, bt162.2.2.2.2.2.2)))
theorem L_LineOf.mono : ∀ a0 k, LeO (L_LineOf.f k a0) (L_LineOf.f (k + 1) a0) := by
 intro a0 k
 unfold L_LineOf.f
 repeat' with_reducible first
  | exact L_divisor.mono ..
  | exact L_open.mono ..
  | exact LeO.refl ..
  | exact LeO.none ..
  | refine LeO.ite ?_ ?_
  | refine LeO.bind ?_ (fun _ => ?_)
def L_LineOf.T4 : Bool × List (List Nat × List Nat) := (true, [([], []), ([0], [0]), ([], []), ([2], [2]), ([], []), ([4], [4]), ([3, 5], [3, 5]), ([], []), ([7], [7]), ([], []), ([9], [9]), ([8, 10], [8, 10]), ([6, 11], [6, 11]), ([], []), ([13, 1], [13]), ([1, 12, 14], [1, 12, 14]), ([], []), ([16, 15, 14, 0, 1, 2, 3, 4, 5, 6, 7, 8, 9, 10, 11, 12, 13, 14, 15, 16], [15, 16])])
def L_LineOf.B4 : List Nat := [0, 1, 0, 4, 0, 16, 60, 0, 128, 0, 512, 1920, 4092, 0, 8195, 32767, 0, 131071]
theorem L_LineOf.tab4 : rtab .any (opsOf Try.f37 4) = L_LineOf.T4 := by kernel_rfl
theorem L_LineOf.bits4 : waitsOk L_LineOf.T4.2 L_LineOf.B4 = true := by kernel_rfl
def L_LineOf.T6 : Bool × List (List Nat × List Nat) := (true, [([], []), ([0], [0]), ([], []), ([1, 2], [1, 2]), ([], []), ([4], [4]), ([], []), ([5, 6], [5, 6]), ([], []), ([8], [8]), ([], []), ([9, 10], [9, 10]), ([3, 7, 11], [3, 7, 11]), ([12, 0, 1, 2, 3, 4, 5, 6, 7, 8, 9, 10, 11, 12], [12]), ([13, 0, 1, 2, 3, 4, 5, 6, 7, 8, 9, 10, 11, 12, 13], [])])
def L_LineOf.B6 : List Nat := [0, 1, 0, 7, 0, 16, 0, 112, 0, 256, 0, 1792, 4095, 8191, 16383]
theorem L_LineOf.tab6 : rtab .any (opsOf Try.f37 6) = L_LineOf.T6 := by kernel_rfl
theorem L_LineOf.bits6 : waitsOk L_LineOf.T6.2 L_LineOf.B6 = true := by kernel_rfl
theorem L_LineOf.calls (k : Nat) (A0 : Option Addr) (c0 : Nat) (l0 : List (S85)) (r1 : Int) (r2 : Int) (r3 : Int) (r4 : Int) (w : World) (hr0 : Kd.C k85 w A0 l0.length l0) (hc0 : l0.length ≤ c0) (h : L_LineOf.f k l0 = some (r1, r2, r3, r4)) :
  Calls Try.prog 37 #[.slice A0 l0.length c0] w fun e w' => e = .returned (.tuple #[.agg #[.int .i64 r1, .int .i64 r2, .int .i64 r3], .int .i64 r4]) ∧ Below w.heap.size w w' := by
 have hu56 := Try.underlying56
 have hu149 := Try.underlying149
 have HR0 := m0 hr0
 have HC0 := m0 hc0
 clear hr0 hc0
 have HB := m0 (Below.refl w.heap.size w)
 have H : ((L_open.f k l0).bind fun bt162 => (if bt162.2.2.2.2.2.2 = 0 then ((L_sums_shared.f bt162.1 bt162.2.1 bt162.2.2.1 bt162.2.2.2.1 bt162.2.2.2.2.1 bt162.2.2.2.2.2.1).bind fun t170 => ((L_sums_spread.f bt162.1 bt162.2.1 bt162.2.2.1 bt162.2.2.2.1 bt162.2.2.2.2.1 bt162.2.2.2.2.2.1).bind fun t171 => ((L_divisor.f k (([t170, wrap64 ((wrap64 (bt162.2.2.1 * bt162.2.2.2.1)) - (wrap64 (bt162.2.1 * bt162.2.2.2.2.1))), t171] : List Int))).bind fun t176 => (if t176 = 0 then (none) else (some (wrap64 (Int.tdiv t170 t176), wrap64 (Int.tdiv (wrap64 ((wrap64 (bt162.2.2.1 * bt162.2.2.2.1)) - (wrap64 (bt162.2.1 * bt162.2.2.2.2.1)))) t176), wrap64 (Int.tdiv t171 t176), 0)))))) else (some (0, 0, 0, bt162.2.2.2.2.2.2)))) = some (r1, r2, r3, r4) := h
 clear h
 replace H := ob H
 obtain ⟨⟨t162, t163, t164, t165, t166, t167, t168⟩, A2, H⟩ := H
 (try dsimp only at H)
 replace A2 := m0 A2
 by_cases c3 : t168 = 0
 ·rw [if_pos c3] at H
  have c3b0 := beq_iff_eq.mpr c3
  have c3b1 := bne_eq_false_iff_eq.mpr c3
  clear c3
  replace H := ob H
  obtain ⟨t170, A4, H⟩ := H
  (try dsimp only at H)
  replace A4 := m0 A4
  replace H := ob H
  obtain ⟨t171, A5, H⟩ := H
  (try dsimp only at H)
  replace A5 := m0 A5
  obtain ⟨y173, hy173⟩ : ∃ y_ : List Int, y_ = (([t170, wrap64 ((wrap64 (t164 * t165)) - (wrap64 (t163 * t166))), t171] : List Int)) := ⟨_, rfl⟩
  replace H : ((L_divisor.f k y173).bind fun t176 => (if t176 = 0 then (none) else (some (wrap64 (Int.tdiv t170 t176), wrap64 (Int.tdiv (wrap64 ((wrap64 (t164 * t165)) - (wrap64 (t163 * t166)))) t176), wrap64 (Int.tdiv t171 t176), 0)))) = some (r1, r2, r3, r4) := by first | (rw [hy173]; with_reducible exact H) | (have H2_ := (Option.bind_some _ _).symm.trans H; rw [hy173]; with_reducible exact H2_) | (have H2_ := (Option.bind_some _ _).symm.trans H; with_reducible exact H2_) | with_reducible exact H | (rw [hy173]; exact H) | exact H
  have Ny173 := m0 hy173
  clear hy173
  replace H := ob H
  obtain ⟨t176, A6, H⟩ := H
  (try dsimp only at H)
  replace A6 := m0 A6
  by_cases c7 : t176 = 0
  ·rw [if_pos c7] at H
   exact absurd H (by simp)
  ·rw [if_neg c7] at H
   have c7b0 := beq_eq_false_iff_ne.mpr c7
   have c7b1 := bne_iff_ne.mpr c7
   simp only [Option.some.injEq, Prod.mk.injEq] at H
   obtain ⟨rfl, rfl, rfl, rfl⟩ := H
   go_enter Try.func37, Try.ntmps37
   try go_wp2_with (first | ((with_reducible refine gate_dst (N := 2) rfl ?_); refine be 2 56 #[.int .i64 0, .int .i64 0, .int .i64 0] ?_; intro gb161 hg w8 hbox hb; have BK161 := m0 hbox; have GE161 := gw w hg; replace HB := sb HB hb; clear hb hbox hg) | ((with_reducible refine gate_callee (f := 94) rfl ?_); refine gl (some 10) Try.func94 #[.slice A0 l0.length c0] ?_; (with_reducible refine (L_open.calls k _ _ l0 t162 t163 t164 t165 t166 t167 t168 _ ?side1 ?side2 A2.out).mono ?_); (case side1 => exact cb HR0 HB); (case side2 => exact HC0.out); rintro e w9 ⟨rfl, hb⟩; refine ⟨_, rfl, ?_⟩; replace BK161 := bb BK161 hb; replace HB := sb HB hb; (try clear hb)) | ((with_reducible refine gate_dst (N := 4) rfl ?_); refine be 4 149 #[.int .i64 0, .int .i64 0, .int .i64 0, .int .i64 0, .int .i64 0, .int .i64 0] ?_; intro gb169 hg w10 hbox hb; have BK169 := m0 hbox; have GE169 := gw w hg; replace HB := sb HB hb; have NB161_169 := nl BK161 hg; have NB169_161 := ng (nl BK161 hg); replace BK161 := bb BK161 hb; clear hb hbox hg; have hnb11 := NB169_161.out; have hnc11 := NB161_169.out; have hcz12_0 : w10.cell? ⟨gb169, 0, none⟩ = some (.int .i64 0) := (blk_cell BK169.out 0).trans rfl; have hcz12_1 : w10.cell? ⟨gb169, 1, none⟩ = some (.int .i64 0) := (blk_cell BK169.out 1).trans rfl; have hcz12_2 : w10.cell? ⟨gb169, 2, none⟩ = some (.int .i64 0) := (blk_cell BK169.out 2).trans rfl; have hcz12_3 : w10.cell? ⟨gb169, 3, none⟩ = some (.int .i64 0) := (blk_cell BK169.out 3).trans rfl; have hcz12_4 : w10.cell? ⟨gb169, 4, none⟩ = some (.int .i64 0) := (blk_cell BK169.out 4).trans rfl; have hcz12_5 : w10.cell? ⟨gb169, 5, none⟩ = some (.int .i64 0) := (blk_cell BK169.out 5).trans rfl; have hfz12_0 := blk_frozen BK169.out 0; have hfz12_1 := blk_frozen BK169.out 1; have hfz12_2 := blk_frozen BK169.out 2; have hfz12_3 := blk_frozen BK169.out 3; have hfz12_4 := blk_frozen BK169.out 4; have hfz12_5 := blk_frozen BK169.out 5))
   replace BK161 : Aside0 (((((((w10.setCell ⟨gb169, 0, none⟩ (.int .i64 t162)).setCell ⟨gb169, 1, none⟩ (.int .i64 t163)).setCell ⟨gb169, 2, none⟩ (.int .i64 t164)).setCell ⟨gb169, 3, none⟩ (.int .i64 t165)).setCell ⟨gb169, 4, none⟩ (.int .i64 t166)).setCell ⟨gb169, 5, none⟩ (.int .i64 t167)).heap[gb161]? = some (.cells #[.int .i64 0, .int .i64 0, .int .i64 0] 56 (0, 0))) := ⟨bq BK161.out⟩
   replace BK169 : Aside0 (((((((w10.setCell ⟨gb169, 0, none⟩ (.int .i64 t162)).setCell ⟨gb169, 1, none⟩ (.int .i64 t163)).setCell ⟨gb169, 2, none⟩ (.int .i64 t164)).setCell ⟨gb169, 3, none⟩ (.int .i64 t165)).setCell ⟨gb169, 4, none⟩ (.int .i64 t166)).setCell ⟨gb169, 5, none⟩ (.int .i64 t167)).heap[gb169]? = some (.cells #[.int .i64 t162, .int .i64 t163, .int .i64 t164, .int .i64 t165, .int .i64 t166, .int .i64 t167] 149 (0, 0))) := ⟨bq BK169.out⟩
   replace HB : Aside0 (Below w.heap.size w ((((((w10.setCell ⟨gb169, 0, none⟩ (.int .i64 t162)).setCell ⟨gb169, 1, none⟩ (.int .i64 t163)).setCell ⟨gb169, 2, none⟩ (.int .i64 t164)).setCell ⟨gb169, 3, none⟩ (.int .i64 t165)).setCell ⟨gb169, 4, none⟩ (.int .i64 t166)).setCell ⟨gb169, 5, none⟩ (.int .i64 t167))) := ⟨bz⟩
   generalize ((((((w10.setCell ⟨gb169, 0, none⟩ (.int .i64 t162)).setCell ⟨gb169, 1, none⟩ (.int .i64 t163)).setCell ⟨gb169, 2, none⟩ (.int .i64 t164)).setCell ⟨gb169, 3, none⟩ (.int .i64 t165)).setCell ⟨gb169, 4, none⟩ (.int .i64 t166)).setCell ⟨gb169, 5, none⟩ (.int .i64 t167)) = w13 at BK161 BK169 HB ⊢
   replace BK161 := bd BK161; replace BK169 := bd BK169; replace HB := sd HB
   refine start_ (n := 18) (S := fun w' => w'.cell? ⟨gb169, 0, none⟩ = some (.int .i64 t162) ∧ w'.cell? ⟨gb169, 1, none⟩ = some (.int .i64 t163) ∧ w'.cell? ⟨gb169, 2, none⟩ = some (.int .i64 t164) ∧ w'.cell? ⟨gb169, 3, none⟩ = some (.int .i64 t165) ∧ w'.cell? ⟨gb169, 4, none⟩ = some (.int .i64 t166) ∧ w'.cell? ⟨gb169, 5, none⟩ = some (.int .i64 t167)) (ds := []) #[false, false, false, false, false, false, false, false, false, false, false, false, false, false, false, false, false, false] (by kernel_rfl) rfl rfl cz (fun hH => ?_); refine with_tabW L_LineOf.tab4 L_LineOf.bits4 (fun HT_ HW_ => ?_)
   generalize w13.drew = w14 at BK161 BK169 HB hH ⊢
   refine pZ 2 (some 19) (bs 18 4) HT_ ?_
   refine pZ 4 (some 21) (bs 18 20) HT_ ?_
   refine pZ 7 (some 24) (bs 18 148) HT_ ?_
   refine pZ 9 (some 26) (bs 18 660) HT_ ?_
   refine takeZ 0 (some 17) (bs 18 661) (take_ofW HT_.out HW_.out (by kernel_rfl)) hH ?_
   refine takeZ 3 (some 20) (bs 18 669) (take_ofW HT_.out HW_.out (by kernel_rfl)) hH ?_
   refine takeZ 5 (some 22) (bs 18 701) (take_ofW HT_.out HW_.out (by kernel_rfl)) hH ?_
   refine pZ 6 (some 23) (bs 18 765) HT_ ?_
   refine takeZ 8 (some 25) (bs 18 1021) (take_ofW HT_.out HW_.out (by kernel_rfl)) hH ?_
   refine takeZ 10 (some 27) (bs 18 2045) (take_ofW HT_.out HW_.out (by kernel_rfl)) hH ?_
   refine pZ 11 (some 28) (bs 18 4093) HT_ ?_
   refine pZ 12 (some 29) (bs 18 8189) HT_ ?_
   refine takeZ 13 (some 30) (bs 18 16381) (take_ofW HT_.out HW_.out (by kernel_rfl)) hH ?_
   refine join_ (σ := Nat) 1 (bs 18 131071) (fun s_ => [(18, .int .i64 t170), (31, .int .i64 t171), (6, .pointer (some ⟨s_, 0, none⟩)), (32, .agg #[.int .i64 t170, .int .i64 (wrap64 ((wrap64 (t164 * t165)) - (wrap64 (t163 * t166)))), .int .i64 t171])]) (fun s_ w' => (w'.cell? ⟨gb169, 0, none⟩ = some (.int .i64 t162) ∧ w'.cell? ⟨gb169, 1, none⟩ = some (.int .i64 t163) ∧ w'.cell? ⟨gb169, 2, none⟩ = some (.int .i64 t164) ∧ w'.cell? ⟨gb169, 3, none⟩ = some (.int .i64 t165) ∧ w'.cell? ⟨gb169, 4, none⟩ = some (.int .i64 t166) ∧ w'.cell? ⟨gb169, 5, none⟩ = some (.int .i64 t167)) ∧ (w'.heap[gb161]? = some (.cells #[.int .i64 0, .int .i64 0, .int .i64 0] 56 (0, 0))) ∧ (w'.heap[gb169]? = some (.cells #[.int .i64 t162, .int .i64 t163, .int .i64 t164, .int .i64 t165, .int .i64 t166, .int .i64 t167] 149 (0, 0))) ∧ (w'.heap[s_]? = some (.cells #[.int .i64 0, .int .i64 0, .int .i64 0] 56 (0, 0))) ∧ (w.heap.size ≤ s_) ∧ (w.heap.size ≤ s_) ∧ (gb161 ≠ s_) ∧ (s_ ≠ gb161) ∧ (gb169 ≠ s_) ∧ (s_ ≠ gb169) ∧ (Below w.heap.size w w')) ?_ ?_
   rotate_left
   ·intro hCont
    refine two_ (i := 1) (j := 16) (Ni := some 18) (Nj := some 6) (bs 18 16383) (bs 18 81917) rfl rfl rfl rfl (two_of HT_.out (by kernel_rfl)) (by decide) (by decide) (fun K hK => ?_) (fun K hK => ?_)
    ·skip
     refine gz Try.func95 #[.agg #[.int .i64 t162, .int .i64 t163, .int .i64 t164, .int .i64 t165, .int .i64 t166, .int .i64 t167]] ?_
     with_reducible refine (L_sums_shared.calls t162 t163 t164 t165 t166 t167 t170 _ A4.out).mono ?_
     rintro e w15 ⟨rfl, hb⟩
     refine ⟨_, rfl, ?_⟩
     replace BK161 := bb BK161 hb; replace BK169 := bb BK169 hb; replace HB := sb HB hb
     (try clear hb)
     refine hK.out _ _ cz (fun hH => ?_)
     clear hK K
     refine norm_ (a' := ?_) ?_ ?_
     rotate_left
     ·show Act.put _ (some 18) _ = _
      exact pz
     refine two_ (i := 14) (j := 16) (Ni := some 31) (Nj := some 6) (bs 18 32767) (bs 18 81919) rfl rfl rfl rfl (two_of HT_.out (by kernel_rfl)) (by decide) (by decide) (fun K hK => ?_) (fun K hK => ?_)
     ·skip
      refine gz Try.func96 #[.agg #[.int .i64 t162, .int .i64 t163, .int .i64 t164, .int .i64 t165, .int .i64 t166, .int .i64 t167]] ?_
      with_reducible refine (L_sums_spread.calls t162 t163 t164 t165 t166 t167 t171 _ A5.out).mono ?_
      rintro e w16 ⟨rfl, hb⟩
      refine ⟨_, rfl, ?_⟩
      replace BK161 := bb BK161 hb; replace BK169 := bb BK169 hb; replace HB := sb HB hb
      (try clear hb)
      refine hK.out _ _ cz (fun hH => ?_)
      clear hK K
      refine norm_ (a' := ?_) ?_ ?_
      rotate_left
      ·show Act.put _ (some 31) _ = _
       exact pz
      refine pZ 15 (some 32) (bs 18 65535) HT_ ?_
      refine oneZ 16 (some 6) (bs 18 131071) (one_of HT_.out (by kernel_rfl)) fun K hK => ?_
      refine box_step ?hg (N := 6) ?hd (cs := #[.int .i64 0, .int .i64 0, .int .i64 0]) (t := 56) ?hr ?_; (case hd => rfl); (case hg => rfl); (case hr => first | (go_simp; done) | (go_simp; rfl))
      intro gb172 hg w17 hbox hb
      have BK172 := m0 hbox; have GW172 := gw w hg; have GE172 := gw w hg; replace HB := sb HB hb; have NB161_172 := nl BK161 hg; have NB172_161 := ng (nl BK161 hg); replace BK161 := bb BK161 hb; have NB169_172 := nl BK169 hg; have NB172_169 := ng (nl BK169 hg); replace BK169 := bb BK169 hb
      clear hb hbox hg
      refine hK.out _ _ cz (fun hH => ?_)
      clear hK K
      refine norm_ (a' := ?_) ?_ ?_
      rotate_left
      ·show Act.put _ (some 6) _ = _
       exact pz
      exact norm_ (by simp only [putAll, Act.put, List.setIfInBounds_toArray, List.set_cons_zero, List.set_cons_succ]) (hCont (gb172) _ ⟨hH, (bk BK161.out), (bk BK169.out), (bk BK172.out), GW172.out, GE172.out, NB161_172.out, NB172_161.out, NB169_172.out, NB172_169.out, bz⟩)
     ·skip
      refine box_step ?hg (N := 6) ?hd (cs := #[.int .i64 0, .int .i64 0, .int .i64 0]) (t := 56) ?hr ?_; (case hd => rfl); (case hg => rfl); (case hr => first | (go_simp; done) | (go_simp; rfl))
      intro gb172 hg w16 hbox hb
      have BK172 := m0 hbox; have GW172 := gw w hg; have GE172 := gw w hg; replace HB := sb HB hb; have NB161_172 := nl BK161 hg; have NB172_161 := ng (nl BK161 hg); replace BK161 := bb BK161 hb; have NB169_172 := nl BK169 hg; have NB172_169 := ng (nl BK169 hg); replace BK169 := bb BK169 hb
      clear hb hbox hg
      refine hK.out _ _ cz (fun hH => ?_)
      clear hK K
      refine norm_ (a' := ?_) ?_ ?_
      rotate_left
      ·show Act.put _ (some 6) _ = _
       exact pz
      refine oneZ 14 (some 31) (bs 18 98303) (one_of HT_.out (by kernel_rfl)) fun K hK => ?_
      refine gz Try.func96 #[.agg #[.int .i64 t162, .int .i64 t163, .int .i64 t164, .int .i64 t165, .int .i64 t166, .int .i64 t167]] ?_
      with_reducible refine (L_sums_spread.calls t162 t163 t164 t165 t166 t167 t171 _ A5.out).mono ?_
      rintro e w17 ⟨rfl, hb⟩
      refine ⟨_, rfl, ?_⟩
      replace BK161 := bb BK161 hb; replace BK169 := bb BK169 hb; replace BK172 := bb BK172 hb; replace HB := sb HB hb
      (try clear hb)
      refine hK.out _ _ cz (fun hH => ?_)
      clear hK K
      refine norm_ (a' := ?_) ?_ ?_
      rotate_left
      ·show Act.put _ (some 31) _ = _
       exact pz
      refine pZ 15 (some 32) (bs 18 131071) HT_ ?_
      exact norm_ (by simp only [putAll, Act.put, List.setIfInBounds_toArray, List.set_cons_zero, List.set_cons_succ]) (hCont (gb172) _ ⟨hH, (bk BK161.out), (bk BK169.out), (bk BK172.out), GW172.out, GE172.out, NB161_172.out, NB172_161.out, NB169_172.out, NB172_169.out, bz⟩)
    ·skip
     refine box_step ?hg (N := 6) ?hd (cs := #[.int .i64 0, .int .i64 0, .int .i64 0]) (t := 56) ?hr ?_; (case hd => rfl); (case hg => rfl); (case hr => first | (go_simp; done) | (go_simp; rfl))
     intro gb172 hg w15 hbox hb
     have BK172 := m0 hbox; have GW172 := gw w hg; have GE172 := gw w hg; replace HB := sb HB hb; have NB161_172 := nl BK161 hg; have NB172_161 := ng (nl BK161 hg); replace BK161 := bb BK161 hb; have NB169_172 := nl BK169 hg; have NB172_169 := ng (nl BK169 hg); replace BK169 := bb BK169 hb
     clear hb hbox hg
     refine hK.out _ _ cz (fun hH => ?_)
     clear hK K
     refine norm_ (a' := ?_) ?_ ?_
     rotate_left
     ·show Act.put _ (some 6) _ = _
      exact pz
     refine oneZ 1 (some 18) (bs 18 81919) (one_of HT_.out (by kernel_rfl)) fun K hK => ?_
     refine gz Try.func95 #[.agg #[.int .i64 t162, .int .i64 t163, .int .i64 t164, .int .i64 t165, .int .i64 t166, .int .i64 t167]] ?_
     with_reducible refine (L_sums_shared.calls t162 t163 t164 t165 t166 t167 t170 _ A4.out).mono ?_
     rintro e w16 ⟨rfl, hb⟩
     refine ⟨_, rfl, ?_⟩
     replace BK161 := bb BK161 hb; replace BK169 := bb BK169 hb; replace BK172 := bb BK172 hb; replace HB := sb HB hb
     (try clear hb)
     refine hK.out _ _ cz (fun hH => ?_)
     clear hK K
     refine norm_ (a' := ?_) ?_ ?_
     rotate_left
     ·show Act.put _ (some 18) _ = _
      exact pz
     refine oneZ 14 (some 31) (bs 18 98303) (one_of HT_.out (by kernel_rfl)) fun K hK => ?_
     refine gz Try.func96 #[.agg #[.int .i64 t162, .int .i64 t163, .int .i64 t164, .int .i64 t165, .int .i64 t166, .int .i64 t167]] ?_
     with_reducible refine (L_sums_spread.calls t162 t163 t164 t165 t166 t167 t171 _ A5.out).mono ?_
     rintro e w17 ⟨rfl, hb⟩
     refine ⟨_, rfl, ?_⟩
     replace BK161 := bb BK161 hb; replace BK169 := bb BK169 hb; replace BK172 := bb BK172 hb; replace HB := sb HB hb
     (try clear hb)
     refine hK.out _ _ cz (fun hH => ?_)
     clear hK K
     refine norm_ (a' := ?_) ?_ ?_
     rotate_left
     ·show Act.put _ (some 31) _ = _
      exact pz
     refine pZ 15 (some 32) (bs 18 131071) HT_ ?_
     exact norm_ (by simp only [putAll, Act.put, List.setIfInBounds_toArray, List.set_cons_zero, List.set_cons_succ]) (hCont (gb172) _ ⟨hH, (bk BK161.out), (bk BK169.out), (bk BK172.out), GW172.out, GE172.out, NB161_172.out, NB172_161.out, NB169_172.out, NB172_169.out, bz⟩)
   rintro gb172 w18 ⟨hS_, h0_, h1_, h2_, h3_, h4_, h5_, h6_, h7_, h8_, h9_⟩
   have n0_ : Aside0 (w18.heap[gb161]? = some (.cells #[.int .i64 0, .int .i64 0, .int .i64 0] 56 (0, 0))) := ⟨h0_⟩
   have n1_ : Aside0 (w18.heap[gb169]? = some (.cells #[.int .i64 t162, .int .i64 t163, .int .i64 t164, .int .i64 t165, .int .i64 t166, .int .i64 t167] 149 (0, 0))) := ⟨h1_⟩
   have n2_ : Aside0 (w18.heap[gb172]? = some (.cells #[.int .i64 0, .int .i64 0, .int .i64 0] 56 (0, 0))) := ⟨h2_⟩
   have n3_ : Aside0 (w.heap.size ≤ gb172) := ⟨h3_⟩
   have n4_ : Aside0 (w.heap.size ≤ gb172) := ⟨h4_⟩
   have n5_ : Aside0 (gb161 ≠ gb172) := ⟨h5_⟩
   have n6_ : Aside0 (gb172 ≠ gb161) := ⟨h6_⟩
   have n7_ : Aside0 (gb169 ≠ gb172) := ⟨h7_⟩
   have n8_ : Aside0 (gb172 ≠ gb169) := ⟨h8_⟩
   have n9_ : Aside0 (Below w.heap.size w w18) := ⟨h9_⟩
   clear BK161
   clear BK169
   clear HB
   clear h0_ h1_ h2_ h3_ h4_ h5_ h6_ h7_ h8_ h9_
   have BK161 := n0_
   have BK169 := n1_
   have BK172 := n2_
   have GW172 := n3_
   have GE172 := n4_
   have NB161_172 := n5_
   have NB172_161 := n6_
   have NB169_172 := n7_
   have NB172_169 := n8_
   have HB := n9_
   clear n0_ n1_ n2_ n3_ n4_ n5_ n6_ n7_ n8_ n9_
   have hH : w18.cell? ⟨gb169, 0, none⟩ = some (.int .i64 t162) ∧ w18.cell? ⟨gb169, 1, none⟩ = some (.int .i64 t163) ∧ w18.cell? ⟨gb169, 2, none⟩ = some (.int .i64 t164) ∧ w18.cell? ⟨gb169, 3, none⟩ = some (.int .i64 t165) ∧ w18.cell? ⟨gb169, 4, none⟩ = some (.int .i64 t166) ∧ w18.cell? ⟨gb169, 5, none⟩ = some (.int .i64 t167) := hS_
   refine norm_ (a' := ?_) ?_ ?_
   rotate_left
   ·simp only [putAll, Act.put, List.setIfInBounds_toArray, List.set_cons_zero, List.set_cons_succ]
    rfl
   refine oneZ 17 (none) (bs 18 262143) (one_of HT_.out (by kernel_rfl)) fun K hK => ?_
   have hs19 : w18.cell? ⟨gb172, 0, none⟩ = some (.int .i64 0) := (blk_cell BK172.out 0).trans rfl
   have hfs19 := blk_frozen BK172.out 0
   have hs20 : w18.cell? ⟨gb172, 1, none⟩ = some (.int .i64 0) := (blk_cell BK172.out 1).trans rfl
   have hfs20 := blk_frozen BK172.out 1
   have hs21 : w18.cell? ⟨gb172, 2, none⟩ = some (.int .i64 0) := (blk_cell BK172.out 2).trans rfl
   have hfs21 := blk_frozen BK172.out 2
   refine skip_ (w1 := ?_) (by rfl) rfl ?_ ?_
   rotate_left
   ·go_simp
    rfl
   refine hK.out _ _ (cf hH) (fun hH => ?_)
   clear hK K
   refine done_ (done_of HT_.out (by kernel_rfl)) ?_
   have hnb22 := NB172_161.out
   have hnc22 := NB161_172.out
   have hnb23 := NB172_169.out
   have hnc23 := NB169_172.out
   obtain ⟨_, _, _, _, _, _⟩ := b3 BK172
   try go_wp2_with (first | ((with_reducible refine gate_dst (N := 39) rfl ?_); refine Kd.R_lit (Kd.int .i64) _ 3 ?hg (N := 39) ?hd (xs := ([t170, wrap64 ((wrap64 (t164 * t165)) - (wrap64 (t163 * t166))), t171] : List Int)) (inner := [.int .i64 t170, .int .i64 (wrap64 ((wrap64 (t164 * t165)) - (wrap64 (t163 * t166)))), .int .i64 t171]) (ok := fun _ => True) (okp := fun _ => True) ?hr ?hp (fun _ hk => hk) trivial (Below.refl _ _) (Nat.le_refl _) (by simp) ?_; (case hd => rfl); (case hg => rfl); (case hr => first | (go_simp; done) | (go_simp; rfl)); (case hp => exact (Reps.one (show Kd.M (Kd.int .i64) _ _ _ t170 [.int .i64 t170] from rfl) (Reps.one (show Kd.M (Kd.int .i64) _ _ _ (wrap64 ((wrap64 (t164 * t165)) - (wrap64 (t163 * t166)))) [.int .i64 (wrap64 ((wrap64 (t164 * t165)) - (wrap64 (t163 * t166))))] from rfl) (Reps.one (show Kd.M (Kd.int .i64) _ _ _ t171 [.int .i64 t171] from rfl) (Reps.none _ _))))); intro v174 w25 ho26 hb hg_ hnew_; clear hg_ hnew_; (first | rw [← Ny173.out] at ho26 | (simp only [Int.reduceToNat] at ho26; rw [← Ny173.out] at ho26)); have HO175 := m0 (Kd.R_lower ho26 (below_size bz)); replace BK161 := m0 (blk_below (g := gb161) (o := .cells #[.int .i64 0, .int .i64 0, .int .i64 0] 56 (0, 0)) (bq BK161.out) hb); replace BK169 := m0 (blk_below (g := gb169) (o := .cells #[.int .i64 t162, .int .i64 t163, .int .i64 t164, .int .i64 t165, .int .i64 t166, .int .i64 t167] 149 (0, 0)) (bq BK169.out) hb); replace BK172 := m0 (blk_below (g := gb172) (o := .cells #[.int .i64 t170, .int .i64 (wrap64 ((wrap64 (t164 * t165)) - (wrap64 (t163 * t166)))), .int .i64 t171] 56 (0, 0)) (bq BK172.out) hb); replace HB := sb HB hb; clear hb ho26; obtain ⟨Ao27, co27, eo27⟩ := Kd.R_slice HO175.out; subst eo27) | ((with_reducible refine gate_callee (f := 97) rfl ?_); refine gl (some 40) Try.func97 #[.slice Ao27 y173.length co27] ?_; (with_reducible refine (L_divisor.calls k _ _ y173 t176 _ ?side1 ?side2 A6.out).mono ?_); (case side1 => exact bc (Kd.R_reads' HO175.out).2.2); (case side2 => exact (Kd.R_reads' HO175.out).2.1); rintro e w28 ⟨rfl, hb⟩; refine ⟨_, rfl, ?_⟩; replace HO175 := rb HO175 hb; replace BK161 := bb BK161 hb; replace BK169 := bb BK169 hb; replace BK172 := bb BK172 hb; replace HB := sb HB hb; (try clear hb)))
   replace HO175 := m0 (Kd.R_drew HO175.out); replace BK161 := bd BK161; replace BK169 := bd BK169; replace BK172 := bd BK172; replace HB := sd HB
   refine start_ (n := 15) (S := fun w' => w'.cell? ⟨gb172, 0, none⟩ = some (.int .i64 t170) ∧ w'.cell? ⟨gb172, 1, none⟩ = some (.int .i64 (wrap64 ((wrap64 (t164 * t165)) - (wrap64 (t163 * t166))))) ∧ w'.cell? ⟨gb172, 2, none⟩ = some (.int .i64 t171)) (ds := []) #[false, false, false, false, false, false, false, false, false, false, false, false, false, false, false] (by kernel_rfl) rfl rfl cz (fun hH => ?_); refine with_tabW L_LineOf.tab6 L_LineOf.bits6 (fun HT_ HW_ => ?_)
   generalize w28.drew = w29 at HO175 BK161 BK169 BK172 HB hH ⊢
   refine pZ 0 (some 41) (bs 15 1) HT_ ?_
   refine pZ 2 (some 43) (bs 15 5) HT_ ?_
   refine pZ 4 (some 45) (bs 15 21) HT_ ?_
   refine pZ 6 (some 47) (bs 15 85) HT_ ?_
   refine pZ 8 (some 49) (bs 15 341) HT_ ?_
   refine pZ 10 (some 51) (bs 15 1365) HT_ ?_
   refine takeZ 1 (some 42) (bs 15 1367) (take_ofW HT_.out HW_.out (by kernel_rfl)) hH ?_
   refine pZ 3 (some 44) (bs 15 1375) HT_ ?_
   refine takeZ 5 (some 46) (bs 15 1407) (take_ofW HT_.out HW_.out (by kernel_rfl)) hH ?_
   refine pZ 7 (some 48) (bs 15 1535) HT_ ?_
   refine takeZ 9 (some 50) (bs 15 2047) (take_ofW HT_.out HW_.out (by kernel_rfl)) hH ?_
   refine pZ 11 (some 52) (bs 15 4095) HT_ ?_
   refine pZ 12 (some 53) (bs 15 8191) HT_ ?_
   refine oneZ 13 (none) (bs 15 16383) (one_of HT_.out (by kernel_rfl)) fun K hK => ?_
   have hs30 : w29.cell? ⟨gb161, 0, none⟩ = some (.int .i64 0) := (blk_cell BK161.out 0).trans rfl
   have hfs30 := blk_frozen BK161.out 0
   have hs31 : w29.cell? ⟨gb161, 1, none⟩ = some (.int .i64 0) := (blk_cell BK161.out 1).trans rfl
   have hfs31 := blk_frozen BK161.out 1
   have hs32 : w29.cell? ⟨gb161, 2, none⟩ = some (.int .i64 0) := (blk_cell BK161.out 2).trans rfl
   have hfs32 := blk_frozen BK161.out 2
   refine skip_ (w1 := ?_) (by rfl) rfl ?_ ?_
   rotate_left
   ·go_simp
    rfl
   refine hK.out _ _ (cf hH) (fun hH => ?_)
   clear hK K
   refine pZ 14 (some 3) (bs 15 32767) HT_ ?_
   refine done_ (done_of HT_.out (by kernel_rfl)) ?_
   try go_wp2
   refine bodyPost_ret (results_ct rfl _ _ gb161 56 #[.int .i64 (wrap64 (Int.tdiv t170 t176)), .int .i64 (wrap64 (Int.tdiv (wrap64 ((wrap64 (t164 * t165)) - (wrap64 (t163 * t166)))) t176)), .int .i64 (wrap64 (Int.tdiv t171 t176))] (0, 0) _ rfl (bq BK161.out) Try.underlying56 rfl (by kernel_rfl)) rfl ?_
   exact ez
 ·rw [if_neg c3] at H
  have c3b0 := beq_eq_false_iff_ne.mpr c3
  have c3b1 := bne_iff_ne.mpr c3
  simp only [Option.some.injEq, Prod.mk.injEq] at H
  obtain ⟨rfl, rfl, rfl, rfl⟩ := H
  go_enter Try.func37, Try.ntmps37
  go_wp2_with (first | ((with_reducible refine gate_dst (N := 2) rfl ?_); refine be 2 56 #[.int .i64 0, .int .i64 0, .int .i64 0] ?_; intro gb161 hg w33 hbox hb; have BK161 := m0 hbox; have GE161 := gw w hg; replace HB := sb HB hb; clear hb hbox hg) | ((with_reducible refine gate_callee (f := 94) rfl ?_); refine gl (some 10) Try.func94 #[.slice A0 l0.length c0] ?_; (with_reducible refine (L_open.calls k _ _ l0 t162 t163 t164 t165 t166 t167 t168 _ ?side1 ?side2 A2.out).mono ?_); (case side1 => exact cb HR0 HB); (case side2 => exact HC0.out); rintro e w34 ⟨rfl, hb⟩; refine ⟨_, rfl, ?_⟩; replace BK161 := bb BK161 hb; replace HB := sb HB hb; (try clear hb)) | ((with_reducible refine gate_dst (N := 4) rfl ?_); refine be 4 149 #[.int .i64 0, .int .i64 0, .int .i64 0, .int .i64 0, .int .i64 0, .int .i64 0] ?_; intro gb169 hg w35 hbox hb; have BK169 := m0 hbox; have GE169 := gw w hg; replace HB := sb HB hb; have NB161_169 := nl BK161 hg; have NB169_161 := ng (nl BK161 hg); replace BK161 := bb BK161 hb; clear hb hbox hg; have hnb36 := NB169_161.out; have hnc36 := NB161_169.out; have hcz37_0 : w35.cell? ⟨gb169, 0, none⟩ = some (.int .i64 0) := (blk_cell BK169.out 0).trans rfl; have hcz37_1 : w35.cell? ⟨gb169, 1, none⟩ = some (.int .i64 0) := (blk_cell BK169.out 1).trans rfl; have hcz37_2 : w35.cell? ⟨gb169, 2, none⟩ = some (.int .i64 0) := (blk_cell BK169.out 2).trans rfl; have hcz37_3 : w35.cell? ⟨gb169, 3, none⟩ = some (.int .i64 0) := (blk_cell BK169.out 3).trans rfl; have hcz37_4 : w35.cell? ⟨gb169, 4, none⟩ = some (.int .i64 0) := (blk_cell BK169.out 4).trans rfl; have hcz37_5 : w35.cell? ⟨gb169, 5, none⟩ = some (.int .i64 0) := (blk_cell BK169.out 5).trans rfl; have hfz37_0 := blk_frozen BK169.out 0; have hfz37_1 := blk_frozen BK169.out 1; have hfz37_2 := blk_frozen BK169.out 2; have hfz37_3 := blk_frozen BK169.out 3; have hfz37_4 := blk_frozen BK169.out 4; have hfz37_5 := blk_frozen BK169.out 5; obtain ⟨_, _, _, _, _, _⟩ := b3 BK161))
  refine bodyPost_ret (results_ct rfl _ _ gb161 56 #[.int .i64 0, .int .i64 0, .int .i64 0] (0, 0) _ rfl (by (with_reducible repeat (first | refine blk_drewN ?_ _ | refine blk_drew ?_ | refine blk_alloc ?_ _)); refine blk_put (cs := #[.int .i64 0, .int .i64 0, .int .i64 0]) ?_ 2 _ rfl; (with_reducible repeat (first | refine blk_drewN ?_ _ | refine blk_drew ?_ | refine blk_alloc ?_ _)); refine blk_put (cs := #[.int .i64 0, .int .i64 0, .int .i64 0]) ?_ 1 _ rfl; (with_reducible repeat (first | refine blk_drewN ?_ _ | refine blk_drew ?_ | refine blk_alloc ?_ _)); refine blk_put (cs := #[.int .i64 0, .int .i64 0, .int .i64 0]) ?_ 0 _ rfl; (with_reducible repeat (first | refine blk_drewN ?_ _ | refine blk_drew ?_ | refine blk_alloc ?_ _)); refine blk_far ?_ NB161_169.out _; (with_reducible repeat (first | refine blk_drewN ?_ _ | refine blk_drew ?_ | refine blk_alloc ?_ _)); refine blk_far ?_ NB161_169.out _; (with_reducible repeat (first | refine blk_drewN ?_ _ | refine blk_drew ?_ | refine blk_alloc ?_ _)); refine blk_far ?_ NB161_169.out _; (with_reducible repeat (first | refine blk_drewN ?_ _ | refine blk_drew ?_ | refine blk_alloc ?_ _)); refine blk_far ?_ NB161_169.out _; (with_reducible repeat (first | refine blk_drewN ?_ _ | refine blk_drew ?_ | refine blk_alloc ?_ _)); refine blk_far ?_ NB161_169.out _; (with_reducible repeat (first | refine blk_drewN ?_ _ | refine blk_drew ?_ | refine blk_alloc ?_ _)); refine blk_far ?_ NB161_169.out _; (with_reducible repeat (first | refine blk_drewN ?_ _ | refine blk_drew ?_ | refine blk_alloc ?_ _)); exact BK161.out) Try.underlying56 rfl (by kernel_rfl)) rfl ?_
  exact ez
end
section
def L_offsets.f (a0_0 : Int) (a0_1 : Int) (a0_2 : Int) : Option (Int × Int) := some (wrap64 ((wrap64 (a0_1 - a0_0)) - a0_2), wrap64 ((wrap64 (a0_1 - a0_0)) + a0_2))
theorem L_offsets.calls (a0_0 : Int) (a0_1 : Int) (a0_2 : Int) (r1 : Int) (r2 : Int) (w : World) (h : L_offsets.f a0_0 a0_1 a0_2 = some (r1, r2)) :
  Calls Try.prog 114 #[.agg #[.int .i64 a0_0, .int .i64 a0_1, .int .i64 a0_2]] w fun e w' => e = .returned (.agg #[.int .i64 r1, .int .i64 r2]) ∧ Below w.heap.size w w' := by
 have hu85 := Try.underlying85
 have hu58 := Try.underlying58
 have HB := m0 (Below.refl w.heap.size w)
 have H : (some (wrap64 ((wrap64 (a0_1 - a0_0)) - a0_2), wrap64 ((wrap64 (a0_1 - a0_0)) + a0_2))) = some (r1, r2) := h
 clear h
 simp only [Option.some.injEq, Prod.mk.injEq] at H
 obtain ⟨rfl, rfl⟩ := H
 go_enter Try.func114, Try.ntmps114
 go_wp2_with (first | ((with_reducible refine gate_dst (N := 1) rfl ?_); refine be 1 85 #[.int .i64 a0_0, .int .i64 a0_1, .int .i64 a0_2] ?_; intro gb177 hg w2 hbox hb; have BK177 := m0 hbox; have GE177 := gw w hg; replace HB := sb HB hb; clear hb hbox hg) | ((with_reducible refine gate_dst (N := 2) rfl ?_); refine be 2 58 #[.int .i64 0, .int .i64 0] ?_; intro gb178 hg w3 hbox hb; have BK178 := m0 hbox; have GE178 := gw w hg; replace HB := sb HB hb; have NB177_178 := nl BK177 hg; have NB178_177 := ng (nl BK177 hg); replace BK177 := bb BK177 hb; clear hb hbox hg; have hnb4 := NB177_178.out; have hnc4 := NB178_177.out; obtain ⟨_, _, _, _, _, _⟩ := b3 BK177; obtain ⟨_, _, _, _⟩ := b2 BK178))
 refine bodyPost_ret (results_cell_row rfl _ _ gb178 58 #[.int .i64 (wrap64 ((wrap64 (a0_1 - a0_0)) - a0_2)), .int .i64 (wrap64 ((wrap64 (a0_1 - a0_0)) + a0_2))] (0, 0) _ rfl (bq BK178.out) Try.underlying58 rfl (by kernel_rfl)) rfl ?_
 exact ez
end
end Go.Proofs.Ytibhfahbabgbaaa.A
