/- Walks of the program's functions (printed, made shorter), each with what it computes. -/
import Derived.Test.YtibhfahbabgbaaaTC04
import Derived.Test.YtibhfahbabgbaaaTC11
import Derived.Test.YtibhfahbabgbaaaTC03
namespace Go.Proofs.Ytibhfahbabgbaaa.A
set_option maxHeartbeats 8000000
set_option maxRecDepth 100000
open Go.RowKit Go.Proofs.YtibhfahbabgbaaaW.PrintWords Go.Proofs.YtibhfahbabgbaaaW.PrintLast Go.Proofs.YtibhfahbabgbaaaW.PrintMore
attribute [local go_sem] max2_int min2_int max_two min_two max_three min_three max_four min_four
set_option linter.unusedVariables false
set_option linter.unusedSimpArgs false
section
def Bs_Ceil.f (a0 : Int) (a1 : Int) : Option (Int) := (Bs_Floor.f (wrap64 (-a0)) a1).bind fun t352 => (some (wrap64 (-t352)))
theorem Bs_Ceil.calls (a0 : Int) (a1 : Int) (r : Int) (w : World) (h : Bs_Ceil.f a0 a1 = some r) :
  Calls Try.prog 82 #[.int .i64 a0, .int .i64 a1] w fun e w' => e = .returned (.int .i64 r) ∧ Drawn0 w w' := by
 have H : ((Bs_Floor.f (wrap64 (-a0)) a1).bind fun t352 => (some (wrap64 (-t352)))) = some r := h
 clear h
 replace H := ob H
 obtain ⟨t352, A3, H⟩ := H
 (try dsimp only at H)
 replace A3 := m0 A3
 obtain rfl := Option.some.inj H
 go_enter Try.func82, Try.ntmps82
 go_wp2_with (first | ((with_reducible refine gate_callee (f := 92) rfl ?_); refine gl (some 8) Try.func92 #[.int .i64 (wrap64 (-a0)), .int .i64 a1] ?_; (with_reducible refine (Bs_Floor.calls (wrap64 (-a0)) a1 t352 _ A3.out).mono ?_); rintro e w' ⟨rfl, ⟨nd, rfl⟩⟩; refine ⟨_, rfl, ?_⟩))
 go_ret
 exact ⟨by first | rfl | (simp; done) | (simp [*]; done), by repeat (first | exact Drawn0.refl _ | apply Drawn0.step)⟩
end
section
def Rf_Corrected.f (a0_0 : Int) (a0_1 : Int) (a0_2 : Int) (a1_0 : Int) (a1_1 : Int) : Option (Int × Int) := (Bs_Floor.f (wrap64 ((wrap64 (a0_2 * a1_0)) - a0_1)) a0_0).bind fun t582 => ((Bs_Ceil.f (wrap64 ((wrap64 (a0_2 * a1_1)) - a0_1)) a0_0).bind fun t583 => (some (t582, t583)))
def Rf_Corrected.T1 : Bool × List (List Nat × List Nat) := (true, [([], []), ([0], [0]), ([], []), ([2], [2]), ([1, 3], [1, 3]), ([], []), ([5], [5]), ([4, 6], [4, 6]), ([], []), ([8], [8]), ([7, 9], [7, 9]), ([], []), ([11], [11]), ([], []), ([13], [13]), ([12, 14], [12, 14]), ([], []), ([16], [16]), ([15, 17], [15, 17]), ([], []), ([19], [19]), ([18, 20, 10], [18, 20]), ([10, 21], [10, 21]), ([22, 21, 0, 1, 2, 3, 4, 5, 6, 7, 8, 9, 10, 11, 12, 13, 14, 15, 16, 17, 18, 19, 20, 21, 22], [22])])
def Rf_Corrected.B1 : List Nat := [0, 1, 0, 4, 15, 0, 32, 127, 0, 256, 1023, 0, 2048, 0, 8192, 30720, 0, 65536, 260096, 0, 524288, 2097151, 4194303, 8388607]
theorem Rf_Corrected.tab1 : rtab .any (opsOf Try.f33 1) = Rf_Corrected.T1 := by kernel_rfl
theorem Rf_Corrected.bits1 : waitsOk Rf_Corrected.T1.2 Rf_Corrected.B1 = true := by kernel_rfl
theorem Rf_Corrected.calls (a0_0 : Int) (a0_1 : Int) (a0_2 : Int) (a1_0 : Int) (a1_1 : Int) (r1 : Int) (r2 : Int) (w : World) (h : Rf_Corrected.f a0_0 a0_1 a0_2 a1_0 a1_1 = some (r1, r2)) :
  Calls Try.prog 33 #[.agg #[.int .i64 a0_0, .int .i64 a0_1, .int .i64 a0_2], .agg #[.int .i64 a1_0, .int .i64 a1_1]] w fun e w' => e = .returned (.agg #[.int .i64 r1, .int .i64 r2]) ∧ Below w.heap.size w w' := by
 have hu56 := Try.underlying56
 have hu58 := Try.underlying58
 have HB := m0 (Below.refl w.heap.size w)
 have H : ((Bs_Floor.f (wrap64 ((wrap64 (a0_2 * a1_0)) - a0_1)) a0_0).bind fun t582 => ((Bs_Ceil.f (wrap64 ((wrap64 (a0_2 * a1_1)) - a0_1)) a0_0).bind fun t583 => (some (t582, t583)))) = some (r1, r2) := h
 clear h
 replace H := ob H
 obtain ⟨t582, A3, H⟩ := H
 (try dsimp only at H)
 replace A3 := m0 A3
 replace H := ob H
 obtain ⟨t583, A4, H⟩ := H
 (try dsimp only at H)
 replace A4 := m0 A4
 simp only [Option.some.injEq, Prod.mk.injEq] at H
 obtain ⟨rfl, rfl⟩ := H
 go_enter Try.func33, Try.ntmps33
 try go_wp2_with (first | ((with_reducible refine gate_dst (N := 2) rfl ?_); refine be 2 56 #[.int .i64 a0_0, .int .i64 a0_1, .int .i64 a0_2] ?_; intro gb579 hg w5 hbox hb; have BK579 := m0 hbox; have GE579 := gw w hg; replace HB := sb HB hb; clear hb hbox hg) | ((with_reducible refine gate_dst (N := 3) rfl ?_); refine be 3 58 #[.int .i64 a1_0, .int .i64 a1_1] ?_; intro gb580 hg w6 hbox hb; have BK580 := m0 hbox; have GE580 := gw w hg; replace HB := sb HB hb; have NB579_580 := nl BK579 hg; have NB580_579 := ng (nl BK579 hg); replace BK579 := bb BK579 hb; clear hb hbox hg) | ((with_reducible refine gate_dst (N := 4) rfl ?_); refine be 4 58 #[.int .i64 0, .int .i64 0] ?_; intro gb581 hg w7 hbox hb; have BK581 := m0 hbox; have GE581 := gw w hg; replace HB := sb HB hb; have NB579_581 := nl BK579 hg; have NB581_579 := ng (nl BK579 hg); replace BK579 := bb BK579 hb; have NB580_581 := nl BK580 hg; have NB581_580 := ng (nl BK580 hg); replace BK580 := bb BK580 hb; clear hb hbox hg))
 replace BK579 := bd BK579; replace BK580 := bd BK580; replace BK581 := bd BK581; replace HB := sd HB
 refine start_ (n := 24) (S := fun w' => w'.cell? ⟨gb579, 0, none⟩ = some (.int .i64 a0_0) ∧ w'.cell? ⟨gb579, 1, none⟩ = some (.int .i64 a0_1) ∧ w'.cell? ⟨gb579, 2, none⟩ = some (.int .i64 a0_2) ∧ w'.cell? ⟨gb580, 0, none⟩ = some (.int .i64 a1_0) ∧ w'.cell? ⟨gb580, 1, none⟩ = some (.int .i64 a1_1)) (ds := []) #[false, false, false, false, false, false, false, false, false, false, false, false, false, false, false, false, false, false, false, false, false, false, false, false] (by kernel_rfl) rfl rfl cz (fun hH => ?_); refine with_tabW Rf_Corrected.tab1 Rf_Corrected.bits1 (fun HT_ HW_ => ?_)
 generalize w7.drew = w8 at BK579 BK580 BK581 HB hH ⊢
 refine pZ 0 (some 5) (bs 24 1) HT_ ?_
 refine pZ 2 (some 7) (bs 24 5) HT_ ?_
 refine pZ 5 (some 10) (bs 24 37) HT_ ?_
 refine pZ 8 (some 13) (bs 24 293) HT_ ?_
 refine pZ 11 (some 16) (bs 24 2341) HT_ ?_
 refine pZ 13 (some 18) (bs 24 10533) HT_ ?_
 refine pZ 16 (some 21) (bs 24 76069) HT_ ?_
 refine pZ 19 (some 24) (bs 24 600357) HT_ ?_
 refine takeZ 1 (some 6) (bs 24 600359) (take_ofW HT_.out HW_.out (by kernel_rfl)) hH ?_
 refine takeZ 3 (some 8) (bs 24 600367) (take_ofW HT_.out HW_.out (by kernel_rfl)) hH ?_
 refine pZ 4 (some 9) (bs 24 600383) HT_ ?_
 refine takeZ 6 (some 11) (bs 24 600447) (take_ofW HT_.out HW_.out (by kernel_rfl)) hH ?_
 refine pZ 7 (some 12) (bs 24 600575) HT_ ?_
 refine takeZ 9 (some 14) (bs 24 601087) (take_ofW HT_.out HW_.out (by kernel_rfl)) hH ?_
 refine takeZ 12 (some 17) (bs 24 605183) (take_ofW HT_.out HW_.out (by kernel_rfl)) hH ?_
 refine takeZ 14 (some 19) (bs 24 621567) (take_ofW HT_.out HW_.out (by kernel_rfl)) hH ?_
 refine pZ 15 (some 20) (bs 24 654335) HT_ ?_
 refine takeZ 17 (some 22) (bs 24 785407) (take_ofW HT_.out HW_.out (by kernel_rfl)) hH ?_
 refine pZ 18 (some 23) (bs 24 1047551) HT_ ?_
 refine takeZ 20 (some 25) (bs 24 2096127) (take_ofW HT_.out HW_.out (by kernel_rfl)) hH ?_
 refine oneZ 10 (some 15) (bs 24 2097151) (one_of HT_.out (by kernel_rfl)) fun K hK => ?_
 refine gz Try.func92 #[.int .i64 (wrap64 ((wrap64 (a0_2 * a1_0)) - a0_1)), .int .i64 a0_0] ?_
 with_reducible refine (Bs_Floor.calls (wrap64 ((wrap64 (a0_2 * a1_0)) - a0_1)) a0_0 t582 _ A3.out).mono ?_
 rintro e w' ⟨rfl, ⟨nd, rfl⟩⟩
 refine ⟨_, rfl, ?_⟩
 refine hK.out _ _ cz (fun hH => ?_)
 clear hK K
 refine norm_ (a' := ?_) ?_ ?_
 rotate_left
 ·show Act.put _ (some 15) _ = _
  exact pz
 refine oneZ 21 (some 26) (bs 24 4194303) (one_of HT_.out (by kernel_rfl)) fun K hK => ?_
 refine gz Try.func82 #[.int .i64 (wrap64 ((wrap64 (a0_2 * a1_1)) - a0_1)), .int .i64 a0_0] ?_
 with_reducible refine (Bs_Ceil.calls (wrap64 ((wrap64 (a0_2 * a1_1)) - a0_1)) a0_0 t583 _ A4.out).mono ?_
 rintro e w' ⟨rfl, ⟨nd, rfl⟩⟩
 refine ⟨_, rfl, ?_⟩
 refine hK.out _ _ cz (fun hH => ?_)
 clear hK K
 refine norm_ (a' := ?_) ?_ ?_
 rotate_left
 ·show Act.put _ (some 26) _ = _
  exact pz
 refine pZ 22 (some 27) (bs 24 8388607) HT_ ?_
 refine oneZ 23 (none) (bs 24 16777215) (one_of HT_.out (by kernel_rfl)) fun K hK => ?_
 have hs9 : w8.cell? ⟨gb581, 0, none⟩ = some (.int .i64 0) := (blk_cell BK581.out 0).trans rfl
 have hfs9 := blk_frozen BK581.out 0
 have hs10 : w8.cell? ⟨gb581, 1, none⟩ = some (.int .i64 0) := (blk_cell BK581.out 1).trans rfl
 have hfs10 := blk_frozen BK581.out 1
 refine skip_ (w1 := ?_) (by rfl) rfl ?_ ?_
 rotate_left
 ·go_simp
  rfl
 refine hK.out _ _ (cf hH) (fun hH => ?_)
 clear hK K
 refine done_ (done_of HT_.out (by kernel_rfl)) ?_
 try go_wp2
 refine bodyPost_ret (results_cell_row rfl _ _ gb581 58 #[.int .i64 t582, .int .i64 t583] (0, 0) _ rfl (bq BK581.out) Try.underlying58 rfl (by kernel_rfl)) rfl ?_
 exact ez
end
section
def Rf_At.f (a0_0 : Int) (a0_1 : Int) (a0_2 : Int) (a1 : Int) : Option (Int × Int) := (Bs_Floor.f (wrap64 ((wrap64 (a0_0 * a1)) + a0_1)) a0_2).bind fun t586 => ((Bs_Ceil.f (wrap64 ((wrap64 (a0_0 * a1)) + a0_1)) a0_2).bind fun t587 => (some (t586, t587)))
def Rf_At.T2 : Bool × List (List Nat × List Nat) := (true, [([], []), ([], []), ([1], [1]), ([0, 2], [0, 2]), ([], []), ([], []), ([5], [5]), ([4, 6, 3], [4, 6]), ([3, 7], [3, 7]), ([8, 7, 0, 1, 2, 3, 4, 5, 6, 7, 8], [8])])
def Rf_At.B2 : List Nat := [0, 0, 2, 7, 0, 0, 32, 127, 255, 511]
theorem Rf_At.tab2 : rtab .any (opsOf Try.f35 2) = Rf_At.T2 := by kernel_rfl
theorem Rf_At.bits2 : waitsOk Rf_At.T2.2 Rf_At.B2 = true := by kernel_rfl
theorem Rf_At.calls (a0_0 : Int) (a0_1 : Int) (a0_2 : Int) (a1 : Int) (r1 : Int) (r2 : Int) (w : World) (h : Rf_At.f a0_0 a0_1 a0_2 a1 = some (r1, r2)) :
  Calls Try.prog 35 #[.agg #[.int .i64 a0_0, .int .i64 a0_1, .int .i64 a0_2], .int .i64 a1] w fun e w' => e = .returned (.agg #[.int .i64 r1, .int .i64 r2]) ∧ Below w.heap.size w w' := by
 have hu56 := Try.underlying56
 have hu58 := Try.underlying58
 have HB := m0 (Below.refl w.heap.size w)
 have H : ((Bs_Floor.f (wrap64 ((wrap64 (a0_0 * a1)) + a0_1)) a0_2).bind fun t586 => ((Bs_Ceil.f (wrap64 ((wrap64 (a0_0 * a1)) + a0_1)) a0_2).bind fun t587 => (some (t586, t587)))) = some (r1, r2) := h
 clear h
 replace H := ob H
 obtain ⟨t586, A3, H⟩ := H
 (try dsimp only at H)
 replace A3 := m0 A3
 replace H := ob H
 obtain ⟨t587, A4, H⟩ := H
 (try dsimp only at H)
 replace A4 := m0 A4
 simp only [Option.some.injEq, Prod.mk.injEq] at H
 obtain ⟨rfl, rfl⟩ := H
 go_enter Try.func35, Try.ntmps35
 try go_wp2_with (first | ((with_reducible refine gate_dst (N := 2) rfl ?_); refine be 2 56 #[.int .i64 a0_0, .int .i64 a0_1, .int .i64 a0_2] ?_; intro gb584 hg w5 hbox hb; have BK584 := m0 hbox; have GE584 := gw w hg; replace HB := sb HB hb; clear hb hbox hg) | ((with_reducible refine gate_dst (N := 4) rfl ?_); refine be 4 58 #[.int .i64 0, .int .i64 0] ?_; intro gb585 hg w6 hbox hb; have BK585 := m0 hbox; have GE585 := gw w hg; replace HB := sb HB hb; have NB584_585 := nl BK584 hg; have NB585_584 := ng (nl BK584 hg); replace BK584 := bb BK584 hb; clear hb hbox hg; have hnb7 := NB584_585.out; have hnc7 := NB585_584.out; obtain ⟨_, _, _, _, _, _⟩ := b3 BK584))
 replace BK584 := bd BK584; replace BK585 := bd BK585; replace HB := sd HB
 refine start_ (n := 10) (S := fun w' => w'.cell? ⟨gb584, 0, none⟩ = some (.int .i64 a0_0) ∧ w'.cell? ⟨gb584, 1, none⟩ = some (.int .i64 a0_1) ∧ w'.cell? ⟨gb584, 2, none⟩ = some (.int .i64 a0_2)) (ds := []) #[false, false, false, false, false, false, false, false, false, false] (by kernel_rfl) rfl rfl cz (fun hH => ?_); refine with_tabW Rf_At.tab2 Rf_At.bits2 (fun HT_ HW_ => ?_)
 generalize w6.drew = w9 at BK584 BK585 HB hH ⊢
 refine pZ 0 (some 13) #[true, false, false, false, false, false, false, false, false, false] HT_ ?_
 refine pZ 1 (some 14) #[true, true, false, false, false, false, false, false, false, false] HT_ ?_
 refine pZ 4 (some 17) #[true, true, false, false, true, false, false, false, false, false] HT_ ?_
 refine pZ 5 (some 18) #[true, true, false, false, true, true, false, false, false, false] HT_ ?_
 refine takeZ 2 (some 15) #[true, true, true, false, true, true, false, false, false, false] (take_ofW HT_.out HW_.out (by kernel_rfl)) hH ?_
 refine takeZ 6 (some 19) #[true, true, true, false, true, true, true, false, false, false] (take_ofW HT_.out HW_.out (by kernel_rfl)) hH ?_
 refine oneZ 3 (some 16) #[true, true, true, true, true, true, true, false, false, false] (one_of HT_.out (by kernel_rfl)) fun K hK => ?_
 refine gz Try.func92 #[.int .i64 (wrap64 ((wrap64 (a0_0 * a1)) + a0_1)), .int .i64 a0_2] ?_
 with_reducible refine (Bs_Floor.calls (wrap64 ((wrap64 (a0_0 * a1)) + a0_1)) a0_2 t586 _ A3.out).mono ?_
 rintro e w' ⟨rfl, ⟨nd, rfl⟩⟩
 refine ⟨_, rfl, ?_⟩
 refine hK.out _ _ cz (fun hH => ?_)
 clear hK K
 refine norm_ (a' := ?_) ?_ ?_
 rotate_left
 ·show Act.put _ (some 16) _ = _
  exact pz
 refine oneZ 7 (some 20) #[true, true, true, true, true, true, true, true, false, false] (one_of HT_.out (by kernel_rfl)) fun K hK => ?_
 refine gz Try.func82 #[.int .i64 (wrap64 ((wrap64 (a0_0 * a1)) + a0_1)), .int .i64 a0_2] ?_
 with_reducible refine (Bs_Ceil.calls (wrap64 ((wrap64 (a0_0 * a1)) + a0_1)) a0_2 t587 _ A4.out).mono ?_
 rintro e w' ⟨rfl, ⟨nd, rfl⟩⟩
 refine ⟨_, rfl, ?_⟩
 refine hK.out _ _ cz (fun hH => ?_)
 clear hK K
 refine norm_ (a' := ?_) ?_ ?_
 rotate_left
 ·show Act.put _ (some 20) _ = _
  exact pz
 refine pZ 8 (some 21) #[true, true, true, true, true, true, true, true, true, false] HT_ ?_
 refine oneZ 9 (none) #[true, true, true, true, true, true, true, true, true, true] (one_of HT_.out (by kernel_rfl)) fun K hK => ?_
 have hs10 : w9.cell? ⟨gb585, 0, none⟩ = some (.int .i64 0) := (blk_cell BK585.out 0).trans rfl
 have hfs10 := blk_frozen BK585.out 0
 have hs11 : w9.cell? ⟨gb585, 1, none⟩ = some (.int .i64 0) := (blk_cell BK585.out 1).trans rfl
 have hfs11 := blk_frozen BK585.out 1
 refine skip_ (w1 := ?_) (by rfl) rfl ?_ ?_
 rotate_left
 ·go_simp
  rfl
 refine hK.out _ _ (cf hH) (fun hH => ?_)
 clear hK K
 refine done_ (done_of HT_.out (by kernel_rfl)) ?_
 try go_wp2
 refine bodyPost_ret (results_cell_row rfl _ _ gb585 58 #[.int .i64 t586, .int .i64 t587] (0, 0) _ rfl (bq BK585.out) Try.underlying58 rfl (by kernel_rfl)) rfl ?_
 exact ez
end
section
attribute [local go_sem high] eqA58
mutual
def Lw_TargetCorrected.j0 : Nat → Int → Int → Bool → Int → Int → Int → Int → Int → Option (Bool)
  | 0, _, _, _, _, _, _, _, _ => none
  | k + 1, x1, x8, x58, x589000, x589001, x589002, x595000, x595001 => if x58 = true then (none) else ((Rf_LineErr.f k x589000 x589001 x589002).bind fun t602 => (if t602 = 0 then ((Bs_Within.f x1 0 2000).bind fun t603 => (Lw_TargetCorrected.j1 k x1 x8 t602 (!t603) x589000 x589001 x589002 x595000 x595001)) else (Lw_TargetCorrected.j1 k x1 x8 t602 false x589000 x589001 x589002 x595000 x595001)))
def Lw_TargetCorrected.j1 : Nat → Int → Int → Int → Bool → Int → Int → Int → Int → Int → Option (Bool)
  | 0, _, _, _, _, _, _, _, _, _ => none
  | k + 1, x1, x8, x12, x67, x589000, x589001, x589002, x595000, x595001 => if x67 = true then (Lw_TargetCorrected.j2 k x1 x8 2 x589000 x589001 x589002 x595000 x595001) else (Lw_TargetCorrected.j2 k x1 x8 x12 x589000 x589001 x589002 x595000 x595001)
def Lw_TargetCorrected.j2 : Nat → Int → Int → Int → Int → Int → Int → Int → Int → Option (Bool)
  | 0, _, _, _, _, _, _, _, _ => none
  | k + 1, x1, x8, x12, x589000, x589001, x589002, x595000, x595001 => if x12 = 0 then (if x8 = 0 then ((Rf_At.f x589000 x589001 x589002 x1).bind fun bt604 => (Lw_TargetCorrected.j3 k x1 (!(x595000 == bt604.1) || (!(x595001 == bt604.2))) x589000 x589001 x589002 x595000 x595001)) else (none)) else (if x8 = x12 then (some (x595000 == 0 && (x595001 == 0))) else (none))
def Lw_TargetCorrected.j3 : Nat → Int → Bool → Int → Int → Int → Int → Int → Option (Bool)
  | 0, _, _, _, _, _, _, _ => none
  | k + 1, x1, x86, x589000, x589001, x589002, x595000, x595001 => if x86 = true then (none) else ((Rf_CorrectedErr.f k x589000 x589001 x589002 x595000 x595001).bind fun t606 => (if t606 = 0 then ((L_CorrectedIn.f k x589000 x589001 x589002 x595000 x595001).bind fun bt607 => (if bt607.2.2 = 0 then (if bt607.1 ≤ x1 then (some (decide (x1 ≤ bt607.2.1))) else (none)) else (none))) else (some true)))
end
def Lw_TargetCorrected.f (k : Nat) (a0_0 : Int) (a0_1 : Int) (a0_2 : Int) (a1 : Int) (a2_0 : Int) (a2_1 : Int) : Option (Bool) := (Lw_awake.f k).bind fun t590 => (if t590 = true then ((L_LineAt.f k a0_0 a0_1 a0_2 a1).bind fun bt591 => ((L_CorrectedIn.f k a0_0 a0_1 a0_2 a2_0 a2_1).bind fun bt595 => ((Rf_CorrectedErr.f k a0_0 a0_1 a0_2 a2_0 a2_1).bind fun t599 => (if t599 = 0 then (if bt595.2.2 = 0 then ((Rf_Corrected.f a0_0 a0_1 a0_2 a2_0 a2_1).bind fun bt600 => (Lw_TargetCorrected.j0 k a1 bt591.2.2 (!(bt595.1 == bt600.1) || (!(bt595.2.1 == bt600.2))) a0_0 a0_1 a0_2 bt591.1 bt591.2.1)) else (none)) else (if bt595.2.2 = t599 then (if (!(bt595.1 == 0) || (!(bt595.2.1 == 0))) = true then (none) else (Lw_TargetCorrected.j0 k a1 bt591.2.2 false a0_0 a0_1 a0_2 bt591.1 bt591.2.1)) else (none)))))) else (none))
theorem Lw_TargetCorrected.mono_l : ∀ k, (∀ y0 y1 y2 y3 y4 y5 y6 y7, LeO (Lw_TargetCorrected.j0 k y0 y1 y2 y3 y4 y5 y6 y7) (Lw_TargetCorrected.j0 (k + 1) y0 y1 y2 y3 y4 y5 y6 y7)) ∧ (∀ y0 y1 y2 y3 y4 y5 y6 y7 y8, LeO (Lw_TargetCorrected.j1 k y0 y1 y2 y3 y4 y5 y6 y7 y8) (Lw_TargetCorrected.j1 (k + 1) y0 y1 y2 y3 y4 y5 y6 y7 y8)) ∧ (∀ y0 y1 y2 y3 y4 y5 y6 y7, LeO (Lw_TargetCorrected.j2 k y0 y1 y2 y3 y4 y5 y6 y7) (Lw_TargetCorrected.j2 (k + 1) y0 y1 y2 y3 y4 y5 y6 y7)) ∧ (∀ y0 y1 y2 y3 y4 y5 y6, LeO (Lw_TargetCorrected.j3 k y0 y1 y2 y3 y4 y5 y6) (Lw_TargetCorrected.j3 (k + 1) y0 y1 y2 y3 y4 y5 y6))
  | 0 => ⟨fun _ _ _ _ _ _ _ _ r h => by simp [Lw_TargetCorrected.j0] at h, fun _ _ _ _ _ _ _ _ _ r h => by simp [Lw_TargetCorrected.j1] at h, fun _ _ _ _ _ _ _ _ r h => by simp [Lw_TargetCorrected.j2] at h, fun _ _ _ _ _ _ _ r h => by simp [Lw_TargetCorrected.j3] at h⟩
  | k + 1 => by
    obtain ⟨ih0, ih1, ih2, ih3⟩ := Lw_TargetCorrected.mono_l k
    refine ⟨?_, ?_, ?_, ?_⟩
    · intro y0 y1 y2 y3 y4 y5 y6 y7
      unfold Lw_TargetCorrected.j0
      repeat' with_reducible first
        | exact ih0 ..
        | exact ih1 ..
        | exact ih2 ..
        | exact ih3 ..
        | exact Lw_awake.mono ..
        | exact Rf_CorrectedErr.mono ..
        | exact Rf_LineErr.mono ..
        | exact L_CorrectedIn.mono ..
        | exact L_LineAt.mono ..
        | exact LeO.refl ..
        | exact LeO.none ..
        | refine LeO.ite ?_ ?_
        | refine LeO.bind ?_ (fun _ => ?_)
    · intro y0 y1 y2 y3 y4 y5 y6 y7 y8
      unfold Lw_TargetCorrected.j1
      repeat' with_reducible first
        | exact ih0 ..
        | exact ih1 ..
        | exact ih2 ..
        | exact ih3 ..
        | exact Lw_awake.mono ..
        | exact Rf_CorrectedErr.mono ..
        | exact Rf_LineErr.mono ..
        | exact L_CorrectedIn.mono ..
        | exact L_LineAt.mono ..
        | exact LeO.refl ..
        | exact LeO.none ..
        | refine LeO.ite ?_ ?_
        | refine LeO.bind ?_ (fun _ => ?_)
    · intro y0 y1 y2 y3 y4 y5 y6 y7
      unfold Lw_TargetCorrected.j2
      repeat' with_reducible first
        | exact ih0 ..
        | exact ih1 ..
        | exact ih2 ..
        | exact ih3 ..
        | exact Lw_awake.mono ..
        | exact Rf_CorrectedErr.mono ..
        | exact Rf_LineErr.mono ..
        | exact L_CorrectedIn.mono ..
        | exact L_LineAt.mono ..
        | exact LeO.refl ..
        | exact LeO.none ..
        | refine LeO.ite ?_ ?_
        | refine LeO.bind ?_ (fun _ => ?_)
    · intro y0 y1 y2 y3 y4 y5 y6
      unfold Lw_TargetCorrected.j3
      repeat' with_reducible first
        | exact ih0 ..
        | exact ih1 ..
        | exact ih2 ..
        | exact ih3 ..
        | exact Lw_awake.mono ..
        | exact Rf_CorrectedErr.mono ..
        | exact Rf_LineErr.mono ..
        | exact L_CorrectedIn.mono ..
        | exact L_LineAt.mono ..
        | exact LeO.refl ..
        | exact LeO.none ..
        | refine LeO.ite ?_ ?_
        | refine LeO.bind ?_ (fun _ => ?_)
theorem Lw_TargetCorrected.mono : ∀ a0 a1 a2 a3 a4 a5 k, LeO (Lw_TargetCorrected.f k a0 a1 a2 a3 a4 a5) (Lw_TargetCorrected.f (k + 1) a0 a1 a2 a3 a4 a5) := by
  intro a0 a1 a2 a3 a4 a5 k
  obtain ⟨ih0, ih1, ih2, ih3⟩ := Lw_TargetCorrected.mono_l k
  unfold Lw_TargetCorrected.f
  repeat' with_reducible first
    | exact ih0 ..
    | exact ih1 ..
    | exact ih2 ..
    | exact ih3 ..
    | exact Lw_awake.mono ..
    | exact Rf_CorrectedErr.mono ..
    | exact Rf_LineErr.mono ..
    | exact L_CorrectedIn.mono ..
    | exact L_LineAt.mono ..
    | exact LeO.refl ..
    | exact LeO.none ..
    | refine LeO.ite ?_ ?_
    | refine LeO.bind ?_ (fun _ => ?_)
def Lw_TargetCorrected.T6 : Bool × List (List Nat × List Nat) := (true, [([], []), ([0], [0]), ([1], [1]), ([2], [2]), ([2], [2]), ([3, 4, 2], [2, 3, 4]), ([5, 2, 2], [2, 5]), ([6], [6]), ([6], [6]), ([7, 8, 6], [6, 7, 8]), ([6, 9, 2], [2, 6, 9]), ([2, 10], [2, 10]), ([11, 6], [11]), ([12], [12]), ([13, 12], [12, 13]), ([14, 12, 12], [12, 14]), ([15], [15]), ([16, 15], [15, 16]), ([17, 15, 15], [15, 17]), ([18], [18]), ([18], [18]), ([18], [18]), ([20, 21, 18, 18], [18, 20, 21]), ([19, 22, 18], [18, 19, 22]), ([18, 23, 15], [15, 18, 23]), ([15, 24, 12], [12, 15, 24]), ([12, 25], [12, 25])])
def Lw_TargetCorrected.B6 : List Nat := [0, 1, 3, 7, 7, 31, 63, 127, 127, 511, 1023, 2047, 4095, 8191, 16383, 32767, 65535, 131071, 262143, 524287, 524287, 524287, 3670015, 8388607, 16777215, 33554431, 67108863]
theorem Lw_TargetCorrected.tab6 : rtab .any (opsOf Try.f6 6) = Lw_TargetCorrected.T6 := by kernel_rfl
theorem Lw_TargetCorrected.bits6 : waitsOk Lw_TargetCorrected.T6.2 Lw_TargetCorrected.B6 = true := by kernel_rfl
def Lw_TargetCorrected.T13 : Bool × List (List Nat × List Nat) := (true, [([], []), ([0], [0]), ([1], [1]), ([2], [2]), ([2], [2]), ([2], [2]), ([4, 5, 2, 2], [2, 4, 5]), ([3, 6, 2], [2, 3, 6]), ([2, 7], [2, 7])])
def Lw_TargetCorrected.B13 : List Nat := [0, 1, 3, 7, 7, 7, 55, 127, 255]
theorem Lw_TargetCorrected.tab13 : rtab .any (opsOf Try.f6 13) = Lw_TargetCorrected.T13 := by kernel_rfl
theorem Lw_TargetCorrected.bits13 : waitsOk Lw_TargetCorrected.T13.2 Lw_TargetCorrected.B13 = true := by kernel_rfl
theorem Lw_TargetCorrected.calls (k : Nat) (a0_0 : Int) (a0_1 : Int) (a0_2 : Int) (a1 : Int) (a2_0 : Int) (a2_1 : Int) (r : Bool) (w : World) (h : Lw_TargetCorrected.f k a0_0 a0_1 a0_2 a1 a2_0 a2_1 = some r) :
    Calls Try.prog 6 #[.agg #[.int .i64 a0_0, .int .i64 a0_1, .int .i64 a0_2], .int .i64 a1, .agg #[.int .i64 a2_0, .int .i64 a2_1]] w fun e w' => e = .returned (.bool r) ∧ Below w.heap.size w w' := by
  have hu56 := Try.underlying56
  have hu58 := Try.underlying58
  have HB := m0 (Below.refl w.heap.size w)
  have H : ((Lw_awake.f k).bind fun t590 => (if t590 = true then ((L_LineAt.f k a0_0 a0_1 a0_2 a1).bind fun bt591 => ((L_CorrectedIn.f k a0_0 a0_1 a0_2 a2_0 a2_1).bind fun bt595 => ((Rf_CorrectedErr.f k a0_0 a0_1 a0_2 a2_0 a2_1).bind fun t599 => (if t599 = 0 then (if bt595.2.2 = 0 then ((Rf_Corrected.f a0_0 a0_1 a0_2 a2_0 a2_1).bind fun bt600 => (Lw_TargetCorrected.j0 k a1 bt591.2.2 (!(bt595.1 == bt600.1) || (!(bt595.2.1 == bt600.2))) a0_0 a0_1 a0_2 bt591.1 bt591.2.1)) else (none)) else (if bt595.2.2 = t599 then (if (!(bt595.1 == 0) || (!(bt595.2.1 == 0))) = true then (none) else (Lw_TargetCorrected.j0 k a1 bt591.2.2 false a0_0 a0_1 a0_2 bt591.1 bt591.2.1)) else (none)))))) else (none))) = some r := h
  clear h
  replace H := ob H
  obtain ⟨t590, A4, H⟩ := H
  (try dsimp only at H)
  replace A4 := m0 A4
  by_cases c5 : t590 = true
  · subst c5
    rw [if_pos rfl] at H
    replace H := ob H
    obtain ⟨⟨t591, t592, t593⟩, A6, H⟩ := H
    (try dsimp only at H)
    replace A6 := m0 A6
    replace H := ob H
    obtain ⟨⟨t595, t596, t597⟩, A7, H⟩ := H
    (try dsimp only at H)
    replace A7 := m0 A7
    replace H := ob H
    obtain ⟨t599, A8, H⟩ := H
    (try dsimp only at H)
    replace A8 := m0 A8
    have HC9 := m0 H
    clear H
    go_enter Try.func6, Try.ntmps6
    go_upto_region 6 with (first | ((with_reducible refine gate_dst (N := 3) rfl ?_); refine be 3 56 #[.int .i64 a0_0, .int .i64 a0_1, .int .i64 a0_2] ?_; intro gb588 hg w10 hbox hb; have BK588 := m0 hbox; have GE588 := gw w hg; replace HB := sb HB hb; clear hb hbox hg) | ((with_reducible refine gate_dst (N := 5) rfl ?_); refine be 5 58 #[.int .i64 a2_0, .int .i64 a2_1] ?_; intro gb589 hg w11 hbox hb; have BK589 := m0 hbox; have GE589 := gw w hg; replace HB := sb HB hb; have NB588_589 := nl BK588 hg; have NB589_588 := ng (nl BK588 hg); replace BK588 := bb BK588 hb; clear hb hbox hg) | ((with_reducible refine gate_callee (f := 14) rfl ?_); refine gl (some 15) Try.func14 #[] ?_; (with_reducible refine (Lw_awake.calls k  true _ A4.out).mono ?_); rintro e w12 ⟨rfl, hb⟩; refine ⟨_, rfl, ?_⟩; replace BK588 := bb BK588 hb; replace BK589 := bb BK589 hb; replace HB := sb HB hb; (try clear hb); have hnb13 := NB588_589.out; have hnc13 := NB589_588.out; obtain ⟨hcz14_0, hcz14_1, hcz14_2, hfz14_0, hfz14_1, hfz14_2⟩ := b3 BK588) | ((with_reducible refine gate_callee (f := 30) rfl ?_); refine gl (some 20) Try.func30 #[.agg #[.int .i64 a0_0, .int .i64 a0_1, .int .i64 a0_2], .int .i64 a1] ?_; (with_reducible refine (L_LineAt.calls k a0_0 a0_1 a0_2 a1 t591 t592 t593 _ A6.out).mono ?_); rintro e w15 ⟨rfl, hb⟩; refine ⟨_, rfl, ?_⟩; replace BK588 := bb BK588 hb; replace BK589 := bb BK589 hb; replace HB := sb HB hb; (try clear hb)) | ((with_reducible refine gate_dst (N := 7) rfl ?_); refine be 7 58 #[.int .i64 0, .int .i64 0] ?_; intro gb594 hg w16 hbox hb; have BK594 := m0 hbox; have GE594 := gw w hg; replace HB := sb HB hb; have NB588_594 := nl BK588 hg; have NB594_588 := ng (nl BK588 hg); replace BK588 := bb BK588 hb; have NB589_594 := nl BK589 hg; have NB594_589 := ng (nl BK589 hg); replace BK589 := bb BK589 hb; clear hb hbox hg; have hnb17 := NB594_588.out; have hnc17 := NB588_594.out; have hnb18 := NB594_589.out; have hnc18 := NB589_594.out; obtain ⟨hcz19_0, hcz19_1, hfz19_0, hfz19_1⟩ := b2 BK594; obtain ⟨hcz20_0, hcz20_1, hcz20_2, hfz20_0, hfz20_1, hfz20_2⟩ := b3 BK588; obtain ⟨hcz21_0, hcz21_1, hfz21_0, hfz21_1⟩ := b2 BK589) | ((with_reducible refine gate_callee (f := 31) rfl ?_); refine gl (some 26) Try.func31 #[.agg #[.int .i64 a0_0, .int .i64 a0_1, .int .i64 a0_2], .agg #[.int .i64 a2_0, .int .i64 a2_1]] ?_; (with_reducible refine (L_CorrectedIn.calls k a0_0 a0_1 a0_2 a2_0 a2_1 t595 t596 t597 _ A7.out).mono ?_); rintro e w22 ⟨rfl, hb⟩; refine ⟨_, rfl, ?_⟩; replace BK588 := m0 (blk_below (g := gb588) (o := .cells #[.int .i64 a0_0, .int .i64 a0_1, .int .i64 a0_2] 56 (0, 0)) (bq BK588.out) hb); replace BK589 := m0 (blk_below (g := gb589) (o := .cells #[.int .i64 a2_0, .int .i64 a2_1] 58 (0, 0)) (bq BK589.out) hb); replace BK594 := m0 (blk_below (g := gb594) (o := .cells #[.int .i64 t591, .int .i64 t592] 58 (0, 0)) (bq BK594.out) hb); replace HB := sb HB hb; (try clear hb)) | ((with_reducible refine gate_dst (N := 9) rfl ?_); refine be 9 58 #[.int .i64 0, .int .i64 0] ?_; intro gb598 hg w23 hbox hb; have BK598 := m0 hbox; have GE598 := gw w hg; replace HB := sb HB hb; have NB588_598 := nl BK588 hg; have NB598_588 := ng (nl BK588 hg); replace BK588 := bb BK588 hb; have NB589_598 := nl BK589 hg; have NB598_589 := ng (nl BK589 hg); replace BK589 := bb BK589 hb; have NB594_598 := nl BK594 hg; have NB598_594 := ng (nl BK594 hg); replace BK594 := bb BK594 hb; clear hb hbox hg; have hnb24 := NB598_588.out; have hnc24 := NB588_598.out; have hnb25 := NB598_589.out; have hnc25 := NB589_598.out; have hnb26 := NB598_594.out; have hnc26 := NB594_598.out; obtain ⟨hcz27_0, hcz27_1, hfz27_0, hfz27_1⟩ := b2 BK598; obtain ⟨hcz28_0, hcz28_1, hcz28_2, hfz28_0, hfz28_1, hfz28_2⟩ := b3 BK588; obtain ⟨hcz29_0, hcz29_1, hfz29_0, hfz29_1⟩ := b2 BK589) | ((with_reducible refine gate_callee (f := 32) rfl ?_); refine gl (some 31) Try.func32 #[.agg #[.int .i64 a0_0, .int .i64 a0_1, .int .i64 a0_2], .agg #[.int .i64 a2_0, .int .i64 a2_1]] ?_; (with_reducible refine (Rf_CorrectedErr.calls k a0_0 a0_1 a0_2 a2_0 a2_1 t599 _ A8.out).mono ?_); rintro e w30 ⟨rfl, hb⟩; refine ⟨_, rfl, ?_⟩; replace BK588 := m0 (blk_below (g := gb588) (o := .cells #[.int .i64 a0_0, .int .i64 a0_1, .int .i64 a0_2] 56 (0, 0)) (bq BK588.out) hb); replace BK589 := m0 (blk_below (g := gb589) (o := .cells #[.int .i64 a2_0, .int .i64 a2_1] 58 (0, 0)) (bq BK589.out) hb); replace BK594 := m0 (blk_below (g := gb594) (o := .cells #[.int .i64 t591, .int .i64 t592] 58 (0, 0)) (bq BK594.out) hb); replace BK598 := m0 (blk_below (g := gb598) (o := .cells #[.int .i64 t595, .int .i64 t596] 58 (0, 0)) (bq BK598.out) hb); replace HB := sb HB hb; (try clear hb)))
    (try simp only [Act.put, List.setIfInBounds_toArray, List.set_cons_zero, List.set_cons_succ])
    go_cut [58] (fun v58 wc => ∃ (kq : Nat) (x58_8 : Bool), v58 = .bool x58_8 ∧ Aside0 (Lw_TargetCorrected.j0 kq a1 t593 x58_8 a0_0 a0_1 a0_2 t591 t592 = some r) ∧ Aside0 (kq ≤ k) ∧ Aside0 (wc.heap[gb588]? = some (.cells #[.int .i64 a0_0, .int .i64 a0_1, .int .i64 a0_2] 56 (0, 0))) ∧ Aside0 (wc.heap[gb589]? = some (.cells #[.int .i64 a2_0, .int .i64 a2_1] 58 (0, 0))) ∧ Aside0 (wc.heap[gb594]? = some (.cells #[.int .i64 t591, .int .i64 t592] 58 (0, 0))) ∧ Aside0 (wc.heap[gb598]? = some (.cells #[.int .i64 t595, .int .i64 t596] 58 (0, 0))) ∧ Aside0 (Below w.heap.size w wc))
    case first =>
      have H := HC9.out
      clear HC9
      by_cases c31 : t599 = 0
      · rw [if_pos c31] at H
        have c31b0 := beq_iff_eq.mpr c31
        have c31b1 := bne_eq_false_iff_eq.mpr c31
        clear c31
        (first | rw [c31b0] | (simp only [i64_w, i32_w]; rw [c31b0]) | skip)
        by_cases c32 : t597 = 0
        · rw [if_pos c32] at H
          have c32b0 := beq_iff_eq.mpr c32
          have c32b1 := bne_eq_false_iff_eq.mpr c32
          clear c32
          replace H := ob H
          obtain ⟨⟨t600, t601⟩, A33, H⟩ := H
          (try dsimp only at H)
          replace A33 := m0 A33
          have H' := m0 H
          clear H
          try go_wp2
          replace BK588 := bd BK588; replace BK589 := bd BK589; replace BK594 := bd BK594; replace BK598 := bd BK598; replace HB := sd HB
          refine start_ (n := 27) (S := fun w' => w'.cell? ⟨gb598, 0, none⟩ = some (.int .i64 t595) ∧ w'.cell? ⟨gb598, 1, none⟩ = some (.int .i64 t596) ∧ w'.cell? ⟨gb588, 0, none⟩ = some (.int .i64 a0_0) ∧ w'.cell? ⟨gb588, 1, none⟩ = some (.int .i64 a0_1) ∧ w'.cell? ⟨gb588, 2, none⟩ = some (.int .i64 a0_2) ∧ w'.cell? ⟨gb589, 0, none⟩ = some (.int .i64 a2_0) ∧ w'.cell? ⟨gb589, 1, none⟩ = some (.int .i64 a2_1)) (ds := []) #[false, false, false, false, false, false, false, false, false, false, false, false, false, false, false, false, false, false, false, false, false, false, false, false, false, false, false] (by kernel_rfl) rfl rfl cz (fun hH => ?_); refine with_tabW Lw_TargetCorrected.tab6 Lw_TargetCorrected.bits6 (fun HT_ HW_ => ?_)
          generalize w30.drew = w34 at BK588 BK589 BK594 BK598 HB hH ⊢
          refine pZ 0 (some 32) (bs 27 1) HT_ ?_
          refine pZ 1 (some 33) (bs 27 3) HT_ ?_
          refine pZ 2 (some 34) (bs 27 7) HT_ ?_
          refine pure_ (i := 3) (N := some 35) (v := undef) (a' := ?_) (bs 27 15) rfl rfl (any_of HT_.out (by kernel_rfl)) (fun _ _ _ h => h) (Or.inr ⟨by rfl, rfl⟩) ?_ ?_
          rotate_left
          · exact pz
          refine pure_ (i := 4) (N := some 36) (v := undef) (a' := ?_) (bs 27 31) rfl rfl (any_of HT_.out (by kernel_rfl)) (fun _ _ _ h => h) (Or.inr ⟨by rfl, rfl⟩) ?_ ?_
          rotate_left
          · exact pz
          refine pure_ (i := 5) (N := some 37) (v := undef) (a' := ?_) (bs 27 63) rfl rfl (any_of HT_.out (by kernel_rfl)) (fun _ _ _ h => h) (Or.inr ⟨by rfl, rfl⟩) ?_ ?_
          rotate_left
          · exact pz
          refine pure_ (i := 6) (N := some 38) (v := undef) (a' := ?_) (bs 27 127) rfl rfl (any_of HT_.out (by kernel_rfl)) (fun _ _ _ h => h) (Or.inr ⟨by rfl, rfl⟩) ?_ ?_
          rotate_left
          · exact pz
          refine pure_ (i := 7) (N := some 39) (v := undef) (a' := ?_) (bs 27 255) rfl rfl (any_of HT_.out (by kernel_rfl)) (fun _ _ _ h => h) (Or.inr ⟨by rfl, rfl⟩) ?_ ?_
          rotate_left
          · exact pz
          refine pure_ (i := 8) (N := some 40) (v := undef) (a' := ?_) (bs 27 511) rfl rfl (any_of HT_.out (by kernel_rfl)) (fun _ _ _ h => h) (Or.inr ⟨by rfl, rfl⟩) ?_ ?_
          rotate_left
          · exact pz
          refine pure_ (i := 9) (N := some 41) (v := undef) (a' := ?_) (bs 27 1023) rfl rfl (any_of HT_.out (by kernel_rfl)) (fun _ _ _ h => h) (Or.inr ⟨by rfl, rfl⟩) ?_ ?_
          rotate_left
          · exact pz
          refine pure_ (i := 10) (N := some 42) (v := undef) (a' := ?_) (bs 27 2047) rfl rfl (any_of HT_.out (by kernel_rfl)) (fun _ _ _ h => h) (Or.inr ⟨by rfl, rfl⟩) ?_ ?_
          rotate_left
          · exact pz
          refine pZ 11 (some 43) (bs 27 4095) HT_ ?_
          refine pZ 12 (some 44) (bs 27 8191) HT_ ?_
          refine pZ 13 (some 45) (bs 27 16383) HT_ ?_
          refine pZ 14 (some 46) (bs 27 32767) HT_ ?_
          refine pZ 15 (some 47) (bs 27 65535) HT_ ?_
          refine pZ 16 (some 48) (bs 27 131071) HT_ ?_
          refine pZ 17 (some 49) (bs 27 262143) HT_ ?_
          refine pZ 18 (some 50) (bs 27 524287) HT_ ?_
          refine takeZ 19 (some 51) (bs 27 1048575) (take_ofW HT_.out HW_.out (by kernel_rfl)) hH ?_
          refine takeZ 20 (some 52) (bs 27 2097151) (take_ofW HT_.out HW_.out (by kernel_rfl)) hH ?_
          refine takeZ 21 (some 53) (bs 27 4194303) (take_ofW HT_.out HW_.out (by kernel_rfl)) hH ?_
          refine oneZ 22 (some 54) (bs 27 8388607) (one_of HT_.out (by kernel_rfl)) fun K hK => ?_
          refine gz Try.func33 #[.agg #[.int .i64 a0_0, .int .i64 a0_1, .int .i64 a0_2], .agg #[.int .i64 a2_0, .int .i64 a2_1]] ?_
          with_reducible refine (Rf_Corrected.calls a0_0 a0_1 a0_2 a2_0 a2_1 t600 t601 _ A33.out).mono ?_
          rintro e w35 ⟨rfl, hb⟩
          refine ⟨_, rfl, ?_⟩
          replace BK588 := bb BK588 hb; replace BK589 := bb BK589 hb; replace BK594 := bb BK594 hb; replace BK598 := bb BK598 hb; replace HB := sb HB hb
          (try clear hb)
          refine hK.out _ _ cz (fun hH => ?_)
          clear hK K
          refine norm_ (a' := ?_) ?_ ?_
          rotate_left
          · show Act.put _ (some 54) _ = _
            exact pz
          refine pZ 23 (some 55) (bs 27 16777215) HT_ ?_
          refine pZ 24 (some 56) (bs 27 33554431) HT_ ?_
          refine pZ 25 (some 57) (bs 27 67108863) HT_ ?_
          refine pZ 26 (some 58) (bs 27 134217727) HT_ ?_
          refine done_ (done_of HT_.out (by kernel_rfl)) ?_
          try go_wp2
          go_meet
          case rel => exact ⟨_, ((!(t595 == t600) || (!(t596 == t601)))), (by first | rfl | (simp; done) | (simp [*]; done)), H', ⟨by first | omega | exact Nat.le_refl _⟩, ⟨bk BK588.out⟩, ⟨bk BK589.out⟩, ⟨bk BK594.out⟩, ⟨bk BK598.out⟩, ⟨bz⟩⟩
        · rw [if_neg c32] at H
          have c32b0 := beq_eq_false_iff_ne.mpr c32
          have c32b1 := bne_iff_ne.mpr c32
          exact absurd H (by simp)
      · rw [if_neg c31] at H
        have c31b0 := beq_eq_false_iff_ne.mpr c31
        have c31b1 := bne_iff_ne.mpr c31
        (first | rw [c31b0] | (simp only [i64_w, i32_w]; rw [c31b0]) | skip)
        by_cases c36 : t597 = t599
        · rw [if_pos c36] at H
          have c36b0 := beq_iff_eq.mpr c36
          have c36b1 := bne_eq_false_iff_eq.mpr c36
          clear c36
          by_cases c37 : (!(t595 == 0) || (!(t596 == 0))) = true
          · rw [if_pos c37] at H
            have c37b0 : (!(t595 == 0) || (!(t596 == 0))) = true := c37
            clear c37
            exact absurd H (by simp)
          · rw [if_neg c37] at H
            have c37b0 : (!(t595 == 0) || (!(t596 == 0))) = false := by simpa using c37
            clear c37
            have H' := m0 H
            clear H
            try go_wp2
            replace BK588 := bd BK588; replace BK589 := bd BK589; replace BK594 := bd BK594; replace BK598 := bd BK598; replace HB := sd HB
            refine start_ (n := 27) (S := fun w' => w'.cell? ⟨gb598, 0, none⟩ = some (.int .i64 t595) ∧ w'.cell? ⟨gb598, 1, none⟩ = some (.int .i64 t596)) (ds := []) #[false, false, false, false, false, false, false, false, false, false, false, false, false, false, false, false, false, false, false, false, false, false, false, false, false, false, false] (by kernel_rfl) rfl rfl cz (fun hH => ?_); refine with_tabW Lw_TargetCorrected.tab6 Lw_TargetCorrected.bits6 (fun HT_ HW_ => ?_)
            generalize w30.drew = w38 at BK588 BK589 BK594 BK598 HB hH ⊢
            refine pZ 0 (some 32) (bs 27 1) HT_ ?_
            refine pZ 1 (some 33) (bs 27 3) HT_ ?_
            refine pZ 2 (some 34) (bs 27 7) HT_ ?_
            refine pZ 3 (some 35) (bs 27 15) HT_ ?_
            refine pZ 4 (some 36) (bs 27 31) HT_ ?_
            refine pZ 5 (some 37) (bs 27 63) HT_ ?_
            refine pZ 6 (some 38) (bs 27 127) HT_ ?_
            refine pZ 8 (some 40) (bs 27 383) HT_ ?_
            refine takeZ 7 (some 39) (bs 27 511) (take_ofW HT_.out HW_.out (by kernel_rfl)) hH ?_
            refine pZ 9 (some 41) (bs 27 1023) HT_ ?_
            refine pZ 10 (some 42) (bs 27 2047) HT_ ?_
            refine pZ 11 (some 43) (bs 27 4095) HT_ ?_
            refine pZ 12 (some 44) (bs 27 8191) HT_ ?_
            refine pZ 13 (some 45) (bs 27 16383) HT_ ?_
            refine pZ 14 (some 46) (bs 27 32767) HT_ ?_
            refine pZ 15 (some 47) (bs 27 65535) HT_ ?_
            refine pure_ (i := 16) (N := some 48) (v := undef) (a' := ?_) (bs 27 131071) rfl rfl (any_of HT_.out (by kernel_rfl)) (fun _ _ _ h => h) (Or.inr ⟨by rfl, rfl⟩) ?_ ?_
            rotate_left
            · exact pz
            refine pure_ (i := 17) (N := some 49) (v := undef) (a' := ?_) (bs 27 262143) rfl rfl (any_of HT_.out (by kernel_rfl)) (fun _ _ _ h => h) (Or.inr ⟨by rfl, rfl⟩) ?_ ?_
            rotate_left
            · exact pz
            refine pure_ (i := 18) (N := some 50) (v := undef) (a' := ?_) (bs 27 524287) rfl rfl (any_of HT_.out (by kernel_rfl)) (fun _ _ _ h => h) (Or.inr ⟨by rfl, rfl⟩) ?_ ?_
            rotate_left
            · exact pz
            refine pure_ (i := 19) (N := some 51) (v := undef) (a' := ?_) (bs 27 1048575) rfl rfl (any_of HT_.out (by kernel_rfl)) (fun _ _ _ h => h) (Or.inr ⟨by rfl, rfl⟩) ?_ ?_
            rotate_left
            · exact pz
            refine pure_ (i := 20) (N := some 52) (v := undef) (a' := ?_) (bs 27 2097151) rfl rfl (any_of HT_.out (by kernel_rfl)) (fun _ _ _ h => h) (Or.inr ⟨by rfl, rfl⟩) ?_ ?_
            rotate_left
            · exact pz
            refine pure_ (i := 21) (N := some 53) (v := undef) (a' := ?_) (bs 27 4194303) rfl rfl (any_of HT_.out (by kernel_rfl)) (fun _ _ _ h => h) (Or.inr ⟨by rfl, rfl⟩) ?_ ?_
            rotate_left
            · exact pz
            refine pure_ (i := 22) (N := some 54) (v := undef) (a' := ?_) (bs 27 8388607) rfl rfl (any_of HT_.out (by kernel_rfl)) (fun _ _ _ h => h) (Or.inr ⟨by rfl, rfl⟩) ?_ ?_
            rotate_left
            · exact pz
            refine pure_ (i := 23) (N := some 55) (v := undef) (a' := ?_) (bs 27 16777215) rfl rfl (any_of HT_.out (by kernel_rfl)) (fun _ _ _ h => h) (Or.inr ⟨by rfl, rfl⟩) ?_ ?_
            rotate_left
            · exact pz
            refine pure_ (i := 24) (N := some 56) (v := undef) (a' := ?_) (bs 27 33554431) rfl rfl (any_of HT_.out (by kernel_rfl)) (fun _ _ _ h => h) (Or.inr ⟨by rfl, rfl⟩) ?_ ?_
            rotate_left
            · exact pz
            refine pZ 25 (some 57) (bs 27 67108863) HT_ ?_
            refine pZ 26 (some 58) (bs 27 134217727) HT_ ?_
            refine done_ (done_of HT_.out (by kernel_rfl)) ?_
            try go_wp2
            go_meet
            case rel => exact ⟨_, (false), (by first | rfl | (simp; done) | (simp [*]; done)), H', ⟨by first | omega | exact Nat.le_refl _⟩, ⟨bk BK588.out⟩, ⟨bk BK589.out⟩, ⟨bk BK594.out⟩, ⟨bk BK598.out⟩, ⟨bz⟩⟩
        · rw [if_neg c36] at H
          have c36b0 := beq_eq_false_iff_ne.mpr c36
          have c36b1 := bne_iff_ne.mpr c36
          exact absurd H (by simp)
    case rest =>
      clear HC9
      try clear hcz14_0
      try clear hcz14_1
      try clear hcz14_2
      try clear hcz19_0
      try clear hcz19_1
      try clear hcz20_0
      try clear hcz20_1
      try clear hcz20_2
      try clear hcz21_0
      try clear hcz21_1
      try clear hcz27_0
      try clear hcz27_1
      try clear hcz28_0
      try clear hcz28_1
      try clear hcz28_2
      try clear hcz29_0
      try clear hcz29_1
      try clear hfz14_0
      try clear hfz14_1
      try clear hfz14_2
      try clear hfz19_0
      try clear hfz19_1
      try clear hfz20_0
      try clear hfz20_1
      try clear hfz20_2
      try clear hfz21_0
      try clear hfz21_1
      try clear hfz27_0
      try clear hfz27_1
      try clear hfz28_0
      try clear hfz28_1
      try clear hfz28_2
      try clear hfz29_0
      try clear hfz29_1
      obtain ⟨kq, x58_8, rfl, HA, HJ8, BK588, BK589, BK594, BK598, HB⟩ := hcut
      cases kq with
      | zero => exact absurd HA.out (by simp [Lw_TargetCorrected.j0])
      | succ kj8 =>
        have H := HA.out
        clear HA
        simp only [Lw_TargetCorrected.j0] at H
        by_cases c39 : x58_8 = true
        · subst c39
          rw [if_pos rfl] at H
          exact absurd H (by simp)
        · replace c39 := Bool.eq_false_iff.mpr c39
          subst c39
          rw [if_neg (show ¬ (false = true) by decide)] at H
          replace H := ob H
          obtain ⟨t602, A40, H⟩ := H
          (try dsimp only at H)
          replace A40 := m0 A40
          have HC41 := m0 H
          clear H
          have hnb42 := NB588_589.out
          have hnc42 := NB589_588.out
          have hnb43 := NB588_594.out
          have hnc43 := NB594_588.out
          have hnb44 := NB588_598.out
          have hnc44 := NB598_588.out
          obtain ⟨hcz45_0, hcz45_1, hcz45_2, hfz45_0, hfz45_1, hfz45_2⟩ := b3 BK588
          go_upto_region 9 with (first | ((with_reducible refine gate_callee (f := 34) rfl ?_); refine gl (some 60) Try.func34 #[.agg #[.int .i64 a0_0, .int .i64 a0_1, .int .i64 a0_2]] ?_; (with_reducible refine (Rf_LineErr.calls kj8 a0_0 a0_1 a0_2 t602 _ A40.out).mono ?_); rintro e w46 ⟨rfl, hb⟩; refine ⟨_, rfl, ?_⟩; replace BK588 := bb BK588 hb; replace BK589 := bb BK589 hb; replace BK594 := bb BK594 hb; replace BK598 := bb BK598 hb; replace HB := sb HB hb; (try clear hb)))
          (try simp only [Act.put, List.setIfInBounds_toArray, List.set_cons_zero, List.set_cons_succ])
          go_cut [67] (fun v67 wc => ∃ (kq : Nat) (x67_40 : Bool), v67 = .bool x67_40 ∧ Aside0 (Lw_TargetCorrected.j1 kq a1 t593 t602 x67_40 a0_0 a0_1 a0_2 t591 t592 = some r) ∧ Aside0 (kq ≤ kj8) ∧ Aside0 (wc.heap[gb588]? = some (.cells #[.int .i64 a0_0, .int .i64 a0_1, .int .i64 a0_2] 56 (0, 0))) ∧ Aside0 (wc.heap[gb589]? = some (.cells #[.int .i64 a2_0, .int .i64 a2_1] 58 (0, 0))) ∧ Aside0 (wc.heap[gb594]? = some (.cells #[.int .i64 t591, .int .i64 t592] 58 (0, 0))) ∧ Aside0 (wc.heap[gb598]? = some (.cells #[.int .i64 t595, .int .i64 t596] 58 (0, 0))) ∧ Aside0 (Below w.heap.size w wc))
          case first =>
            have H := HC41.out
            clear HC41
            by_cases c47 : t602 = 0
            · rw [if_pos c47] at H
              have c47b0 := beq_iff_eq.mpr c47
              have c47b1 := bne_eq_false_iff_eq.mpr c47
              clear c47
              (first | rw [c47b0] | (simp only [i64_w, i32_w]; rw [c47b0]) | skip)
              replace H := ob H
              obtain ⟨t603, A48, H⟩ := H
              (try dsimp only at H)
              replace A48 := m0 A48
              have H' := m0 H
              clear H
              go_wp2_with (first | (go_at_call 24; (with_reducible refine (Bs_Within.calls a1 0 2000 t603 _ A48.out).mono ?_); rintro e w' ⟨rfl, ⟨nd, rfl⟩⟩))
              go_meet
              case rel => exact ⟨_, (!t603), (by first | rfl | (simp; done) | (simp [*]; done)), H', ⟨by have := HJ8.out; first | omega | exact Nat.le_refl _⟩, ⟨bk BK588.out⟩, ⟨bk BK589.out⟩, ⟨bk BK594.out⟩, ⟨bk BK598.out⟩, ⟨bz⟩⟩
            · rw [if_neg c47] at H
              have c47b0 := beq_eq_false_iff_ne.mpr c47
              have c47b1 := bne_iff_ne.mpr c47
              (first | rw [c47b0] | (simp only [i64_w, i32_w]; rw [c47b0]) | skip)
              have H' := m0 H
              clear H
              go_wp2
              go_meet
              case rel => exact ⟨_, (false), (by first | rfl | (simp; done) | (simp [*]; done)), H', ⟨by have := HJ8.out; first | omega | exact Nat.le_refl _⟩, ⟨bk BK588.out⟩, ⟨bk BK589.out⟩, ⟨bk BK594.out⟩, ⟨bk BK598.out⟩, ⟨bz⟩⟩
          case rest =>
            clear HC41
            try clear hcz14_0
            try clear hcz14_1
            try clear hcz14_2
            try clear hcz19_0
            try clear hcz19_1
            try clear hcz20_0
            try clear hcz20_1
            try clear hcz20_2
            try clear hcz21_0
            try clear hcz21_1
            try clear hcz27_0
            try clear hcz27_1
            try clear hcz28_0
            try clear hcz28_1
            try clear hcz28_2
            try clear hcz29_0
            try clear hcz29_1
            try clear hcz45_0
            try clear hcz45_1
            try clear hcz45_2
            try clear hfz14_0
            try clear hfz14_1
            try clear hfz14_2
            try clear hfz19_0
            try clear hfz19_1
            try clear hfz20_0
            try clear hfz20_1
            try clear hfz20_2
            try clear hfz21_0
            try clear hfz21_1
            try clear hfz27_0
            try clear hfz27_1
            try clear hfz28_0
            try clear hfz28_1
            try clear hfz28_2
            try clear hfz29_0
            try clear hfz29_1
            try clear hfz45_0
            try clear hfz45_1
            try clear hfz45_2
            obtain ⟨kq, x67_40, rfl, HA, HJ40, BK588, BK589, BK594, BK598, HB⟩ := hcut
            cases kq with
            | zero => exact absurd HA.out (by simp [Lw_TargetCorrected.j1])
            | succ kj40 =>
              have H := HA.out
              clear HA
              simp only [Lw_TargetCorrected.j1] at H
              have HC49 := m0 H
              clear H
              go_upto_if 67 with (fail)
              go_cut [12] (fun v12 wc => ∃ (kq : Nat) (x12_48 : Int), v12 = .int .i64 x12_48 ∧ Aside0 (Lw_TargetCorrected.j2 kq a1 t593 x12_48 a0_0 a0_1 a0_2 t591 t592 = some r) ∧ Aside0 (kq ≤ kj40) ∧ Aside0 (wc.heap[gb588]? = some (.cells #[.int .i64 a0_0, .int .i64 a0_1, .int .i64 a0_2] 56 (0, 0))) ∧ Aside0 (wc.heap[gb589]? = some (.cells #[.int .i64 a2_0, .int .i64 a2_1] 58 (0, 0))) ∧ Aside0 (wc.heap[gb594]? = some (.cells #[.int .i64 t591, .int .i64 t592] 58 (0, 0))) ∧ Aside0 (wc.heap[gb598]? = some (.cells #[.int .i64 t595, .int .i64 t596] 58 (0, 0))) ∧ Aside0 (Below w.heap.size w wc))
              case first =>
                have H := HC49.out
                clear HC49
                by_cases c50 : x67_40 = true
                · subst c50
                  rw [if_pos rfl] at H
                  have H' := m0 H
                  clear H
                  go_wp2
                  go_meet
                  case rel => exact ⟨_, (2), (by first | rfl | (simp; done) | (simp [*]; done)), H', ⟨by have := HJ8.out; have := HJ40.out; first | omega | exact Nat.le_refl _⟩, ⟨bk BK588.out⟩, ⟨bk BK589.out⟩, ⟨bk BK594.out⟩, ⟨bk BK598.out⟩, ⟨bz⟩⟩
                · replace c50 := Bool.eq_false_iff.mpr c50
                  subst c50
                  rw [if_neg (show ¬ (false = true) by decide)] at H
                  have H' := m0 H
                  clear H
                  go_wp2
                  go_meet
                  case rel => exact ⟨_, (t602), (by first | rfl | (simp; done) | (simp [*]; done)), H', ⟨by have := HJ8.out; have := HJ40.out; first | omega | exact Nat.le_refl _⟩, ⟨bk BK588.out⟩, ⟨bk BK589.out⟩, ⟨bk BK594.out⟩, ⟨bk BK598.out⟩, ⟨bz⟩⟩
              case rest =>
                clear HC49
                try clear hcz14_0
                try clear hcz14_1
                try clear hcz14_2
                try clear hcz19_0
                try clear hcz19_1
                try clear hcz20_0
                try clear hcz20_1
                try clear hcz20_2
                try clear hcz21_0
                try clear hcz21_1
                try clear hcz27_0
                try clear hcz27_1
                try clear hcz28_0
                try clear hcz28_1
                try clear hcz28_2
                try clear hcz29_0
                try clear hcz29_1
                try clear hcz45_0
                try clear hcz45_1
                try clear hcz45_2
                try clear hfz14_0
                try clear hfz14_1
                try clear hfz14_2
                try clear hfz19_0
                try clear hfz19_1
                try clear hfz20_0
                try clear hfz20_1
                try clear hfz20_2
                try clear hfz21_0
                try clear hfz21_1
                try clear hfz27_0
                try clear hfz27_1
                try clear hfz28_0
                try clear hfz28_1
                try clear hfz28_2
                try clear hfz29_0
                try clear hfz29_1
                try clear hfz45_0
                try clear hfz45_1
                try clear hfz45_2
                obtain ⟨kq, x12_48, rfl, HA, HJ48, BK588, BK589, BK594, BK598, HB⟩ := hcut
                cases kq with
                | zero => exact absurd HA.out (by simp [Lw_TargetCorrected.j2])
                | succ kj48 =>
                  have H := HA.out
                  clear HA
                  simp only [Lw_TargetCorrected.j2] at H
                  by_cases c51 : x12_48 = 0
                  · rw [if_pos c51] at H
                    have c51b0 := beq_iff_eq.mpr c51
                    have c51b1 := bne_eq_false_iff_eq.mpr c51
                    clear c51
                    have HC52 := m0 H
                    clear H
                    go_upto_region 13 with (fail)
                    go_cut [86] (fun v86 wc => ∃ (kq : Nat) (x86_51 : Bool), v86 = .bool x86_51 ∧ Aside0 (Lw_TargetCorrected.j3 kq a1 x86_51 a0_0 a0_1 a0_2 t591 t592 = some r) ∧ Aside0 (kq ≤ kj48) ∧ Aside0 (wc.heap[gb588]? = some (.cells #[.int .i64 a0_0, .int .i64 a0_1, .int .i64 a0_2] 56 (0, 0))) ∧ Aside0 (wc.heap[gb589]? = some (.cells #[.int .i64 a2_0, .int .i64 a2_1] 58 (0, 0))) ∧ Aside0 (wc.heap[gb594]? = some (.cells #[.int .i64 t591, .int .i64 t592] 58 (0, 0))) ∧ Aside0 (wc.heap[gb598]? = some (.cells #[.int .i64 t595, .int .i64 t596] 58 (0, 0))) ∧ Aside0 (Below w.heap.size w wc))
                    case first =>
                      have H := HC52.out
                      clear HC52
                      by_cases c53 : t593 = 0
                      · rw [if_pos c53] at H
                        have c53b0 := beq_iff_eq.mpr c53
                        have c53b1 := bne_eq_false_iff_eq.mpr c53
                        clear c53
                        (first | rw [c53b0] | (simp only [i64_w, i32_w]; rw [c53b0]) | skip)
                        replace H := ob H
                        obtain ⟨⟨t604, t605⟩, A54, H⟩ := H
                        (try dsimp only at H)
                        replace A54 := m0 A54
                        have H' := m0 H
                        clear H
                        try go_wp2
                        replace BK588 := bd BK588; replace BK589 := bd BK589; replace BK594 := bd BK594; replace BK598 := bd BK598; replace HB := sd HB
                        refine start_ (n := 9) (S := fun w' => w'.cell? ⟨gb594, 0, none⟩ = some (.int .i64 t591) ∧ w'.cell? ⟨gb594, 1, none⟩ = some (.int .i64 t592) ∧ w'.cell? ⟨gb588, 0, none⟩ = some (.int .i64 a0_0) ∧ w'.cell? ⟨gb588, 1, none⟩ = some (.int .i64 a0_1) ∧ w'.cell? ⟨gb588, 2, none⟩ = some (.int .i64 a0_2)) (ds := []) #[false, false, false, false, false, false, false, false, false] (by kernel_rfl) rfl rfl cz (fun hH => ?_); refine with_tabW Lw_TargetCorrected.tab13 Lw_TargetCorrected.bits13 (fun HT_ HW_ => ?_)
                        generalize wc.drew = w55 at BK588 BK589 BK594 BK598 HB hH ⊢
                        refine pZ 0 (some 78) #[true, false, false, false, false, false, false, false, false] HT_ ?_
                        refine pZ 1 (some 79) #[true, true, false, false, false, false, false, false, false] HT_ ?_
                        refine pZ 2 (some 80) #[true, true, true, false, false, false, false, false, false] HT_ ?_
                        refine pZ 5 (some 83) #[true, true, true, false, false, true, false, false, false] HT_ ?_
                        refine takeZ 3 (some 81) #[true, true, true, true, false, true, false, false, false] (take_ofW HT_.out HW_.out (by kernel_rfl)) hH ?_
                        refine takeZ 4 (some 82) #[true, true, true, true, true, true, false, false, false] (take_ofW HT_.out HW_.out (by kernel_rfl)) hH ?_
                        refine oneZ 6 (some 84) #[true, true, true, true, true, true, true, false, false] (one_of HT_.out (by kernel_rfl)) fun K hK => ?_
                        refine gz Try.func35 #[.agg #[.int .i64 a0_0, .int .i64 a0_1, .int .i64 a0_2], .int .i64 a1] ?_
                        with_reducible refine (Rf_At.calls a0_0 a0_1 a0_2 a1 t604 t605 _ A54.out).mono ?_
                        rintro e w56 ⟨rfl, hb⟩
                        refine ⟨_, rfl, ?_⟩
                        replace BK588 := bb BK588 hb; replace BK589 := bb BK589 hb; replace BK594 := bb BK594 hb; replace BK598 := bb BK598 hb; replace HB := sb HB hb
                        (try clear hb)
                        refine hK.out _ _ cz (fun hH => ?_)
                        clear hK K
                        refine norm_ (a' := ?_) ?_ ?_
                        rotate_left
                        · show Act.put _ (some 84) _ = _
                          exact pz
                        refine pZ 7 (some 85) #[true, true, true, true, true, true, true, true, false] HT_ ?_
                        refine pZ 8 (some 86) #[true, true, true, true, true, true, true, true, true] HT_ ?_
                        refine done_ (done_of HT_.out (by kernel_rfl)) ?_
                        try go_wp2
                        go_meet
                        case rel => exact ⟨_, ((!(t591 == t604) || (!(t592 == t605)))), (by first | rfl | (simp; done) | (simp [*]; done)), H', ⟨by have := HJ8.out; have := HJ40.out; have := HJ48.out; first | omega | exact Nat.le_refl _⟩, ⟨bk BK588.out⟩, ⟨bk BK589.out⟩, ⟨bk BK594.out⟩, ⟨bk BK598.out⟩, ⟨bz⟩⟩
                      · rw [if_neg c53] at H
                        have c53b0 := beq_eq_false_iff_ne.mpr c53
                        have c53b1 := bne_iff_ne.mpr c53
                        (first | rw [c53b0] | (simp only [i64_w, i32_w]; rw [c53b0]) | skip)
                        exact absurd H (by simp)
                    case rest =>
                      clear HC52
                      try clear hcz14_0
                      try clear hcz14_1
                      try clear hcz14_2
                      try clear hcz19_0
                      try clear hcz19_1
                      try clear hcz20_0
                      try clear hcz20_1
                      try clear hcz20_2
                      try clear hcz21_0
                      try clear hcz21_1
                      try clear hcz27_0
                      try clear hcz27_1
                      try clear hcz28_0
                      try clear hcz28_1
                      try clear hcz28_2
                      try clear hcz29_0
                      try clear hcz29_1
                      try clear hcz45_0
                      try clear hcz45_1
                      try clear hcz45_2
                      try clear hfz14_0
                      try clear hfz14_1
                      try clear hfz14_2
                      try clear hfz19_0
                      try clear hfz19_1
                      try clear hfz20_0
                      try clear hfz20_1
                      try clear hfz20_2
                      try clear hfz21_0
                      try clear hfz21_1
                      try clear hfz27_0
                      try clear hfz27_1
                      try clear hfz28_0
                      try clear hfz28_1
                      try clear hfz28_2
                      try clear hfz29_0
                      try clear hfz29_1
                      try clear hfz45_0
                      try clear hfz45_1
                      try clear hfz45_2
                      obtain ⟨kq, x86_51, rfl, HA, HJ51, BK588, BK589, BK594, BK598, HB⟩ := hcut
                      cases kq with
                      | zero => exact absurd HA.out (by simp [Lw_TargetCorrected.j3])
                      | succ kj51 =>
                        have H := HA.out
                        clear HA
                        simp only [Lw_TargetCorrected.j3] at H
                        by_cases c57 : x86_51 = true
                        · subst c57
                          rw [if_pos rfl] at H
                          exact absurd H (by simp)
                        · replace c57 := Bool.eq_false_iff.mpr c57
                          subst c57
                          rw [if_neg (show ¬ (false = true) by decide)] at H
                          replace H := ob H
                          obtain ⟨t606, A58, H⟩ := H
                          (try dsimp only at H)
                          replace A58 := m0 A58
                          by_cases c59 : t606 = 0
                          · rw [if_pos c59] at H
                            have c59b0 := beq_iff_eq.mpr c59
                            have c59b1 := bne_eq_false_iff_eq.mpr c59
                            clear c59
                            replace H := ob H
                            obtain ⟨⟨t607, t608, t609⟩, A60, H⟩ := H
                            (try dsimp only at H)
                            replace A60 := m0 A60
                            by_cases c61 : t609 = 0
                            · rw [if_pos c61] at H
                              have c61b0 := beq_iff_eq.mpr c61
                              have c61b1 := bne_eq_false_iff_eq.mpr c61
                              clear c61
                              by_cases c62 : t607 ≤ a1
                              · rw [if_pos c62] at H
                                have c62b0 := decide_eq_true c62
                                clear c62
                                obtain rfl := Option.some.inj H
                                have hnb63 := NB588_589.out
                                have hnc63 := NB589_588.out
                                have hnb64 := NB588_594.out
                                have hnc64 := NB594_588.out
                                have hnb65 := NB588_598.out
                                have hnc65 := NB598_588.out
                                obtain ⟨_, _, _, _, _, _⟩ := b3 BK588
                                have hnb67 := NB594_589.out
                                have hnc67 := NB589_594.out
                                have hnb68 := NB594_598.out
                                have hnc68 := NB598_594.out
                                obtain ⟨_, _, _, _⟩ := b2 BK594
                                go_wp2_with (first | ((with_reducible refine gate_callee (f := 32) rfl ?_); refine gl (some 89) Try.func32 #[.agg #[.int .i64 a0_0, .int .i64 a0_1, .int .i64 a0_2], .agg #[.int .i64 t591, .int .i64 t592]] ?_; (with_reducible refine (Rf_CorrectedErr.calls kj51 a0_0 a0_1 a0_2 t591 t592 t606 _ A58.out).mono ?_); rintro e w70 ⟨rfl, hb⟩; refine ⟨_, rfl, ?_⟩; replace BK588 := bb BK588 hb; replace BK589 := bb BK589 hb; replace BK594 := bb BK594 hb; replace BK598 := bb BK598 hb; replace HB := sb HB hb; (try clear hb); obtain ⟨_, _, _, _, _, _⟩ := b3 BK588; obtain ⟨_, _, _, _⟩ := b2 BK594) | ((with_reducible refine gate_callee (f := 31) rfl ?_); refine gl (some 94) Try.func31 #[.agg #[.int .i64 a0_0, .int .i64 a0_1, .int .i64 a0_2], .agg #[.int .i64 t591, .int .i64 t592]] ?_; (with_reducible refine (L_CorrectedIn.calls kj51 a0_0 a0_1 a0_2 t591 t592 t607 t608 t609 _ A60.out).mono ?_); rintro e w73 ⟨rfl, hb⟩; refine ⟨_, rfl, ?_⟩; replace BK588 := bb BK588 hb; replace BK589 := bb BK589 hb; replace BK594 := bb BK594 hb; replace BK598 := bb BK598 hb; replace HB := sb HB hb; (try clear hb)) | ((with_reducible refine gate_dst (N := 13) rfl ?_); refine be 13 58 #[.int .i64 0, .int .i64 0] ?_; intro gb610 hg w74 hbox hb; have BK610 := m0 hbox; have GE610 := gw w hg; replace HB := sb HB hb; have NB588_610 := nl BK588 hg; have NB610_588 := ng (nl BK588 hg); replace BK588 := bb BK588 hb; have NB589_610 := nl BK589 hg; have NB610_589 := ng (nl BK589 hg); replace BK589 := bb BK589 hb; have NB594_610 := nl BK594 hg; have NB610_594 := ng (nl BK594 hg); replace BK594 := bb BK594 hb; have NB598_610 := nl BK598 hg; have NB610_598 := ng (nl BK598 hg); replace BK598 := bb BK598 hb; clear hb hbox hg; have hnb75 := NB610_588.out; have hnc75 := NB588_610.out; have hnb76 := NB610_589.out; have hnc76 := NB589_610.out; have hnb77 := NB610_594.out; have hnc77 := NB594_610.out; have hnb78 := NB610_598.out; have hnc78 := NB598_610.out; obtain ⟨_, _, _, _⟩ := b2 BK610))
                                go_ret
                                exact ez
                              · rw [if_neg c62] at H
                                exact absurd H (by simp)
                            · rw [if_neg c61] at H
                              exact absurd H (by simp)
                          · rw [if_neg c59] at H
                            have c59b0 := beq_eq_false_iff_ne.mpr c59
                            have c59b1 := bne_iff_ne.mpr c59
                            obtain rfl := Option.some.inj H
                            have hnb80 := NB588_589.out
                            have hnc80 := NB589_588.out
                            have hnb81 := NB588_594.out
                            have hnc81 := NB594_588.out
                            have hnb82 := NB588_598.out
                            have hnc82 := NB598_588.out
                            obtain ⟨_, _, _, _, _, _⟩ := b3 BK588
                            have hnb84 := NB594_589.out
                            have hnc84 := NB589_594.out
                            have hnb85 := NB594_598.out
                            have hnc85 := NB598_594.out
                            obtain ⟨_, _, _, _⟩ := b2 BK594
                            go_wp2_with (first | ((with_reducible refine gate_callee (f := 32) rfl ?_); refine gl (some 89) Try.func32 #[.agg #[.int .i64 a0_0, .int .i64 a0_1, .int .i64 a0_2], .agg #[.int .i64 t591, .int .i64 t592]] ?_; (with_reducible refine (Rf_CorrectedErr.calls kj51 a0_0 a0_1 a0_2 t591 t592 t606 _ A58.out).mono ?_); rintro e w87 ⟨rfl, hb⟩; refine ⟨_, rfl, ?_⟩; replace BK588 := bb BK588 hb; replace BK589 := bb BK589 hb; replace BK594 := bb BK594 hb; replace BK598 := bb BK598 hb; replace HB := sb HB hb; (try clear hb)))
                            go_ret
                            exact ez
                  · rw [if_neg c51] at H
                    have c51b0 := beq_eq_false_iff_ne.mpr c51
                    have c51b1 := bne_iff_ne.mpr c51
                    by_cases c88 : t593 = x12_48
                    · rw [if_pos c88] at H
                      have c88b0 := beq_iff_eq.mpr c88
                      have c88b1 := bne_eq_false_iff_eq.mpr c88
                      clear c88
                      obtain rfl := Option.some.inj H
                      have hnb89 := NB594_588.out
                      have hnc89 := NB588_594.out
                      have hnb90 := NB594_589.out
                      have hnc90 := NB589_594.out
                      have hnb91 := NB594_598.out
                      have hnc91 := NB598_594.out
                      obtain ⟨_, _, _, _⟩ := b2 BK594
                      go_wp2
                      go_ret
                      exact ez
                    · rw [if_neg c88] at H
                      exact absurd H (by simp)
  · replace c5 := Bool.eq_false_iff.mpr c5
    subst c5
    rw [if_neg (show ¬ (false = true) by decide)] at H
    exact absurd H (by simp)
end
end Go.Proofs.Ytibhfahbabgbaaa.A
