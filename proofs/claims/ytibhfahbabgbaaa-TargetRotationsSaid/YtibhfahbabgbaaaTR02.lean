/- Walks of the program's functions (printed, made shorter), each with what it computes. -/
import Derived.Test.YtibhfahbabgbaaaB05
import Derived.Test.YtibhfahbabgbaaaTR01
import Derived.Test.YtibhfahbabgbaaaB04
namespace Go.Proofs.Ytibhfahbabgbaaa.A
set_option maxHeartbeats 8000000
set_option maxRecDepth 100000
open Go.RowKit Go.Proofs.YtibhfahbabgbaaaW.PrintWords Go.Proofs.YtibhfahbabgbaaaW.PrintLast Go.Proofs.YtibhfahbabgbaaaW.PrintMore
attribute [local go_sem] max2_int min2_int max_two min_two max_three min_three max_four min_four
set_option linter.unusedVariables false
set_option linter.unusedSimpArgs false
def Rf_Turned.f (a0_0 : Int) (a0_1 : Int) (a0_2 : Int) (a0_3 : Int) (a0_4 : Int) (a0_5 : Int) (a0_6 : Int) (a0_7 : Int) (a0_8 : Int) (a1_0 : Int) (a1_1 : Int) (a1_2 : Int) : Option (Int × Int × Int) := (Rf_dot.f a0_0 a0_1 a0_2 a1_0 a1_1 a1_2).bind fun t480 => ((Rf_dot.f a0_3 a0_4 a0_5 a1_0 a1_1 a1_2).bind fun t481 => ((Rf_dot.f a0_6 a0_7 a0_8 a1_0 a1_1 a1_2).bind fun t482 => (some (t480, t481, t482))))
def Rf_Turned.T1 : Bool × List (List Nat × List Nat) := (true, [([], []), ([0], [0]), ([], []), ([1, 2], [1, 2]), ([], []), ([4], [4]), ([], []), ([5, 6, 3], [5, 6]), ([], []), ([8], [8]), ([], []), ([9, 10, 7], [9, 10]), ([3, 7, 11], [3, 7, 11]), ([12, 11, 0, 1, 2, 3, 4, 5, 6, 7, 8, 9, 10, 11, 12], [12])])
def Rf_Turned.B1 : List Nat := [0, 1, 0, 7, 0, 16, 0, 127, 0, 256, 0, 2047, 4095, 8191]
theorem Rf_Turned.tab1 : rtab .any (opsOf Try.f29 1) = Rf_Turned.T1 := by kernel_rfl
theorem Rf_Turned.bits1 : waitsOk Rf_Turned.T1.2 Rf_Turned.B1 = true := by kernel_rfl
theorem Rf_Turned.calls (a0_0 : Int) (a0_1 : Int) (a0_2 : Int) (a0_3 : Int) (a0_4 : Int) (a0_5 : Int) (a0_6 : Int) (a0_7 : Int) (a0_8 : Int) (a1_0 : Int) (a1_1 : Int) (a1_2 : Int) (r1 : Int) (r2 : Int) (r3 : Int) (w : World) (h : Rf_Turned.f a0_0 a0_1 a0_2 a0_3 a0_4 a0_5 a0_6 a0_7 a0_8 a1_0 a1_1 a1_2 = some (r1, r2, r3)) :
  Calls Try.prog 29 #[.agg #[.int .i64 a0_0, .int .i64 a0_1, .int .i64 a0_2, .int .i64 a0_3, .int .i64 a0_4, .int .i64 a0_5, .int .i64 a0_6, .int .i64 a0_7, .int .i64 a0_8], .agg #[.int .i64 a1_0, .int .i64 a1_1, .int .i64 a1_2]] w fun e w' => e = .returned (.agg #[.int .i64 r1, .int .i64 r2, .int .i64 r3]) ∧ Below w.heap.size w w' := by
 have hu45 := Try.underlying45
 have hu44 := Try.underlying44
 have hix45_0 : ∀ (g_ : Nat) (W_ : World), (Instr.indexAt 45 (.pointer (some ⟨g_, 0, none⟩)) (.int .i64 0)).run Try.prog W_ = .ok (.pointer (some ⟨g_, 0, none⟩)) W_ := fun _ _ => by kernel_rfl
 have hix45_1 : ∀ (g_ : Nat) (W_ : World), (Instr.indexAt 45 (.pointer (some ⟨g_, 0, none⟩)) (.int .i64 1)).run Try.prog W_ = .ok (.pointer (some ⟨g_, 3, none⟩)) W_ := fun _ _ => by kernel_rfl
 have hix45_2 : ∀ (g_ : Nat) (W_ : World), (Instr.indexAt 45 (.pointer (some ⟨g_, 0, none⟩)) (.int .i64 2)).run Try.prog W_ = .ok (.pointer (some ⟨g_, 6, none⟩)) W_ := fun _ _ => by kernel_rfl
 have HB := m0 (Below.refl w.heap.size w)
 have H : ((Rf_dot.f a0_0 a0_1 a0_2 a1_0 a1_1 a1_2).bind fun t480 => ((Rf_dot.f a0_3 a0_4 a0_5 a1_0 a1_1 a1_2).bind fun t481 => ((Rf_dot.f a0_6 a0_7 a0_8 a1_0 a1_1 a1_2).bind fun t482 => (some (t480, t481, t482))))) = some (r1, r2, r3) := h
 clear h
 replace H := ob H
 obtain ⟨t480, A3, H⟩ := H
 (try dsimp only at H)
 replace A3 := m0 A3
 replace H := ob H
 obtain ⟨t481, A4, H⟩ := H
 (try dsimp only at H)
 replace A4 := m0 A4
 replace H := ob H
 obtain ⟨t482, A5, H⟩ := H
 (try dsimp only at H)
 replace A5 := m0 A5
 simp only [Option.some.injEq, Prod.mk.injEq] at H
 obtain ⟨rfl, rfl, rfl⟩ := H
 go_enter Try.func29, Try.ntmps29
 try go_wp2_with (first | ((with_reducible refine gate_dst (N := 2) rfl ?_); refine be 2 45 #[.int .i64 a0_0, .int .i64 a0_1, .int .i64 a0_2, .int .i64 a0_3, .int .i64 a0_4, .int .i64 a0_5, .int .i64 a0_6, .int .i64 a0_7, .int .i64 a0_8] ?_; intro gb477 hg w6 hbox hb; have BK477 := m0 hbox; have GE477 := gw w hg; replace HB := sb HB hb; clear hb hbox hg) | ((with_reducible refine gate_dst (N := 3) rfl ?_); refine be 3 44 #[.int .i64 a1_0, .int .i64 a1_1, .int .i64 a1_2] ?_; intro gb478 hg w7 hbox hb; have BK478 := m0 hbox; have GE478 := gw w hg; replace HB := sb HB hb; have NB477_478 := nl BK477 hg; have NB478_477 := ng (nl BK477 hg); replace BK477 := bb BK477 hb; clear hb hbox hg) | ((with_reducible refine gate_dst (N := 4) rfl ?_); refine be 4 44 #[.int .i64 0, .int .i64 0, .int .i64 0] ?_; intro gb479 hg w8 hbox hb; have BK479 := m0 hbox; have GE479 := gw w hg; replace HB := sb HB hb; have NB477_479 := nl BK477 hg; have NB479_477 := ng (nl BK477 hg); replace BK477 := bb BK477 hb; have NB478_479 := nl BK478 hg; have NB479_478 := ng (nl BK478 hg); replace BK478 := bb BK478 hb; clear hb hbox hg))
 replace BK477 := bd BK477; replace BK478 := bd BK478; replace BK479 := bd BK479; replace HB := sd HB
 refine start_ (n := 14) (S := fun w' => w'.cell? ⟨gb477, 0, none⟩ = some (.int .i64 a0_0) ∧ w'.cell? ⟨gb477, 1, none⟩ = some (.int .i64 a0_1) ∧ w'.cell? ⟨gb477, 2, none⟩ = some (.int .i64 a0_2) ∧ w'.cell? ⟨gb477, 3, none⟩ = some (.int .i64 a0_3) ∧ w'.cell? ⟨gb477, 4, none⟩ = some (.int .i64 a0_4) ∧ w'.cell? ⟨gb477, 5, none⟩ = some (.int .i64 a0_5) ∧ w'.cell? ⟨gb477, 6, none⟩ = some (.int .i64 a0_6) ∧ w'.cell? ⟨gb477, 7, none⟩ = some (.int .i64 a0_7) ∧ w'.cell? ⟨gb477, 8, none⟩ = some (.int .i64 a0_8) ∧ w'.cell? ⟨gb478, 0, none⟩ = some (.int .i64 a1_0) ∧ w'.cell? ⟨gb478, 1, none⟩ = some (.int .i64 a1_1) ∧ w'.cell? ⟨gb478, 2, none⟩ = some (.int .i64 a1_2)) (ds := []) #[false, false, false, false, false, false, false, false, false, false, false, false, false, false] (by kernel_rfl) rfl rfl cz (fun hH => ?_); refine with_tabW Rf_Turned.tab1 Rf_Turned.bits1 (fun HT_ HW_ => ?_)
 generalize w8.drew = w9 at BK477 BK478 BK479 HB hH ⊢
 refine pZ 0 (some 5) (bs 14 1) HT_ ?_
 refine pZ 4 (some 9) (bs 14 17) HT_ ?_
 refine pZ 8 (some 13) (bs 14 273) HT_ ?_
 refine takeZ 1 (some 6) (bs 14 275) (take_ofW HT_.out HW_.out (by kernel_rfl)) hH ?_
 refine takeZ 2 (some 7) (bs 14 279) (take_ofW HT_.out HW_.out (by kernel_rfl)) hH ?_
 refine takeZ 5 (some 10) (bs 14 311) (take_ofW HT_.out HW_.out (by kernel_rfl)) hH ?_
 refine takeZ 6 (some 11) (bs 14 375) (take_ofW HT_.out HW_.out (by kernel_rfl)) hH ?_
 refine takeZ 9 (some 14) (bs 14 887) (take_ofW HT_.out HW_.out (by kernel_rfl)) hH ?_
 refine takeZ 10 (some 15) (bs 14 1911) (take_ofW HT_.out HW_.out (by kernel_rfl)) hH ?_
 refine oneZ 3 (some 8) (bs 14 1919) (one_of HT_.out (by kernel_rfl)) fun K hK => ?_
 refine gz Try.func87 #[.agg #[.int .i64 a0_0, .int .i64 a0_1, .int .i64 a0_2], .agg #[.int .i64 a1_0, .int .i64 a1_1, .int .i64 a1_2]] ?_
 with_reducible refine (Rf_dot.calls a0_0 a0_1 a0_2 a1_0 a1_1 a1_2 t480 _ A3.out).mono ?_
 rintro e w10 ⟨rfl, hb⟩
 refine ⟨_, rfl, ?_⟩
 replace BK477 := bb BK477 hb; replace BK478 := bb BK478 hb; replace BK479 := bb BK479 hb; replace HB := sb HB hb
 (try clear hb)
 refine hK.out _ _ cz (fun hH => ?_)
 clear hK K
 refine norm_ (a' := ?_) ?_ ?_
 rotate_left
 ·show Act.put _ (some 8) _ = _
  exact pz
 refine oneZ 7 (some 12) (bs 14 2047) (one_of HT_.out (by kernel_rfl)) fun K hK => ?_
 refine gz Try.func87 #[.agg #[.int .i64 a0_3, .int .i64 a0_4, .int .i64 a0_5], .agg #[.int .i64 a1_0, .int .i64 a1_1, .int .i64 a1_2]] ?_
 with_reducible refine (Rf_dot.calls a0_3 a0_4 a0_5 a1_0 a1_1 a1_2 t481 _ A4.out).mono ?_
 rintro e w11 ⟨rfl, hb⟩
 refine ⟨_, rfl, ?_⟩
 replace BK477 := bb BK477 hb; replace BK478 := bb BK478 hb; replace BK479 := bb BK479 hb; replace HB := sb HB hb
 (try clear hb)
 refine hK.out _ _ cz (fun hH => ?_)
 clear hK K
 refine norm_ (a' := ?_) ?_ ?_
 rotate_left
 ·show Act.put _ (some 12) _ = _
  exact pz
 refine oneZ 11 (some 16) (bs 14 4095) (one_of HT_.out (by kernel_rfl)) fun K hK => ?_
 refine gz Try.func87 #[.agg #[.int .i64 a0_6, .int .i64 a0_7, .int .i64 a0_8], .agg #[.int .i64 a1_0, .int .i64 a1_1, .int .i64 a1_2]] ?_
 with_reducible refine (Rf_dot.calls a0_6 a0_7 a0_8 a1_0 a1_1 a1_2 t482 _ A5.out).mono ?_
 rintro e w12 ⟨rfl, hb⟩
 refine ⟨_, rfl, ?_⟩
 replace BK477 := bb BK477 hb; replace BK478 := bb BK478 hb; replace BK479 := bb BK479 hb; replace HB := sb HB hb
 (try clear hb)
 refine hK.out _ _ cz (fun hH => ?_)
 clear hK K
 refine norm_ (a' := ?_) ?_ ?_
 rotate_left
 ·show Act.put _ (some 16) _ = _
  exact pz
 refine pZ 12 (some 17) (bs 14 8191) HT_ ?_
 refine oneZ 13 (none) (bs 14 16383) (one_of HT_.out (by kernel_rfl)) fun K hK => ?_
 have hs13 : w12.cell? ⟨gb479, 0, none⟩ = some (.int .i64 0) := (blk_cell BK479.out 0).trans rfl
 have hfs13 := blk_frozen BK479.out 0
 have hs14 : w12.cell? ⟨gb479, 1, none⟩ = some (.int .i64 0) := (blk_cell BK479.out 1).trans rfl
 have hfs14 := blk_frozen BK479.out 1
 have hs15 : w12.cell? ⟨gb479, 2, none⟩ = some (.int .i64 0) := (blk_cell BK479.out 2).trans rfl
 have hfs15 := blk_frozen BK479.out 2
 refine skip_ (w1 := ?_) (by rfl) rfl ?_ ?_
 rotate_left
 ·go_simp
  rfl
 refine hK.out _ _ (cf hH) (fun hH => ?_)
 clear hK K
 refine done_ (done_of HT_.out (by kernel_rfl)) ?_
 try go_wp2
 refine bodyPost_ret (results_cell_row rfl _ _ gb479 44 #[.int .i64 t480, .int .i64 t481, .int .i64 t482] (0, 0) _ rfl (bq BK479.out) Try.underlying44 rfl (by kernel_rfl)) rfl ?_
 exact ez
end Go.Proofs.Ytibhfahbabgbaaa.A
