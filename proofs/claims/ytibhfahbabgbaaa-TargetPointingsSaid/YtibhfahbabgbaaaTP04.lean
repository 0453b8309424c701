/- Walks of the program's functions (printed, made shorter), each with what it computes. -/
import Derived.Test.YtibhfahbabgbaaaB05
import Derived.Test.YtibhfahbabgbaaaTP03
import Derived.Test.YtibhfahbabgbaaaB04
import Derived.Test.YtibhfahbabgbaaaB08
import Derived.Test.YtibhfahbabgbaaaB15
import Derived.Test.YtibhfahbabgbaaaB16
import Derived.Test.YtibhfahbabgbaaaTP01
namespace Go.Proofs.Ytibhfahbabgbaaa.A
set_option maxHeartbeats 8000000
set_option maxRecDepth 100000
open Go.RowKit Go.Proofs.YtibhfahbabgbaaaW.PrintWords Go.Proofs.YtibhfahbabgbaaaW.PrintLast Go.Proofs.YtibhfahbabgbaaaW.PrintMore
attribute [local go_sem] max2_int min2_int max_two min_two max_three min_three max_four min_four
set_option linter.unusedVariables false
set_option linter.unusedSimpArgs false
section
def Rf_Turned.f (a0_0 : Int) (a0_1 : Int) (a0_2 : Int) (a0_3 : Int) (a0_4 : Int) (a0_5 : Int) (a0_6 : Int) (a0_7 : Int) (a0_8 : Int) (a1_0 : Int) (a1_1 : Int) (a1_2 : Int) : Option (Int × Int × Int) := (Rf_dot.f a0_0 a0_1 a0_2 a1_0 a1_1 a1_2).bind fun t480 => ((Rf_dot.f a0_3 a0_4 a0_5 a1_0 a1_1 a1_2).bind fun t481 => ((Rf_dot.f a0_6 a0_7 a0_8 a1_0 a1_1 a1_2).bind fun t482 => (some (t480, t481, t482))))
def Rf_Turned.T1 : Bool × List (List Nat × List Nat) := (true, [([], []), ([0], [0]), ([], []), ([1, 2], [1, 2]), ([], []), ([4], [4]), ([], []), ([5, 6, 3], [5, 6]), ([], []), ([8], [8]), ([], []), ([9, 10, 7], [9, 10]), ([3, 7, 11], [3, 7, 11]), ([12, 11, 0, 1, 2, 3, 4, 5, 6, 7, 8, 9, 10, 11, 12], [12])])
def Rf_Turned.B1 : List Nat := [0, 1, 0, 7, 0, 16, 0, 127, 0, 256, 0, 2047, 4095, 8191]
theorem Rf_Turned.tab1 : rtab .any (opsOf Try.f29 1) = Rf_Turned.T1 := by kernel_rfl
theorem Rf_Turned.bits1 : waitsOk Rf_Turned.T1.2 Rf_Turned.B1 = true := by kernel_rfl
theorem Rf_Turned.calls (a0_0 : Int) (a0_1 : Int) (a0_2 : Int) (a0_3 : Int) (a0_4 : Int) (a0_5 : Int) (a0_6 : Int) (a0_7 : Int) (a0_8 : Int) (a1_0 : Int) (a1_1 : Int) (a1_2 : Int) (r1 : Int) (r2 : Int) (r3 : Int) (w : World) (h : Rf_Turned.f a0_0 a0_1 a0_2 a0_3 a0_4 a0_5 a0_6 a0_7 a0_8 a1_0 a1_1 a1_2 = some (r1, r2, r3)) :
  Calls Try.prog 29 #[.agg #[.int .i64 a0_0, .int .i64 a0_1, .int .i64 a0_2, .int .i64 a0_3, .int .i64 a0_4, .int .i64 a0_5, .int .i64 a0_6, .int .i64 a0_7, .int .i64 a0_8], .agg #[.int .i64 a1_0, .int .i64 a1_1, .int .i64 a1_2]] w fun e w' => e = .returned (.agg #[.int .i64 r1, .int .i64 r2, .int .i64 r3]) ∧ Below w.heap.size w w' := by
 have hu45 := Try.underlying45
 have hu44 := Try.underlying44
 have hix45_0 : ∀ (g_ : Nat) (W_ : World), (Instr.indexAt 45 (.pointer (some ⟨g_, 0, none⟩)) (.int .i64 0)).run Try.prog W_ = .ok (.pointer (some ⟨g_, 0, none⟩)) W_ := fun _ _ => by kernel_rfl
 have hix45_1 : ∀ (g_ : Nat) (W_ : World), (Instr.indexAt 45 (.pointer (some ⟨g_, 0, none⟩)) (.int .i64 1)).run Try.prog W_ = .ok (.pointer (some ⟨g_, 3, none⟩)) W_ := fun _ _ => by kernel_rfl
 have hix45_2 : ∀ (g_ : Nat) (W_ : World), (Instr.indexAt 45 (.pointer (some ⟨g_, 0, none⟩)) (.int .i64 2)).run Try.prog W_ = .ok (.pointer (some ⟨g_, 6, none⟩)) W_ := fun _ _ => by kernel_rfl
 have HB := m0 (Below.refl w.heap.size w)
 have H : ((Rf_dot.f a0_0 a0_1 a0_2 a1_0 a1_1 a1_2).bind fun t480 => ((Rf_dot.f a0_3 a0_4 a0_5 a1_0 a1_1 a1_2).bind fun t481 => ((Rf_dot.f a0_6 a0_7 a0_8 a1_0 a1_1 a1_2).bind fun t482 => (some (t480, t481, t482))))) = some (r1, r2, r3) := h
 clear h
 replace H := ob H
 obtain ⟨t480, A3, H⟩ := H
 (try dsimp only at H)
 replace A3 := m0 A3
 replace H := ob H
 obtain ⟨t481, A4, H⟩ := H
 (try dsimp only at H)
 replace A4 := m0 A4
 replace H := ob H
 obtain ⟨t482, A5, H⟩ := H
 (try dsimp only at H)
 replace A5 := m0 A5
 simp only [Option.some.injEq, Prod.mk.injEq] at H
 obtain ⟨rfl, rfl, rfl⟩ := H
 go_enter Try.func29, Try.ntmps29
 try go_wp2_with (first | ((with_reducible refine gate_dst (N := 2) rfl ?_); refine be 2 45 #[.int .i64 a0_0, .int .i64 a0_1, .int .i64 a0_2, .int .i64 a0_3, .int .i64 a0_4, .int .i64 a0_5, .int .i64 a0_6, .int .i64 a0_7, .int .i64 a0_8] ?_; intro gb477 hg w6 hbox hb; have BK477 := m0 hbox; have GE477 := gw w hg; replace HB := sb HB hb; clear hb hbox hg) | ((with_reducible refine gate_dst (N := 3) rfl ?_); refine be 3 44 #[.int .i64 a1_0, .int .i64 a1_1, .int .i64 a1_2] ?_; intro gb478 hg w7 hbox hb; have BK478 := m0 hbox; have GE478 := gw w hg; replace HB := sb HB hb; have NB477_478 := nl BK477 hg; have NB478_477 := ng (nl BK477 hg); replace BK477 := bb BK477 hb; clear hb hbox hg) | ((with_reducible refine gate_dst (N := 4) rfl ?_); refine be 4 44 #[.int .i64 0, .int .i64 0, .int .i64 0] ?_; intro gb479 hg w8 hbox hb; have BK479 := m0 hbox; have GE479 := gw w hg; replace HB := sb HB hb; have NB477_479 := nl BK477 hg; have NB479_477 := ng (nl BK477 hg); replace BK477 := bb BK477 hb; have NB478_479 := nl BK478 hg; have NB479_478 := ng (nl BK478 hg); replace BK478 := bb BK478 hb; clear hb hbox hg))
 replace BK477 := bd BK477; replace BK478 := bd BK478; replace BK479 := bd BK479; replace HB := sd HB
 refine start_ (n := 14) (S := fun w' => w'.cell? ⟨gb477, 0, none⟩ = some (.int .i64 a0_0) ∧ w'.cell? ⟨gb477, 1, none⟩ = some (.int .i64 a0_1) ∧ w'.cell? ⟨gb477, 2, none⟩ = some (.int .i64 a0_2) ∧ w'.cell? ⟨gb477, 3, none⟩ = some (.int .i64 a0_3) ∧ w'.cell? ⟨gb477, 4, none⟩ = some (.int .i64 a0_4) ∧ w'.cell? ⟨gb477, 5, none⟩ = some (.int .i64 a0_5) ∧ w'.cell? ⟨gb477, 6, none⟩ = some (.int .i64 a0_6) ∧ w'.cell? ⟨gb477, 7, none⟩ = some (.int .i64 a0_7) ∧ w'.cell? ⟨gb477, 8, none⟩ = some (.int .i64 a0_8) ∧ w'.cell? ⟨gb478, 0, none⟩ = some (.int .i64 a1_0) ∧ w'.cell? ⟨gb478, 1, none⟩ = some (.int .i64 a1_1) ∧ w'.cell? ⟨gb478, 2, none⟩ = some (.int .i64 a1_2)) (ds := []) #[false, false, false, false, false, false, false, false, false, false, false, false, false, false] (by kernel_rfl) rfl rfl cz (fun hH => ?_); refine with_tabW Rf_Turned.tab1 Rf_Turned.bits1 (fun HT_ HW_ => ?_)
 generalize w8.drew = w9 at BK477 BK478 BK479 HB hH ⊢
 refine pZ 0 (some 5) (bs 14 1) HT_ ?_
 refine pZ 4 (some 9) (bs 14 17) HT_ ?_
 refine pZ 8 (some 13) (bs 14 273) HT_ ?_
 refine takeZ 1 (some 6) (bs 14 275) (take_ofW HT_.out HW_.out (by kernel_rfl)) hH ?_
 refine takeZ 2 (some 7) (bs 14 279) (take_ofW HT_.out HW_.out (by kernel_rfl)) hH ?_
 refine takeZ 5 (some 10) (bs 14 311) (take_ofW HT_.out HW_.out (by kernel_rfl)) hH ?_
 refine takeZ 6 (some 11) (bs 14 375) (take_ofW HT_.out HW_.out (by kernel_rfl)) hH ?_
 refine takeZ 9 (some 14) (bs 14 887) (take_ofW HT_.out HW_.out (by kernel_rfl)) hH ?_
 refine takeZ 10 (some 15) (bs 14 1911) (take_ofW HT_.out HW_.out (by kernel_rfl)) hH ?_
 refine oneZ 3 (some 8) (bs 14 1919) (one_of HT_.out (by kernel_rfl)) fun K hK => ?_
 refine gz Try.func87 #[.agg #[.int .i64 a0_0, .int .i64 a0_1, .int .i64 a0_2], .agg #[.int .i64 a1_0, .int .i64 a1_1, .int .i64 a1_2]] ?_
 with_reducible refine (Rf_dot.calls a0_0 a0_1 a0_2 a1_0 a1_1 a1_2 t480 _ A3.out).mono ?_
 rintro e w10 ⟨rfl, hb⟩
 refine ⟨_, rfl, ?_⟩
 replace BK477 := bb BK477 hb; replace BK478 := bb BK478 hb; replace BK479 := bb BK479 hb; replace HB := sb HB hb
 (try clear hb)
 refine hK.out _ _ cz (fun hH => ?_)
 clear hK K
 refine norm_ (a' := ?_) ?_ ?_
 rotate_left
 ·show Act.put _ (some 8) _ = _
  exact pz
 refine oneZ 7 (some 12) (bs 14 2047) (one_of HT_.out (by kernel_rfl)) fun K hK => ?_
 refine gz Try.func87 #[.agg #[.int .i64 a0_3, .int .i64 a0_4, .int .i64 a0_5], .agg #[.int .i64 a1_0, .int .i64 a1_1, .int .i64 a1_2]] ?_
 with_reducible refine (Rf_dot.calls a0_3 a0_4 a0_5 a1_0 a1_1 a1_2 t481 _ A4.out).mono ?_
 rintro e w11 ⟨rfl, hb⟩
 refine ⟨_, rfl, ?_⟩
 replace BK477 := bb BK477 hb; replace BK478 := bb BK478 hb; replace BK479 := bb BK479 hb; replace HB := sb HB hb
 (try clear hb)
 refine hK.out _ _ cz (fun hH => ?_)
 clear hK K
 refine norm_ (a' := ?_) ?_ ?_
 rotate_left
 ·show Act.put _ (some 12) _ = _
  exact pz
 refine oneZ 11 (some 16) (bs 14 4095) (one_of HT_.out (by kernel_rfl)) fun K hK => ?_
 refine gz Try.func87 #[.agg #[.int .i64 a0_6, .int .i64 a0_7, .int .i64 a0_8], .agg #[.int .i64 a1_0, .int .i64 a1_1, .int .i64 a1_2]] ?_
 with_reducible refine (Rf_dot.calls a0_6 a0_7 a0_8 a1_0 a1_1 a1_2 t482 _ A5.out).mono ?_
 rintro e w12 ⟨rfl, hb⟩
 refine ⟨_, rfl, ?_⟩
 replace BK477 := bb BK477 hb; replace BK478 := bb BK478 hb; replace BK479 := bb BK479 hb; replace HB := sb HB hb
 (try clear hb)
 refine hK.out _ _ cz (fun hH => ?_)
 clear hK K
 refine norm_ (a' := ?_) ?_ ?_
 rotate_left
 ·show Act.put _ (some 16) _ = _
  exact pz
 refine pZ 12 (some 17) (bs 14 8191) HT_ ?_
 refine oneZ 13 (none) (bs 14 16383) (one_of HT_.out (by kernel_rfl)) fun K hK => ?_
 have hs13 : w12.cell? ⟨gb479, 0, none⟩ = some (.int .i64 0) := (blk_cell BK479.out 0).trans rfl
 have hfs13 := blk_frozen BK479.out 0
 have hs14 : w12.cell? ⟨gb479, 1, none⟩ = some (.int .i64 0) := (blk_cell BK479.out 1).trans rfl
 have hfs14 := blk_frozen BK479.out 1
 have hs15 : w12.cell? ⟨gb479, 2, none⟩ = some (.int .i64 0) := (blk_cell BK479.out 2).trans rfl
 have hfs15 := blk_frozen BK479.out 2
 refine skip_ (w1 := ?_) (by rfl) rfl ?_ ?_
 rotate_left
 ·go_simp
  rfl
 refine hK.out _ _ (cf hH) (fun hH => ?_)
 clear hK K
 refine done_ (done_of HT_.out (by kernel_rfl)) ?_
 try go_wp2
 refine bodyPost_ret (results_cell_row rfl _ _ gb479 44 #[.int .i64 t480, .int .i64 t481, .int .i64 t482] (0, 0) _ rfl (bq BK479.out) Try.underlying44 rfl (by kernel_rfl)) rfl ?_
 exact ez
end
section
mutual
def Rf_Scores.l0 : Nat → List (S126) → List (S45) → List Int → Int → Option (List Int)
  | 0, _, _, _, _ => none
  | k + 1, x0, x3, x4, x5 => if x5 < (x3.length : Int) then (Rf_Scores.l1 k x0 x3 x4 x5 0 0) else (some x4)
def Rf_Scores.l1 : Nat → List (S126) → List (S45) → List Int → Int → Int → Int → Option (List Int)
  | 0, _, _, _, _, _, _ => none
  | k + 1, x0, x3, x4, x5, x6, x7 => if x7 < (x0.length : Int) then (if 0 ≤ x7 then (if 0 ≤ x5 then (if x5 < (x3.length : Int) then ((Rf_Turned.f ((rd_T45 x3 x5).f0.f0) ((rd_T45 x3 x5).f0.f1) ((rd_T45 x3 x5).f0.f2) ((rd_T45 x3 x5).f1.f0) ((rd_T45 x3 x5).f1.f1) ((rd_T45 x3 x5).f1.f2) ((rd_T45 x3 x5).f2.f0) ((rd_T45 x3 x5).f2.f1) ((rd_T45 x3 x5).f2.f2) ((rd_T126 x0 x7).f0.f0) ((rd_T126 x0 x7).f0.f1) ((rd_T126 x0 x7).f0.f2)).bind fun bt1611 => ((Rf_dot.f ((rd_T126 x0 x7).f1.f0) ((rd_T126 x0 x7).f1.f1) ((rd_T126 x0 x7).f1.f2) bt1611.1 bt1611.2.1 bt1611.2.2).bind fun t1614 => (Rf_Scores.l1 k x0 x3 x4 x5 (wrap64 (x6 + t1614)) (wrap64 (x7 + 1))))) else (none)) else (none)) else (none)) else (if x4.length < 17592186044416 then (Rf_Scores.l0 k x0 x3 (x4 ++ [x6]) (wrap64 (x5 + 1))) else (none))
end
def Rf_Scores.f (k : Nat) (l0 : List (S126)) : Option (List Int) := (Rf_Rotations.f k).bind fun t1605 => (Rf_Scores.l0 k l0 t1605 ([] : List Int) 0)
theorem Rf_Scores.mono_l : ∀ k, (∀ y0 y1 y2 y3, LeO (Rf_Scores.l0 k y0 y1 y2 y3) (Rf_Scores.l0 (k + 1) y0 y1 y2 y3)) ∧ (∀ y0 y1 y2 y3 y4 y5, LeO (Rf_Scores.l1 k y0 y1 y2 y3 y4 y5) (Rf_Scores.l1 (k + 1) y0 y1 y2 y3 y4 y5))
  | 0 => ⟨fun _ _ _ _ r h => by simp [Rf_Scores.l0] at h, fun _ _ _ _ _ _ r h => by simp [Rf_Scores.l1] at h⟩
  | k + 1 => by
    obtain ⟨ih0, ih1⟩ := Rf_Scores.mono_l k
    refine ⟨?_, ?_⟩
    · intro y0 y1 y2 y3
      unfold Rf_Scores.l0
      repeat' with_reducible first
        | exact ih0 ..
        | exact ih1 ..
        | exact Rf_Rotations.mono ..
        | exact LeO.refl ..
        | exact LeO.none ..
        | refine LeO.ite ?_ ?_
        | refine LeO.bind ?_ (fun _ => ?_)
    · intro y0 y1 y2 y3 y4 y5
      unfold Rf_Scores.l1
      repeat' with_reducible first
        | exact ih0 ..
        | exact ih1 ..
        | exact Rf_Rotations.mono ..
        | exact LeO.refl ..
        | exact LeO.none ..
        | refine LeO.ite ?_ ?_
        | refine LeO.bind ?_ (fun _ => ?_)
theorem Rf_Scores.mono : ∀ a0 k, LeO (Rf_Scores.f k a0) (Rf_Scores.f (k + 1) a0) := by
  intro a0 k
  obtain ⟨ih0, ih1⟩ := Rf_Scores.mono_l k
  unfold Rf_Scores.f
  repeat' with_reducible first
    | exact ih0 ..
    | exact ih1 ..
    | exact Rf_Rotations.mono ..
    | exact LeO.refl ..
    | exact LeO.none ..
    | refine LeO.ite ?_ ?_
    | refine LeO.bind ?_ (fun _ => ?_)
def Rf_Scores.T10 : Bool × List (List Nat × List Nat) := (true, [([], []), ([], []), ([], []), ([1, 2], [1, 2]), ([3], [3]), ([4], [4]), ([], []), ([], []), ([6, 7], [6, 7]), ([8], [8]), ([], []), ([], []), ([10, 11], [10, 11]), ([12], [12]), ([13], [13]), ([9, 14], [9, 14]), ([5, 15, 15], [5, 15]), ([0, 16], [0, 16]), ([17, 16, 0, 1, 2, 3, 4, 5, 6, 7, 8, 9, 10, 11, 12, 13, 14, 15, 16, 17], [0, 17])])
def Rf_Scores.B10 : List Nat := [0, 0, 0, 6, 14, 30, 0, 0, 192, 448, 0, 0, 3072, 7168, 15360, 32704, 65534, 131071, 262143]
theorem Rf_Scores.tab10 : rtab .any (opsOf Try.f68 10) = Rf_Scores.T10 := by kernel_rfl
theorem Rf_Scores.bits10 : waitsOk Rf_Scores.T10.2 Rf_Scores.B10 = true := by kernel_rfl
theorem Rf_Scores.calls (k : Nat) (A0 : Option Addr) (c0 : Nat) (l0 : List (S126)) (r : List Int) (w : World) (hr0 : Kd.C k126 w A0 l0.length l0) (hc0 : l0.length ≤ c0) (h : Rf_Scores.f k l0 = some r) :
    Calls Try.prog 68 #[.slice A0 l0.length c0] w fun e w' => ∃ v0_ : Value, e = .returned (v0_) ∧ Kd.R (Kd.int .i64) 3 w' w.heap.size (fun _ => True) v0_ r ∧ Below w.heap.size w w' := by
  have hu44 := Try.underlying44
  have hu45 := Try.underlying45
  have HR0 := m0 hr0
  have HC0 := m0 hc0
  clear hr0 hc0
  have HB := m0 (Below.refl w.heap.size w)
  have H : ((Rf_Rotations.f k).bind fun t1605 => (Rf_Scores.l0 k l0 t1605 ([] : List Int) 0)) = some r := h
  clear h
  replace H := ob H
  obtain ⟨t1605, A2, H⟩ := H
  (try dsimp only at H)
  replace A2 := m0 A2
  have H' := m0 H
  clear H
  go_enter Try.func68, Try.ntmps68
  go_wp2_with (first | ((with_reducible refine gate_callee (f := 27) rfl ?_); refine gl (some 8) Try.func27 #[] ?_; (with_reducible refine (Rf_Rotations.calls k  t1605 _ A2.out).mono ?_); rintro e w3 ⟨v1606, rfl, ho0, hb⟩; refine ⟨_, rfl, ?_⟩; have HO1607 := m0 (Kd.R_lower ho0 (below_size bz)); replace HB := sb HB hb; (try clear hb); (try clear ho0)))
  go_loopg [4, 5] k (fun kq v4 v5 w' => ∃ (x4_1 : List Int) (x5_1 : Int), v5 = .int .i64 x5_1 ∧ Aside0 (Rf_Scores.l0 kq l0 t1605 x4_1 x5_1 = some r) ∧ Aside0 (kq ≤ k) ∧ Aside0 (Kd.R k45 45 w' w.heap.size (fun _ => True) v1606 t1605) ∧ Aside0 (Kd.R (Kd.int .i64) 3 w' w.heap.size (fun _ => True) v4 x4_1) ∧ Aside0 (Below w.heap.size w w'))
  case atStart => exact ⟨(([] : List Int)), (0), (by first | rfl | (simp; done) | (simp [*]; done)), H', ⟨Nat.le_refl _⟩, ⟨br HO1607.out⟩, ⟨by first | exact Kd.R_nil _ _ _ _ _ | exact Kd.N_nil _ _ _ _ _ | exact Kd.V_nil _ _ _ _ _ | exact Kd.Q_nil _ _ _ _ _ | exact Kd.S_nil _ _ _ _ _⟩, ⟨bz⟩⟩
  case round =>
    clear H'
    obtain ⟨x4_1, x5_1, rfl, HA, HK1, HO_3, HO_4, HB⟩ := hrel
    cases gk with
    | zero => exact absurd HA.out (by simp [Rf_Scores.l0])
    | succ k1 =>
      have H := HA.out
      clear HA
      simp only [Rf_Scores.l0] at H
      by_cases c4 : x5_1 < (t1605.length : Int)
      · rw [if_pos c4] at H
        have c4b0 := decide_eq_true c4
        clear c4
        have H' := m0 H
        clear H
        obtain ⟨Ao5, co5, eo5⟩ := Kd.R_slice HO_3.out
        subst eo5
        go_wp2
        go_loopg [6, 7] k1 (fun kq v6 v7 w' => ∃ (x6_2 : Int) (x7_2 : Int), v6 = .int .i64 x6_2 ∧ v7 = .int .i64 x7_2 ∧ Aside0 (Rf_Scores.l1 kq l0 t1605 x4_1 x5_1 x6_2 x7_2 = some r) ∧ Aside0 (kq ≤ k1) ∧ Aside0 (Kd.R k45 45 w' w.heap.size (fun _ => True) (.slice Ao5 t1605.length co5) t1605) ∧ Aside0 (Kd.R (Kd.int .i64) 3 w' w.heap.size (fun _ => True) u4 x4_1) ∧ Aside0 (Below w.heap.size w w'))
        case atStart => exact ⟨(0), (0), (by first | rfl | (simp; done) | (simp [*]; done)), (by first | rfl | (simp; done) | (simp [*]; done)), H', ⟨Nat.le_refl _⟩, ⟨br HO_3.out⟩, ⟨br HO_4.out⟩, ⟨bz⟩⟩
        case round =>
          clear H'
          obtain ⟨x6_2, x7_2, rfl, rfl, HA, HK2, HO_3, HO_4, HB⟩ := hrel
          cases gk with
          | zero => exact absurd HA.out (by simp [Rf_Scores.l1])
          | succ k2 =>
            have H := HA.out
            clear HA
            simp only [Rf_Scores.l1] at H
            by_cases c6 : x7_2 < (l0.length : Int)
            · rw [if_pos c6] at H
              have c6b0 := decide_eq_true c6
              clear c6
              by_cases c7 : 0 ≤ x7_2
              · rw [if_pos c7] at H
                have c7b0 := decide_eq_true c7
                clear c7
                by_cases c8 : 0 ≤ x5_1
                · rw [if_pos c8] at H
                  have c8b0 := decide_eq_true c8
                  clear c8
                  by_cases c9 : x5_1 < (t1605.length : Int)
                  · rw [if_pos c9] at H
                    have c9b0 := decide_eq_true c9
                    clear c9
                    replace H := ob H
                    obtain ⟨⟨t1611, t1612, t1613⟩, A10, H⟩ := H
                    (try dsimp only at H)
                    replace A10 := m0 A10
                    replace H := ob H
                    obtain ⟨t1614, A11, H⟩ := H
                    (try dsimp only at H)
                    replace A11 := m0 A11
                    have H' := m0 H
                    clear H
                    try go_wp2
                    replace HO_3 := m0 (Kd.R_drew HO_3.out); replace HO_4 := m0 (Kd.R_drew HO_4.out); replace HB := sd HB
                    have p1608 : 0 ≤ (x7_2 : Int) := od
                    have q1608 : x7_2 < (l0.length : Int) := od
                    obtain ⟨ad1608, e1608, hx1608_0, hx1608_1, hx1608_2, hx1608_3, hx1608_4, hx1608_5⟩ := at_T126 HR0.out x7_2 p1608 q1608
                    have hw1608_5 := hx1608_5
                    have hw1608_4 := hx1608_4
                    have hw1608_3 := hx1608_3
                    have hw1608_2 := hx1608_2
                    have hw1608_1 := hx1608_1
                    have hw1608_0 := hx1608_0
                    cases e1608
                    replace hx1608_0 := (HB.out.cell (World.block_lt_of_cell? w _ hx1608_0)).trans hx1608_0
                    replace hx1608_1 := (HB.out.cell (World.block_lt_of_cell? w _ hx1608_1)).trans hx1608_1
                    replace hx1608_2 := (HB.out.cell (World.block_lt_of_cell? w _ hx1608_2)).trans hx1608_2
                    replace hx1608_3 := (HB.out.cell (World.block_lt_of_cell? w _ hx1608_3)).trans hx1608_3
                    replace hx1608_4 := (HB.out.cell (World.block_lt_of_cell? w _ hx1608_4)).trans hx1608_4
                    replace hx1608_5 := (HB.out.cell (World.block_lt_of_cell? w _ hx1608_5)).trans hx1608_5
                    replace p1608 := eq_true p1608
                    replace q1608 := eq_true q1608
                    have p1609 : 0 ≤ (x5_1 : Int) := od
                    have q1609 : x5_1 < (t1605.length : Int) := od
                    obtain ⟨ad1609, e1609, hx1609_0, hx1609_1, hx1609_2, hx1609_3, hx1609_4, hx1609_5, hx1609_6, hx1609_7, hx1609_8⟩ := at_T45 (Kd.R_reads' HO_3.out).2.2 x5_1 p1609 q1609
                    cases e1609
                    replace p1609 := eq_true p1609
                    replace q1609 := eq_true q1609
                    have p1610 : 0 ≤ (x7_2 : Int) := od
                    have q1610 : x7_2 < (l0.length : Int) := od
                    obtain ⟨ad1610, e1610, hx1610_0, hx1610_1, hx1610_2, hx1610_3, hx1610_4, hx1610_5⟩ := at_T126 HR0.out x7_2 p1610 q1610
                    have hw1610_5 := hx1610_5
                    have hw1610_4 := hx1610_4
                    have hw1610_3 := hx1610_3
                    have hw1610_2 := hx1610_2
                    have hw1610_1 := hx1610_1
                    have hw1610_0 := hx1610_0
                    obtain rfl : ad1608 = ad1610 := (by injection e1610)
                    replace hx1610_0 := (HB.out.cell (World.block_lt_of_cell? w _ hx1610_0)).trans hx1610_0
                    replace hx1610_1 := (HB.out.cell (World.block_lt_of_cell? w _ hx1610_1)).trans hx1610_1
                    replace hx1610_2 := (HB.out.cell (World.block_lt_of_cell? w _ hx1610_2)).trans hx1610_2
                    replace hx1610_3 := (HB.out.cell (World.block_lt_of_cell? w _ hx1610_3)).trans hx1610_3
                    replace hx1610_4 := (HB.out.cell (World.block_lt_of_cell? w _ hx1610_4)).trans hx1610_4
                    replace hx1610_5 := (HB.out.cell (World.block_lt_of_cell? w _ hx1610_5)).trans hx1610_5
                    replace p1610 := eq_true p1610
                    replace q1610 := eq_true q1610
                    refine start_ (n := 19) (S := fun w' => w'.cell? (ad1608.add ((x7_2).toNat * 6)) = some (.int .i64 ((rd_T126 l0 x7_2).f0.f0)) ∧ w'.cell? ⟨(ad1608.add ((x7_2).toNat * 6)).block, (ad1608.add ((x7_2).toNat * 6)).off + 1, none⟩ = some (.int .i64 ((rd_T126 l0 x7_2).f0.f1)) ∧ w'.cell? ⟨(ad1608.add ((x7_2).toNat * 6)).block, (ad1608.add ((x7_2).toNat * 6)).off + 2, none⟩ = some (.int .i64 ((rd_T126 l0 x7_2).f0.f2)) ∧ w'.cell? ⟨(ad1608.add ((x7_2).toNat * 6)).block, (ad1608.add ((x7_2).toNat * 6)).off + 3, none⟩ = some (.int .i64 ((rd_T126 l0 x7_2).f1.f0)) ∧ w'.cell? ⟨(ad1608.add ((x7_2).toNat * 6)).block, (ad1608.add ((x7_2).toNat * 6)).off + 4, none⟩ = some (.int .i64 ((rd_T126 l0 x7_2).f1.f1)) ∧ w'.cell? ⟨(ad1608.add ((x7_2).toNat * 6)).block, (ad1608.add ((x7_2).toNat * 6)).off + 5, none⟩ = some (.int .i64 ((rd_T126 l0 x7_2).f1.f2)) ∧ w'.cell? (ad1609.add ((x5_1).toNat * 9)) = some (.int .i64 ((rd_T45 t1605 x5_1).f0.f0)) ∧ w'.cell? ⟨(ad1609.add ((x5_1).toNat * 9)).block, (ad1609.add ((x5_1).toNat * 9)).off + 1, none⟩ = some (.int .i64 ((rd_T45 t1605 x5_1).f0.f1)) ∧ w'.cell? ⟨(ad1609.add ((x5_1).toNat * 9)).block, (ad1609.add ((x5_1).toNat * 9)).off + 2, none⟩ = some (.int .i64 ((rd_T45 t1605 x5_1).f0.f2)) ∧ w'.cell? ⟨(ad1609.add ((x5_1).toNat * 9)).block, (ad1609.add ((x5_1).toNat * 9)).off + 3, none⟩ = some (.int .i64 ((rd_T45 t1605 x5_1).f1.f0)) ∧ w'.cell? ⟨(ad1609.add ((x5_1).toNat * 9)).block, (ad1609.add ((x5_1).toNat * 9)).off + 4, none⟩ = some (.int .i64 ((rd_T45 t1605 x5_1).f1.f1)) ∧ w'.cell? ⟨(ad1609.add ((x5_1).toNat * 9)).block, (ad1609.add ((x5_1).toNat * 9)).off + 5, none⟩ = some (.int .i64 ((rd_T45 t1605 x5_1).f1.f2)) ∧ w'.cell? ⟨(ad1609.add ((x5_1).toNat * 9)).block, (ad1609.add ((x5_1).toNat * 9)).off + 6, none⟩ = some (.int .i64 ((rd_T45 t1605 x5_1).f2.f0)) ∧ w'.cell? ⟨(ad1609.add ((x5_1).toNat * 9)).block, (ad1609.add ((x5_1).toNat * 9)).off + 7, none⟩ = some (.int .i64 ((rd_T45 t1605 x5_1).f2.f1)) ∧ w'.cell? ⟨(ad1609.add ((x5_1).toNat * 9)).block, (ad1609.add ((x5_1).toNat * 9)).off + 8, none⟩ = some (.int .i64 ((rd_T45 t1605 x5_1).f2.f2)) ∧ w'.cell? (ad1608.add ((x7_2).toNat * 6)) = some (.int .i64 ((rd_T126 l0 x7_2).f0.f0)) ∧ w'.cell? ⟨(ad1608.add ((x7_2).toNat * 6)).block, (ad1608.add ((x7_2).toNat * 6)).off + 1, none⟩ = some (.int .i64 ((rd_T126 l0 x7_2).f0.f1)) ∧ w'.cell? ⟨(ad1608.add ((x7_2).toNat * 6)).block, (ad1608.add ((x7_2).toNat * 6)).off + 2, none⟩ = some (.int .i64 ((rd_T126 l0 x7_2).f0.f2)) ∧ w'.cell? ⟨(ad1608.add ((x7_2).toNat * 6)).block, (ad1608.add ((x7_2).toNat * 6)).off + 3, none⟩ = some (.int .i64 ((rd_T126 l0 x7_2).f1.f0)) ∧ w'.cell? ⟨(ad1608.add ((x7_2).toNat * 6)).block, (ad1608.add ((x7_2).toNat * 6)).off + 4, none⟩ = some (.int .i64 ((rd_T126 l0 x7_2).f1.f1)) ∧ w'.cell? ⟨(ad1608.add ((x7_2).toNat * 6)).block, (ad1608.add ((x7_2).toNat * 6)).off + 5, none⟩ = some (.int .i64 ((rd_T126 l0 x7_2).f1.f2))) (ds := []) #[false, false, false, false, false, false, false, false, false, false, false, false, false, false, false, false, false, false, false] (by kernel_rfl) rfl rfl ⟨((HB.out.cell (World.block_lt_of_cell? w _ hw1608_0)).trans hw1608_0), ((HB.out.cell (World.block_lt_of_cell? w _ hw1608_1)).trans hw1608_1), ((HB.out.cell (World.block_lt_of_cell? w _ hw1608_2)).trans hw1608_2), ((HB.out.cell (World.block_lt_of_cell? w _ hw1608_3)).trans hw1608_3), ((HB.out.cell (World.block_lt_of_cell? w _ hw1608_4)).trans hw1608_4), ((HB.out.cell (World.block_lt_of_cell? w _ hw1608_5)).trans hw1608_5), hx1609_0, hx1609_1, hx1609_2, hx1609_3, hx1609_4, hx1609_5, hx1609_6, hx1609_7, hx1609_8, ((HB.out.cell (World.block_lt_of_cell? w _ hw1610_0)).trans hw1610_0), ((HB.out.cell (World.block_lt_of_cell? w _ hw1610_1)).trans hw1610_1), ((HB.out.cell (World.block_lt_of_cell? w _ hw1610_2)).trans hw1610_2), ((HB.out.cell (World.block_lt_of_cell? w _ hw1610_3)).trans hw1610_3), ((HB.out.cell (World.block_lt_of_cell? w _ hw1610_4)).trans hw1610_4), ((HB.out.cell (World.block_lt_of_cell? w _ hw1610_5)).trans hw1610_5)⟩ (fun hH => ?_); refine with_tabW Rf_Scores.tab10 Rf_Scores.bits10 (fun HT_ HW_ => ?_)
                    generalize wr.drew = w12 at HO_3 HO_4 HB hx1608_0 hx1608_1 hx1608_2 hx1608_3 hx1608_4 hx1608_5 hx1609_0 hx1609_1 hx1609_2 hx1609_3 hx1609_4 hx1609_5 hx1609_6 hx1609_7 hx1609_8 hx1610_0 hx1610_1 hx1610_2 hx1610_3 hx1610_4 hx1610_5 hH ⊢
                    refine pZ 0 (some 21) (bs 19 1) HT_ ?_
                    refine pZ 1 (some 22) (bs 19 3) HT_ ?_
                    refine pZ 2 (some 23) (bs 19 7) HT_ ?_
                    refine pZ 3 (some 24) (bs 19 15) HT_ ?_
                    refine pZ 4 (some 25) (bs 19 31) HT_ ?_
                    refine pZ 6 (some 27) (bs 19 95) HT_ ?_
                    refine pZ 7 (some 28) (bs 19 223) HT_ ?_
                    refine pZ 8 (some 29) (bs 19 479) HT_ ?_
                    refine pZ 10 (some 31) (bs 19 1503) HT_ ?_
                    refine pZ 11 (some 32) (bs 19 3551) HT_ ?_
                    refine pZ 12 (some 33) (bs 19 7647) HT_ ?_
                    refine pZ 13 (some 34) (bs 19 15839) HT_ ?_
                    refine takeZ 5 (some 26) (bs 19 15871) (take_ofW HT_.out HW_.out (by kernel_rfl)) hH ?_
                    refine takeZ 9 (some 30) (bs 19 16383) (take_ofW HT_.out HW_.out (by kernel_rfl)) hH ?_
                    refine takeZ 14 (some 35) (bs 19 32767) (take_ofW HT_.out HW_.out (by kernel_rfl)) hH ?_
                    refine oneZ 15 (some 36) (bs 19 65535) (one_of HT_.out (by kernel_rfl)) fun K hK => ?_
                    refine gz Try.func29 #[.agg #[.int .i64 ((rd_T45 t1605 x5_1).f0.f0), .int .i64 ((rd_T45 t1605 x5_1).f0.f1), .int .i64 ((rd_T45 t1605 x5_1).f0.f2), .int .i64 ((rd_T45 t1605 x5_1).f1.f0), .int .i64 ((rd_T45 t1605 x5_1).f1.f1), .int .i64 ((rd_T45 t1605 x5_1).f1.f2), .int .i64 ((rd_T45 t1605 x5_1).f2.f0), .int .i64 ((rd_T45 t1605 x5_1).f2.f1), .int .i64 ((rd_T45 t1605 x5_1).f2.f2)], .agg #[.int .i64 ((rd_T126 l0 x7_2).f0.f0), .int .i64 ((rd_T126 l0 x7_2).f0.f1), .int .i64 ((rd_T126 l0 x7_2).f0.f2)]] ?_
                    with_reducible refine (Rf_Turned.calls ((rd_T45 t1605 x5_1).f0.f0) ((rd_T45 t1605 x5_1).f0.f1) ((rd_T45 t1605 x5_1).f0.f2) ((rd_T45 t1605 x5_1).f1.f0) ((rd_T45 t1605 x5_1).f1.f1) ((rd_T45 t1605 x5_1).f1.f2) ((rd_T45 t1605 x5_1).f2.f0) ((rd_T45 t1605 x5_1).f2.f1) ((rd_T45 t1605 x5_1).f2.f2) ((rd_T126 l0 x7_2).f0.f0) ((rd_T126 l0 x7_2).f0.f1) ((rd_T126 l0 x7_2).f0.f2) t1611 t1612 t1613 _ A10.out).mono ?_
                    rintro e w13 ⟨rfl, hb⟩
                    have HS6_ := (hb.cell (World.block_lt_of_cell? _ _ (hH.2.2.2.2.2.2.1))).trans (hH.2.2.2.2.2.2.1)
                    have HS7_ := (hb.cell (World.block_lt_of_cell? _ _ (hH.2.2.2.2.2.2.2.1))).trans (hH.2.2.2.2.2.2.2.1)
                    have HS8_ := (hb.cell (World.block_lt_of_cell? _ _ (hH.2.2.2.2.2.2.2.2.1))).trans (hH.2.2.2.2.2.2.2.2.1)
                    have HS9_ := (hb.cell (World.block_lt_of_cell? _ _ (hH.2.2.2.2.2.2.2.2.2.1))).trans (hH.2.2.2.2.2.2.2.2.2.1)
                    have HS10_ := (hb.cell (World.block_lt_of_cell? _ _ (hH.2.2.2.2.2.2.2.2.2.2.1))).trans (hH.2.2.2.2.2.2.2.2.2.2.1)
                    have HS11_ := (hb.cell (World.block_lt_of_cell? _ _ (hH.2.2.2.2.2.2.2.2.2.2.2.1))).trans (hH.2.2.2.2.2.2.2.2.2.2.2.1)
                    have HS12_ := (hb.cell (World.block_lt_of_cell? _ _ (hH.2.2.2.2.2.2.2.2.2.2.2.2.1))).trans (hH.2.2.2.2.2.2.2.2.2.2.2.2.1)
                    have HS13_ := (hb.cell (World.block_lt_of_cell? _ _ (hH.2.2.2.2.2.2.2.2.2.2.2.2.2.1))).trans (hH.2.2.2.2.2.2.2.2.2.2.2.2.2.1)
                    have HS14_ := (hb.cell (World.block_lt_of_cell? _ _ (hH.2.2.2.2.2.2.2.2.2.2.2.2.2.2.1))).trans (hH.2.2.2.2.2.2.2.2.2.2.2.2.2.2.1)
                    refine ⟨_, rfl, ?_⟩
                    replace HO_3 := rb HO_3 hb; replace HO_4 := rb HO_4 hb; replace HB := sb HB hb
                    (try clear hb)
                    refine hK.out _ _ ⟨((HB.out.cell (World.block_lt_of_cell? w _ hw1608_0)).trans hw1608_0), ((HB.out.cell (World.block_lt_of_cell? w _ hw1608_1)).trans hw1608_1), ((HB.out.cell (World.block_lt_of_cell? w _ hw1608_2)).trans hw1608_2), ((HB.out.cell (World.block_lt_of_cell? w _ hw1608_3)).trans hw1608_3), ((HB.out.cell (World.block_lt_of_cell? w _ hw1608_4)).trans hw1608_4), ((HB.out.cell (World.block_lt_of_cell? w _ hw1608_5)).trans hw1608_5), HS6_, HS7_, HS8_, HS9_, HS10_, HS11_, HS12_, HS13_, HS14_, ((HB.out.cell (World.block_lt_of_cell? w _ hw1610_0)).trans hw1610_0), ((HB.out.cell (World.block_lt_of_cell? w _ hw1610_1)).trans hw1610_1), ((HB.out.cell (World.block_lt_of_cell? w _ hw1610_2)).trans hw1610_2), ((HB.out.cell (World.block_lt_of_cell? w _ hw1610_3)).trans hw1610_3), ((HB.out.cell (World.block_lt_of_cell? w _ hw1610_4)).trans hw1610_4), ((HB.out.cell (World.block_lt_of_cell? w _ hw1610_5)).trans hw1610_5)⟩ (fun hH => ?_)
                    clear hK K
                    refine norm_ (a' := ?_) ?_ ?_
                    rotate_left
                    · show Act.put _ (some 36) _ = _
                      exact pz
                    refine oneZ 16 (some 37) (bs 19 131071) (one_of HT_.out (by kernel_rfl)) fun K hK => ?_
                    refine gz Try.func87 #[.agg #[.int .i64 ((rd_T126 l0 x7_2).f1.f0), .int .i64 ((rd_T126 l0 x7_2).f1.f1), .int .i64 ((rd_T126 l0 x7_2).f1.f2)], .agg #[.int .i64 t1611, .int .i64 t1612, .int .i64 t1613]] ?_
                    with_reducible refine (Rf_dot.calls ((rd_T126 l0 x7_2).f1.f0) ((rd_T126 l0 x7_2).f1.f1) ((rd_T126 l0 x7_2).f1.f2) t1611 t1612 t1613 t1614 _ A11.out).mono ?_
                    rintro e w14 ⟨rfl, hb⟩
                    have HS6_ := (hb.cell (World.block_lt_of_cell? _ _ (hH.2.2.2.2.2.2.1))).trans (hH.2.2.2.2.2.2.1)
                    have HS7_ := (hb.cell (World.block_lt_of_cell? _ _ (hH.2.2.2.2.2.2.2.1))).trans (hH.2.2.2.2.2.2.2.1)
                    have HS8_ := (hb.cell (World.block_lt_of_cell? _ _ (hH.2.2.2.2.2.2.2.2.1))).trans (hH.2.2.2.2.2.2.2.2.1)
                    have HS9_ := (hb.cell (World.block_lt_of_cell? _ _ (hH.2.2.2.2.2.2.2.2.2.1))).trans (hH.2.2.2.2.2.2.2.2.2.1)
                    have HS10_ := (hb.cell (World.block_lt_of_cell? _ _ (hH.2.2.2.2.2.2.2.2.2.2.1))).trans (hH.2.2.2.2.2.2.2.2.2.2.1)
                    have HS11_ := (hb.cell (World.block_lt_of_cell? _ _ (hH.2.2.2.2.2.2.2.2.2.2.2.1))).trans (hH.2.2.2.2.2.2.2.2.2.2.2.1)
                    have HS12_ := (hb.cell (World.block_lt_of_cell? _ _ (hH.2.2.2.2.2.2.2.2.2.2.2.2.1))).trans (hH.2.2.2.2.2.2.2.2.2.2.2.2.1)
                    have HS13_ := (hb.cell (World.block_lt_of_cell? _ _ (hH.2.2.2.2.2.2.2.2.2.2.2.2.2.1))).trans (hH.2.2.2.2.2.2.2.2.2.2.2.2.2.1)
                    have HS14_ := (hb.cell (World.block_lt_of_cell? _ _ (hH.2.2.2.2.2.2.2.2.2.2.2.2.2.2.1))).trans (hH.2.2.2.2.2.2.2.2.2.2.2.2.2.2.1)
                    refine ⟨_, rfl, ?_⟩
                    replace HO_3 := rb HO_3 hb; replace HO_4 := rb HO_4 hb; replace HB := sb HB hb
                    (try clear hb)
                    refine hK.out _ _ ⟨((HB.out.cell (World.block_lt_of_cell? w _ hw1608_0)).trans hw1608_0), ((HB.out.cell (World.block_lt_of_cell? w _ hw1608_1)).trans hw1608_1), ((HB.out.cell (World.block_lt_of_cell? w _ hw1608_2)).trans hw1608_2), ((HB.out.cell (World.block_lt_of_cell? w _ hw1608_3)).trans hw1608_3), ((HB.out.cell (World.block_lt_of_cell? w _ hw1608_4)).trans hw1608_4), ((HB.out.cell (World.block_lt_of_cell? w _ hw1608_5)).trans hw1608_5), HS6_, HS7_, HS8_, HS9_, HS10_, HS11_, HS12_, HS13_, HS14_, ((HB.out.cell (World.block_lt_of_cell? w _ hw1610_0)).trans hw1610_0), ((HB.out.cell (World.block_lt_of_cell? w _ hw1610_1)).trans hw1610_1), ((HB.out.cell (World.block_lt_of_cell? w _ hw1610_2)).trans hw1610_2), ((HB.out.cell (World.block_lt_of_cell? w _ hw1610_3)).trans hw1610_3), ((HB.out.cell (World.block_lt_of_cell? w _ hw1610_4)).trans hw1610_4), ((HB.out.cell (World.block_lt_of_cell? w _ hw1610_5)).trans hw1610_5)⟩ (fun hH => ?_)
                    clear hK K
                    refine norm_ (a' := ?_) ?_ ?_
                    rotate_left
                    · show Act.put _ (some 37) _ = _
                      exact pz
                    refine pZ 17 (some 38) (bs 19 262143) HT_ ?_
                    refine pZ 18 (some 6) (bs 19 524287) HT_ ?_
                    refine done_ (done_of HT_.out (by kernel_rfl)) ?_
                    try go_wp2
                    go_roundg k2
                    case measure => have := HK1.out; have := HK2.out; omega
                    case rel => exact ⟨(wrap64 (x6_2 + t1614)), (wrap64 (x7_2 + 1)), (by first | rfl | (simp; done) | (simp [*]; done)), (by first | rfl | (simp; done) | (simp [*]; done)), H', ⟨by have := HK1.out; have := HK2.out; omega⟩, ⟨br HO_3.out⟩, ⟨br HO_4.out⟩, ⟨bz⟩⟩
                  · rw [if_neg c9] at H
                    exact absurd H (by simp)
                · rw [if_neg c8] at H
                  exact absurd H (by simp)
              · rw [if_neg c7] at H
                exact absurd H (by simp)
            · rw [if_neg c6] at H
              have c6b0 := decide_eq_false c6
              clear c6
              by_cases c15 : x4_1.length < 17592186044416
              · rw [if_pos c15] at H
                have LMc15 := m0 c15
                clear c15
                obtain ⟨y1615, hy1615⟩ : ∃ y_ : List Int, y_ = (x4_1 ++ [x6_2]) := ⟨_, rfl⟩
                replace H : (Rf_Scores.l0 k2 l0 t1605 y1615 (wrap64 (x5_1 + 1))) = some r := by first | (rw [hy1615]; with_reducible exact H) | (have H2_ := (Option.bind_some _ _).symm.trans H; rw [hy1615]; with_reducible exact H2_) | (have H2_ := (Option.bind_some _ _).symm.trans H; with_reducible exact H2_) | with_reducible exact H | (rw [hy1615]; exact H) | exact H
                have Ny1615 := m0 hy1615
                clear hy1615
                have H' := m0 H
                clear H
                go_wp2_with (first | ((with_reducible refine gate_builtin (b := .append) (xs := #[.tmp 39, .tmp 41]) rfl ?_); at_builtin; refine Kd.R_append (Kd.int .i64) (w0 := w) w.heap.size rfl (.tmp 39) (.tmp 41) 28 3 (.int .i64 0) 8 rfl Try.underlying28 info3 rfl (by decide) (by omega) u4 x4_1 x6_2 [.int .i64 x6_2] (fun _ => True) (fun _ => False) rfl rfl ?aP (fun _ hk => hk.elim) ?aF ?aO ?aB ?aS ?aL ?_; (case aP => exact rfl); (case aB => exact bz); (case aF => exact (fun _ _ => trivial)); (case aO => exact (br HO_4.out)); (case aS => exact (below_size bz)); (case aL => have := LMc15.out; omega); intro v1616 w16 ho hb hg hat; rw [← Ny1615.out] at ho; have n0_ := m0 (Kd.R_over' (br HO_3.out) (Kd.R_typed (br HO_4.out)) (by decide) hg); have n1_ := m0 (hb); have n2_ := m0 (ho); clear HO_3; clear HB; clear HO_4; have HO_3 := n0_; have HB := n1_; have HO1617 := n2_; clear n0_ n1_ n2_; clear ho hb hg hat))
                go_roundg k2
                case measure => have := HK1.out; have := HK2.out; omega
                case rel => exact ⟨(y1615), (wrap64 (x5_1 + 1)), (by first | rfl | (simp; done) | (simp [*]; done)), H', ⟨by have := HK1.out; have := HK2.out; omega⟩, ⟨br HO_3.out⟩, ⟨br HO1617.out⟩, ⟨bz⟩⟩
              · rw [if_neg c15] at H
                exact absurd H (by simp)
      · rw [if_neg c4] at H
        have c4b0 := decide_eq_false c4
        clear c4
        obtain rfl := Option.some.inj H
        obtain ⟨Ao17, co17, eo17⟩ := Kd.R_slice HO_3.out
        subst eo17
        go_wp2
        go_ret
        exact ⟨_, by first | rfl | (simp [errW_none, errW_some] <;> rfl) | (simp [*, errW_none, errW_some] <;> rfl), by (with_reducible repeat (first | apply Kd.R_alloc | apply Kd.R_drewN | apply Kd.R_drew)); exact HO_4.out, by repeat (first | (with_reducible first | exact HB.out | apply below_alloc | apply pw_below_drewN | apply below_drew1) | exact HB.out)⟩
end
section
def Rf_Pointing.l0 : Nat → List Int → Int → Int → Option (Int)
 | 0, _, _, _ => none
 | k + 1, x0, x3, x4 => if x4 < (x0.length : Int) then (if 0 ≤ x4 then (if 0 ≤ x3 then (if x3 < (x0.length : Int) then (if (rd x0 x4) > (rd x0 x3) then (Rf_Pointing.l0 k x0 x4 (wrap64 (x4 + 1))) else (Rf_Pointing.l0 k x0 x3 (wrap64 (x4 + 1)))) else (none)) else (none)) else (none)) else (some x3)
def Rf_Pointing.f (k : Nat) (l0 : List Int) : Option (Int) := Rf_Pointing.l0 k l0 0 0
theorem Rf_Pointing.mono_l : ∀ k, (∀ y0 y1 y2, LeO (Rf_Pointing.l0 k y0 y1 y2) (Rf_Pointing.l0 (k + 1) y0 y1 y2))
 | 0 => fun _ _ _ r h => by simp [Rf_Pointing.l0] at h
 | k + 1 => by
  have ih0 := Rf_Pointing.mono_l k
  ·intro y0 y1 y2
   unfold Rf_Pointing.l0
   repeat' with_reducible first
    | exact ih0 ..
    | exact LeO.refl ..
    | exact LeO.none ..
    | refine LeO.ite ?_ ?_
    | refine LeO.bind ?_ (fun _ => ?_)
theorem Rf_Pointing.mono : ∀ a0 k, LeO (Rf_Pointing.f k a0) (Rf_Pointing.f (k + 1) a0) := by
 intro a0 k
 have ih0 := Rf_Pointing.mono_l k
 unfold Rf_Pointing.f
 repeat' with_reducible first
  | exact ih0 ..
  | exact LeO.refl ..
  | exact LeO.none ..
  | refine LeO.ite ?_ ?_
  | refine LeO.bind ?_ (fun _ => ?_)
theorem Rf_Pointing.calls (k : Nat) (A0 : Option Addr) (c0 : Nat) (l0 : List Int) (r : Int) (w : World) (hr0 : Kd.C (Kd.int .i64) w A0 l0.length l0) (hc0 : l0.length ≤ c0) (h : Rf_Pointing.f k l0 = some r) :
  Calls Try.prog 69 #[.slice A0 l0.length c0] w fun e w' => e = .returned (.int .i64 r) ∧ Drawn0 w w' := by
 have HR0 := m0 hr0
 have HC0 := m0 hc0
 clear hr0 hc0
 have H : (Rf_Pointing.l0 k l0 0 0) = some r := h
 clear h
 have H' := m0 H
 clear H
 go_enter Try.func69, Try.ntmps69
 go_wp2
 repeat (go_quiet (fail); try go_wp2)
 go_loopg [3, 4] k (fun kq v3 v4 w' => ∃ (x3_1 : Int) (x4_1 : Int), v3 = .int .i64 x3_1 ∧ v4 = .int .i64 x4_1 ∧ Aside0 (Rf_Pointing.l0 kq l0 x3_1 x4_1 = some r) ∧ Aside0 (kq ≤ k) ∧ Drawn0 w w')
 case atStart => exact ⟨(0), (0), (by first | rfl | (simp; done) | (simp [*]; done)), (by first | rfl | (simp; done) | (simp [*]; done)), H', ⟨Nat.le_refl _⟩, by repeat (first | exact Drawn0.refl _ | apply Drawn0.step)⟩
 case round =>
  clear H'
  obtain ⟨x3_1, x4_1, rfl, rfl, HA, HK1, ⟨m1, rfl⟩⟩ := hrel
  cases gk with
  | zero => exact absurd HA.out (by simp [Rf_Pointing.l0])
  | succ k1 =>
   have H := HA.out
   clear HA
   simp only [Rf_Pointing.l0] at H
   by_cases c2 : x4_1 < (l0.length : Int)
   ·rw [if_pos c2] at H
    have c2b0 := decide_eq_true c2
    clear c2
    by_cases c3 : 0 ≤ x4_1
    ·rw [if_pos c3] at H
     have c3b0 := decide_eq_true c3
     clear c3
     by_cases c4 : 0 ≤ x3_1
     ·rw [if_pos c4] at H
      have c4b0 := decide_eq_true c4
      clear c4
      by_cases c5 : x3_1 < (l0.length : Int)
      ·rw [if_pos c5] at H
       have c5b0 := decide_eq_true c5
       clear c5
       by_cases c6 : (rd l0 x4_1) > (rd l0 x3_1)
       ·rw [if_pos c6] at H
        have c6b0 := decide_eq_true c6
        clear c6
        have H' := m0 H
        clear H
        have p1618 : 0 ≤ (x4_1 : Int) := od
        have q1618 : x4_1 < (l0.length : Int) := od
        obtain ⟨ad1618, e1618, hx1618_0⟩ := Kd.at_int HR0.out x4_1 p1618 q1618
        cases e1618
        replace p1618 := eq_true p1618
        replace q1618 := eq_true q1618
        have p1619 : 0 ≤ (x3_1 : Int) := od
        have q1619 : x3_1 < (l0.length : Int) := od
        obtain ⟨ad1619, e1619, hx1619_0⟩ := Kd.at_int HR0.out x3_1 p1619 q1619
        obtain rfl : ad1618 = ad1619 := (by injection e1619)
        replace p1619 := eq_true p1619
        replace q1619 := eq_true q1619
        go_wp2
        repeat (go_quiet (fail); try go_wp2)
        go_roundg k1
        case measure => have := HK1.out; omega
        case rel => exact ⟨(x4_1), (wrap64 (x4_1 + 1)), (by first | rfl | (simp; done) | (simp [*]; done)), (by first | rfl | (simp; done) | (simp [*]; done)), H', ⟨by have := HK1.out; omega⟩, by repeat (first | exact Drawn0.refl _ | apply Drawn0.step)⟩
       ·rw [if_neg c6] at H
        have c6b0 := decide_eq_false c6
        clear c6
        have H' := m0 H
        clear H
        have p1618 : 0 ≤ (x4_1 : Int) := od
        have q1618 : x4_1 < (l0.length : Int) := od
        obtain ⟨ad1618, e1618, hx1618_0⟩ := Kd.at_int HR0.out x4_1 p1618 q1618
        cases e1618
        replace p1618 := eq_true p1618
        replace q1618 := eq_true q1618
        have p1619 : 0 ≤ (x3_1 : Int) := od
        have q1619 : x3_1 < (l0.length : Int) := od
        obtain ⟨ad1619, e1619, hx1619_0⟩ := Kd.at_int HR0.out x3_1 p1619 q1619
        obtain rfl : ad1618 = ad1619 := (by injection e1619)
        replace p1619 := eq_true p1619
        replace q1619 := eq_true q1619
        go_wp2
        repeat (go_quiet (fail); try go_wp2)
        go_roundg k1
        case measure => have := HK1.out; omega
        case rel => exact ⟨(x3_1), (wrap64 (x4_1 + 1)), (by first | rfl | (simp; done) | (simp [*]; done)), (by first | rfl | (simp; done) | (simp [*]; done)), H', ⟨by have := HK1.out; omega⟩, by repeat (first | exact Drawn0.refl _ | apply Drawn0.step)⟩
      ·rw [if_neg c5] at H
       exact absurd H (by simp)
     ·rw [if_neg c4] at H
      exact absurd H (by simp)
    ·rw [if_neg c3] at H
     exact absurd H (by simp)
   ·rw [if_neg c2] at H
    have c2b0 := decide_eq_false c2
    clear c2
    obtain rfl := Option.some.inj H
    go_wp2
    repeat (go_quiet (fail); try go_wp2)
    go_ret
    exact ⟨by first | rfl | (simp; done) | (simp [*]; done), by repeat (first | exact Drawn0.refl _ | apply Drawn0.step)⟩
end
section
def Rf_IsSure.l0 : Nat → List Int → Int → Int → Int → Option (Bool)
 | 0, _, _, _, _ => none
 | k + 1, x0, x1, x5, x6 => if x6 < (x0.length : Int) then (if x6 = x5 then (Rf_IsSure.l0 k x0 x1 x5 (wrap64 (x6 + 1))) else (if 0 ≤ x5 then (if x5 < (x0.length : Int) then (if 0 ≤ x6 then (if (wrap64 ((rd x0 x5) - (rd x0 x6))) < x1 then (some false) else (Rf_IsSure.l0 k x0 x1 x5 (wrap64 (x6 + 1)))) else (none)) else (none)) else (none))) else (some true)
def Rf_IsSure.f (k : Nat) (l0 : List Int) (a1 : Int) : Option (Bool) := (Rf_Pointing.f k l0).bind fun t1620 => (Rf_IsSure.l0 k l0 a1 t1620 0)
theorem Rf_IsSure.mono_l : ∀ k, (∀ y0 y1 y2 y3, LeO (Rf_IsSure.l0 k y0 y1 y2 y3) (Rf_IsSure.l0 (k + 1) y0 y1 y2 y3))
 | 0 => fun _ _ _ _ r h => by simp [Rf_IsSure.l0] at h
 | k + 1 => by
  have ih0 := Rf_IsSure.mono_l k
  ·intro y0 y1 y2 y3
   unfold Rf_IsSure.l0
   repeat' with_reducible first
    | exact ih0 ..
    | exact Rf_Pointing.mono ..
    | exact LeO.refl ..
    | exact LeO.none ..
    | refine LeO.ite ?_ ?_
    | refine LeO.bind ?_ (fun _ => ?_)
theorem Rf_IsSure.mono : ∀ a0 a1 k, LeO (Rf_IsSure.f k a0 a1) (Rf_IsSure.f (k + 1) a0 a1) := by
 intro a0 a1 k
 have ih0 := Rf_IsSure.mono_l k
 unfold Rf_IsSure.f
 repeat' with_reducible first
  | exact ih0 ..
  | exact Rf_Pointing.mono ..
  | exact LeO.refl ..
  | exact LeO.none ..
  | refine LeO.ite ?_ ?_
  | refine LeO.bind ?_ (fun _ => ?_)
theorem Rf_IsSure.calls (k : Nat) (A0 : Option Addr) (c0 : Nat) (l0 : List Int) (a1 : Int) (r : Bool) (w : World) (hr0 : Kd.C (Kd.int .i64) w A0 l0.length l0) (hc0 : l0.length ≤ c0) (h : Rf_IsSure.f k l0 a1 = some r) :
  Calls Try.prog 70 #[.slice A0 l0.length c0, .int .i64 a1] w fun e w' => e = .returned (.bool r) ∧ Drawn0 w w' := by
 have HR0 := m0 hr0
 have HC0 := m0 hc0
 clear hr0 hc0
 have H : ((Rf_Pointing.f k l0).bind fun t1620 => (Rf_IsSure.l0 k l0 a1 t1620 0)) = some r := h
 clear h
 replace H := ob H
 obtain ⟨t1620, A3, H⟩ := H
 (try dsimp only at H)
 replace A3 := m0 A3
 have H' := m0 H
 clear H
 go_enter Try.func70, Try.ntmps70
 go_wp2_with (first | (go_at_call 69; (with_reducible refine (Rf_Pointing.calls k _ _ l0 t1620 _ ?side1 ?side2 A3.out).mono ?_); (case side1 => repeat (first | exact HR0.out | (with_reducible refine Kd.C_alloc ?_ _) | (with_reducible refine Kd.C_drewN ?_ _) | (with_reducible refine Kd.C_drew ?_))); (case side2 => exact HC0.out); rintro e w' ⟨rfl, ⟨nd, rfl⟩⟩; (try first | exact ⟨rfl, _, World.drewN_drewN _ _ _⟩ | exact ⟨rfl, _, Eq.trans (World.drewN_drewN _ _ _) (congrArg (World.drewN _) (Nat.add_assoc _ _ _))⟩)))
 repeat (go_quiet (first | (go_at_call 69; (with_reducible refine (Rf_Pointing.calls k _ _ l0 t1620 _ ?side1 ?side2 A3.out).mono ?_); (case side1 => repeat (first | exact HR0.out | (with_reducible refine Kd.C_alloc ?_ _) | (with_reducible refine Kd.C_drewN ?_ _) | (with_reducible refine Kd.C_drew ?_))); (case side2 => exact HC0.out); rintro e w' ⟨rfl, ⟨nd, rfl⟩⟩; (try first | exact ⟨rfl, _, World.drewN_drewN _ _ _⟩ | exact ⟨rfl, _, Eq.trans (World.drewN_drewN _ _ _) (congrArg (World.drewN _) (Nat.add_assoc _ _ _))⟩))); try go_wp2_with (first | (go_at_call 69; (with_reducible refine (Rf_Pointing.calls k _ _ l0 t1620 _ ?side1 ?side2 A3.out).mono ?_); (case side1 => repeat (first | exact HR0.out | (with_reducible refine Kd.C_alloc ?_ _) | (with_reducible refine Kd.C_drewN ?_ _) | (with_reducible refine Kd.C_drew ?_))); (case side2 => exact HC0.out); rintro e w' ⟨rfl, ⟨nd, rfl⟩⟩; (try first | exact ⟨rfl, _, World.drewN_drewN _ _ _⟩ | exact ⟨rfl, _, Eq.trans (World.drewN_drewN _ _ _) (congrArg (World.drewN _) (Nat.add_assoc _ _ _))⟩))))
 go_loopg [6] k (fun kq v6 w' => ∃ (x6_1 : Int), v6 = .int .i64 x6_1 ∧ Aside0 (Rf_IsSure.l0 kq l0 a1 t1620 x6_1 = some r) ∧ Aside0 (kq ≤ k) ∧ Drawn0 w w')
 case atStart => exact ⟨(0), (by first | rfl | (simp; done) | (simp [*]; done)), H', ⟨Nat.le_refl _⟩, by repeat (first | exact Drawn0.refl _ | apply Drawn0.step)⟩
 case round =>
  clear H'
  obtain ⟨x6_1, rfl, HA, HK1, ⟨m1, rfl⟩⟩ := hrel
  cases gk with
  | zero => exact absurd HA.out (by simp [Rf_IsSure.l0])
  | succ k1 =>
   have H := HA.out
   clear HA
   simp only [Rf_IsSure.l0] at H
   by_cases c4 : x6_1 < (l0.length : Int)
   ·rw [if_pos c4] at H
    have c4b0 := decide_eq_true c4
    clear c4
    by_cases c5 : x6_1 = t1620
    ·rw [if_pos c5] at H
     have c5b0 := beq_iff_eq.mpr c5
     have c5b1 := bne_eq_false_iff_eq.mpr c5
     clear c5
     have H' := m0 H
     clear H
     go_wp2
     repeat (go_quiet (fail); try go_wp2)
     go_roundg k1
     case measure => have := HK1.out; omega
     case rel => exact ⟨(wrap64 (x6_1 + 1)), (by first | rfl | (simp; done) | (simp [*]; done)), H', ⟨by have := HK1.out; omega⟩, by repeat (first | exact Drawn0.refl _ | apply Drawn0.step)⟩
    ·rw [if_neg c5] at H
     have c5b0 := beq_eq_false_iff_ne.mpr c5
     have c5b1 := bne_iff_ne.mpr c5
     by_cases c6 : 0 ≤ t1620
     ·rw [if_pos c6] at H
      have c6b0 := decide_eq_true c6
      clear c6
      by_cases c7 : t1620 < (l0.length : Int)
      ·rw [if_pos c7] at H
       have c7b0 := decide_eq_true c7
       clear c7
       by_cases c8 : 0 ≤ x6_1
       ·rw [if_pos c8] at H
        have c8b0 := decide_eq_true c8
        clear c8
        by_cases c9 : (wrap64 ((rd l0 t1620) - (rd l0 x6_1))) < a1
        ·rw [if_pos c9] at H
         have c9b0 := decide_eq_true c9
         clear c9
         obtain rfl := Option.some.inj H
         have p1621 : 0 ≤ (t1620 : Int) := od
         have q1621 : t1620 < (l0.length : Int) := od
         obtain ⟨ad1621, e1621, hx1621_0⟩ := Kd.at_int HR0.out t1620 p1621 q1621
         cases e1621
         replace p1621 := eq_true p1621
         replace q1621 := eq_true q1621
         have p1622 : 0 ≤ (x6_1 : Int) := od
         have q1622 : x6_1 < (l0.length : Int) := od
         obtain ⟨ad1622, e1622, hx1622_0⟩ := Kd.at_int HR0.out x6_1 p1622 q1622
         obtain rfl : ad1621 = ad1622 := (by injection e1622)
         replace p1622 := eq_true p1622
         replace q1622 := eq_true q1622
         go_wp2
         repeat (go_quiet (fail); try go_wp2)
         go_ret
         exact ⟨by first | rfl | (simp; done) | (simp [*]; done), by repeat (first | exact Drawn0.refl _ | apply Drawn0.step)⟩
        ·rw [if_neg c9] at H
         have c9b0 := decide_eq_false c9
         clear c9
         have H' := m0 H
         clear H
         have p1621 : 0 ≤ (t1620 : Int) := od
         have q1621 : t1620 < (l0.length : Int) := od
         obtain ⟨ad1621, e1621, hx1621_0⟩ := Kd.at_int HR0.out t1620 p1621 q1621
         cases e1621
         replace p1621 := eq_true p1621
         replace q1621 := eq_true q1621
         have p1622 : 0 ≤ (x6_1 : Int) := od
         have q1622 : x6_1 < (l0.length : Int) := od
         obtain ⟨ad1622, e1622, hx1622_0⟩ := Kd.at_int HR0.out x6_1 p1622 q1622
         obtain rfl : ad1621 = ad1622 := (by injection e1622)
         replace p1622 := eq_true p1622
         replace q1622 := eq_true q1622
         go_wp2
         repeat (go_quiet (fail); try go_wp2)
         go_roundg k1
         case measure => have := HK1.out; omega
         case rel => exact ⟨(wrap64 (x6_1 + 1)), (by first | rfl | (simp; done) | (simp [*]; done)), H', ⟨by have := HK1.out; omega⟩, by repeat (first | exact Drawn0.refl _ | apply Drawn0.step)⟩
       ·rw [if_neg c8] at H
        exact absurd H (by simp)
      ·rw [if_neg c7] at H
       exact absurd H (by simp)
     ·rw [if_neg c6] at H
      exact absurd H (by simp)
   ·rw [if_neg c4] at H
    have c4b0 := decide_eq_false c4
    clear c4
    obtain rfl := Option.some.inj H
    go_wp2
    repeat (go_quiet (fail); try go_wp2)
    go_ret
    exact ⟨by first | rfl | (simp; done) | (simp [*]; done), by repeat (first | exact Drawn0.refl _ | apply Drawn0.step)⟩
end
section
def Lw_TargetPointings.j0 : Nat → Int → Bool → Int → List Int → Bool → Option (Bool)
  | 0, _, _, _, _, _ => none
  | k + 1, x1, x10, x11, x13, x101 => if x101 = true then (none) else ((Bs_Within.f x1 1 100000).bind fun t1650 => (if t1650 = true then (if x11 = 0 then ((Rf_IsSure.f k x13 x1).bind fun t1651 => (some (x10 == t1651))) else (none)) else (if x11 = 2 then (some (!x10)) else (none))))
def Lw_TargetPointings.f (k : Nat) (l0 : List (S126)) (a1 : Int) : Option (Bool) := (Lw_awake.f k).bind fun t1623 => (if t1623 = true then (if (l0.length : Int) > 10 then (some true) else ((Rf_CopySights.f l0).bind fun t1624 => ((L_ScoresOf.f k t1624).bind fun bt1627 => ((Rf_CopySights.f l0).bind fun t1631 => ((L_PointingOf.f k t1631).bind fun bt1634 => ((Rf_CopySights.f l0).bind fun t1637 => ((L_IsSure.f k t1637 a1).bind fun bt1640 => ((Rf_SightsErr.f k l0).bind fun t1642 => (if t1642 = 0 then ((Rf_Scores.f k l0).bind fun t1643 => (if bt1627.2 = 0 then ((Bs_Ints.f k bt1627.1 t1643).bind fun t1646 => (if t1646 = true then (if bt1634.2.2 = 0 then ((Rf_Pointing.f k t1643).bind fun t1647 => (if bt1634.1 = t1647 then ((Rf_Pointing.f k t1643).bind fun t1648 => (if 0 ≤ t1648 then (if t1648 < (t1643.length : Int) then (Lw_TargetPointings.j0 k a1 bt1640.1 bt1640.2 t1643 (bt1634.2.1 != (rd t1643 t1648))) else (none)) else (none))) else (none))) else (none)) else (none))) else (none))) else (if bt1627.2 = t1642 then (if bt1634.2.2 = t1642 then (if bt1640.2 = t1642 then (if (bt1627.1.length : Int) = 0 then (if bt1634.1 = 0 then (if bt1634.2.1 = 0 then (some (!bt1640.1)) else (none)) else (none)) else (none)) else (none)) else (none)) else (none))))))))))) else (none))
theorem Lw_TargetPointings.mono_l : ∀ k, (∀ y0 y1 y2 y3 y4, LeO (Lw_TargetPointings.j0 k y0 y1 y2 y3 y4) (Lw_TargetPointings.j0 (k + 1) y0 y1 y2 y3 y4))
  | 0 => fun _ _ _ _ _ r h => by simp [Lw_TargetPointings.j0] at h
  | k + 1 => by
    have ih0 := Lw_TargetPointings.mono_l k
    · intro y0 y1 y2 y3 y4
      unfold Lw_TargetPointings.j0
      repeat' with_reducible first
        | exact ih0 ..
        | exact Bs_Ints.mono ..
        | exact Lw_awake.mono ..
        | exact Rf_IsSure.mono ..
        | exact Rf_Pointing.mono ..
        | exact Rf_Scores.mono ..
        | exact Rf_SightsErr.mono ..
        | exact L_IsSure.mono ..
        | exact L_PointingOf.mono ..
        | exact L_ScoresOf.mono ..
        | exact LeO.refl ..
        | exact LeO.none ..
        | refine LeO.ite ?_ ?_
        | refine LeO.bind ?_ (fun _ => ?_)
theorem Lw_TargetPointings.mono : ∀ a0 a1 k, LeO (Lw_TargetPointings.f k a0 a1) (Lw_TargetPointings.f (k + 1) a0 a1) := by
  intro a0 a1 k
  have ih0 := Lw_TargetPointings.mono_l k
  unfold Lw_TargetPointings.f
  repeat' with_reducible first
    | exact ih0 ..
    | exact Bs_Ints.mono ..
    | exact Lw_awake.mono ..
    | exact Rf_IsSure.mono ..
    | exact Rf_Pointing.mono ..
    | exact Rf_Scores.mono ..
    | exact Rf_SightsErr.mono ..
    | exact L_IsSure.mono ..
    | exact L_PointingOf.mono ..
    | exact L_ScoresOf.mono ..
    | exact LeO.refl ..
    | exact LeO.none ..
    | refine LeO.ite ?_ ?_
    | refine LeO.bind ?_ (fun _ => ?_)
theorem Lw_TargetPointings.calls (k : Nat) (A0 : Option Addr) (c0 : Nat) (l0 : List (S126)) (a1 : Int) (r : Bool) (w : World) (hr0 : Kd.C k126 w A0 l0.length l0) (hc0 : l0.length ≤ c0) (h : Lw_TargetPointings.f k l0 a1 = some r) :
    Calls Try.prog 12 #[.slice A0 l0.length c0, .int .i64 a1] w fun e w' => e = .returned (.bool r) ∧ Below w.heap.size w w' := by
  have HR0 := m0 hr0
  have HC0 := m0 hc0
  clear hr0 hc0
  have HB := m0 (Below.refl w.heap.size w)
  have H : ((Lw_awake.f k).bind fun t1623 => (if t1623 = true then (if (l0.length : Int) > 10 then (some true) else ((Rf_CopySights.f l0).bind fun t1624 => ((L_ScoresOf.f k t1624).bind fun bt1627 => ((Rf_CopySights.f l0).bind fun t1631 => ((L_PointingOf.f k t1631).bind fun bt1634 => ((Rf_CopySights.f l0).bind fun t1637 => ((L_IsSure.f k t1637 a1).bind fun bt1640 => ((Rf_SightsErr.f k l0).bind fun t1642 => (if t1642 = 0 then ((Rf_Scores.f k l0).bind fun t1643 => (if bt1627.2 = 0 then ((Bs_Ints.f k bt1627.1 t1643).bind fun t1646 => (if t1646 = true then (if bt1634.2.2 = 0 then ((Rf_Pointing.f k t1643).bind fun t1647 => (if bt1634.1 = t1647 then ((Rf_Pointing.f k t1643).bind fun t1648 => (if 0 ≤ t1648 then (if t1648 < (t1643.length : Int) then (Lw_TargetPointings.j0 k a1 bt1640.1 bt1640.2 t1643 (bt1634.2.1 != (rd t1643 t1648))) else (none)) else (none))) else (none))) else (none)) else (none))) else (none))) else (if bt1627.2 = t1642 then (if bt1634.2.2 = t1642 then (if bt1640.2 = t1642 then (if (bt1627.1.length : Int) = 0 then (if bt1634.1 = 0 then (if bt1634.2.1 = 0 then (some (!bt1640.1)) else (none)) else (none)) else (none)) else (none)) else (none)) else (none))))))))))) else (none))) = some r := h
  clear h
  replace H := ob H
  obtain ⟨t1623, A3, H⟩ := H
  (try dsimp only at H)
  replace A3 := m0 A3
  by_cases c4 : t1623 = true
  · subst c4
    rw [if_pos rfl] at H
    by_cases c5 : (l0.length : Int) > 10
    · rw [if_pos c5] at H
      have c5b0 := decide_eq_true c5
      have c5b1 : decide (10 < l0.length) = true := decide_eq_true (by omega)
      clear c5
      obtain rfl := Option.some.inj H
      go_enter Try.func12, Try.ntmps12
      go_wp2_with (first | ((with_reducible refine gate_callee (f := 14) rfl ?_); refine gl (some 14) Try.func14 #[] ?_; (with_reducible refine (Lw_awake.calls k  true _ A3.out).mono ?_); rintro e w6 ⟨rfl, hb⟩; refine ⟨_, rfl, ?_⟩; replace HB := sb HB hb; (try clear hb)))
      go_ret
      exact ez
    · rw [if_neg c5] at H
      have c5b0 := decide_eq_false c5
      have c5b1 : decide (10 < l0.length) = false := decide_eq_false (by omega)
      clear c5
      replace H := ob H
      obtain ⟨t1624, A7, H⟩ := H
      (try dsimp only at H)
      replace A7 := m0 A7
      replace H := ob H
      obtain ⟨⟨t1627, t1628⟩, A8, H⟩ := H
      (try dsimp only at H)
      replace A8 := m0 A8
      replace H := ob H
      obtain ⟨t1631, A9, H⟩ := H
      (try dsimp only at H)
      replace A9 := m0 A9
      replace H := ob H
      obtain ⟨⟨t1634, t1635, t1636⟩, A10, H⟩ := H
      (try dsimp only at H)
      replace A10 := m0 A10
      replace H := ob H
      obtain ⟨t1637, A11, H⟩ := H
      (try dsimp only at H)
      replace A11 := m0 A11
      replace H := ob H
      obtain ⟨⟨t1640, t1641⟩, A12, H⟩ := H
      (try dsimp only at H)
      replace A12 := m0 A12
      replace H := ob H
      obtain ⟨t1642, A13, H⟩ := H
      (try dsimp only at H)
      replace A13 := m0 A13
      by_cases c14 : t1642 = 0
      · rw [if_pos c14] at H
        have c14b0 := beq_iff_eq.mpr c14
        have c14b1 := bne_eq_false_iff_eq.mpr c14
        clear c14
        replace H := ob H
        obtain ⟨t1643, A15, H⟩ := H
        (try dsimp only at H)
        replace A15 := m0 A15
        have HC16 := m0 H
        clear H
        go_enter Try.func12, Try.ntmps12
        go_upto_region 12 with (first | ((with_reducible refine gate_callee (f := 14) rfl ?_); refine gl (some 14) Try.func14 #[] ?_; (with_reducible refine (Lw_awake.calls k  true _ A3.out).mono ?_); rintro e w17 ⟨rfl, hb⟩; refine ⟨_, rfl, ?_⟩; replace HB := sb HB hb; (try clear hb)) | ((with_reducible refine gate_callee (f := 64) rfl ?_); refine gl (some 21) Try.func64 #[.slice A0 l0.length c0] ?_; (with_reducible refine (Rf_CopySights.calls _ _ l0 t1624 _ ?side1 ?side2 A7.out).mono ?_); (case side1 => exact cb HR0 HB); (case side2 => exact HC0.out); rintro e w18 ⟨v1625, rfl, ho0, hb⟩; refine ⟨_, rfl, ?_⟩; have HO1626 := m0 (Kd.R_lower ho0 (below_size bz)); replace HB := sb HB hb; (try clear hb); (try clear ho0); obtain ⟨Ao19, co19, eo19⟩ := Kd.R_slice HO1626.out; subst eo19) | ((with_reducible refine gate_callee (f := 63) rfl ?_); refine gl (some 22) Try.func63 #[.slice Ao19 t1624.length co19] ?_; (with_reducible refine (L_ScoresOf.calls k _ _ t1624 t1627 t1628 _ ?side1 ?side2 A8.out).mono ?_); (case side1 => exact bc (Kd.R_reads' HO1626.out).2.2); (case side2 => exact (Kd.R_reads' HO1626.out).2.1); rintro e w20 ⟨v1629, rfl, ho0, hb⟩; refine ⟨_, rfl, ?_⟩; replace HO1626 := rb HO1626 hb; have HO1630 := m0 (Kd.R_lower ho0 (below_size bz)); replace HB := sb HB hb; (try clear hb); (try clear ho0)) | ((with_reducible refine gate_callee (f := 64) rfl ?_); refine gl (some 27) Try.func64 #[.slice A0 l0.length c0] ?_; (with_reducible refine (Rf_CopySights.calls _ _ l0 t1631 _ ?side1 ?side2 A9.out).mono ?_); (case side1 => exact cb HR0 HB); (case side2 => exact HC0.out); rintro e w21 ⟨v1632, rfl, ho0, hb⟩; refine ⟨_, rfl, ?_⟩; replace HO1630 := rb HO1630 hb; have HO1633 := m0 (Kd.R_lower (Kd.R_new' ho0 (Kd.R_lt (br HO1626.out))) (below_size bz)); replace HO1626 := m0 (Kd.R_elder' (br HO1626.out) (Kd.R_base ho0) hb); replace HB := sb HB hb; (try clear hb); (try clear ho0); obtain ⟨Ao22, co22, eo22⟩ := Kd.R_slice HO1633.out; subst eo22) | ((with_reducible refine gate_callee (f := 65) rfl ?_); refine gl (some 28) Try.func65 #[.slice Ao22 t1631.length co22] ?_; (with_reducible refine (L_PointingOf.calls k _ _ t1631 t1634 t1635 t1636 _ ?side1 ?side2 A10.out).mono ?_); (case side1 => exact bc (Kd.R_reads' HO1633.out).2.2); (case side2 => exact (Kd.R_reads' HO1633.out).2.1); rintro e w23 ⟨rfl, hb⟩; refine ⟨_, rfl, ?_⟩; replace HO1626 := rb HO1626 hb; replace HO1630 := rb HO1630 hb; replace HO1633 := rb HO1633 hb; replace HB := sb HB hb; (try clear hb)) | ((with_reducible refine gate_callee (f := 64) rfl ?_); refine gl (some 34) Try.func64 #[.slice A0 l0.length c0] ?_; (with_reducible refine (Rf_CopySights.calls _ _ l0 t1637 _ ?side1 ?side2 A11.out).mono ?_); (case side1 => exact cb HR0 HB); (case side2 => exact HC0.out); rintro e w24 ⟨v1638, rfl, ho0, hb⟩; refine ⟨_, rfl, ?_⟩; replace HO1630 := rb HO1630 hb; have HO1639 := m0 (Kd.R_lower (Kd.R_new' (Kd.R_new' ho0 (Kd.R_lt (br HO1626.out))) (Kd.R_lt (br HO1633.out))) (below_size bz)); replace HO1626 := m0 (Kd.R_elder' (br HO1626.out) (Kd.R_base ho0) hb); replace HO1633 := m0 (Kd.R_elder' (br HO1633.out) (Kd.R_base ho0) hb); replace HB := sb HB hb; (try clear hb); (try clear ho0); obtain ⟨Ao25, co25, eo25⟩ := Kd.R_slice HO1639.out; subst eo25) | ((with_reducible refine gate_callee (f := 66) rfl ?_); refine gl (some 36) Try.func66 #[.slice Ao25 t1637.length co25, .int .i64 a1] ?_; (with_reducible refine (L_IsSure.calls k _ _ t1637 a1 t1640 t1641 _ ?side1 ?side2 A12.out).mono ?_); (case side1 => exact bc (Kd.R_reads' HO1639.out).2.2); (case side2 => exact (Kd.R_reads' HO1639.out).2.1); rintro e w26 ⟨rfl, hb⟩; refine ⟨_, rfl, ?_⟩; replace HO1626 := rb HO1626 hb; replace HO1630 := rb HO1630 hb; replace HO1633 := rb HO1633 hb; replace HO1639 := rb HO1639 hb; replace HB := sb HB hb; (try clear hb)) | ((with_reducible refine gate_callee (f := 67) rfl ?_); refine gl (some 40) Try.func67 #[.slice A0 l0.length c0] ?_; (with_reducible refine (Rf_SightsErr.calls k _ _ l0 t1642 _ ?side1 ?side2 A13.out).mono ?_); (case side1 => exact cb HR0 HB); (case side2 => exact HC0.out); rintro e w27 ⟨rfl, hb⟩; refine ⟨_, rfl, ?_⟩; replace HO1626 := rb HO1626 hb; replace HO1630 := rb HO1630 hb; replace HO1633 := rb HO1633 hb; replace HO1639 := rb HO1639 hb; replace HB := sb HB hb; (try clear hb)) | ((with_reducible refine gate_callee (f := 68) rfl ?_); refine gl (some 74) Try.func68 #[.slice A0 l0.length c0] ?_; (with_reducible refine (Rf_Scores.calls k _ _ l0 t1643 _ ?side1 ?side2 A15.out).mono ?_); (case side1 => exact cb HR0 HB); (case side2 => exact HC0.out); rintro e w28 ⟨v1644, rfl, ho0, hb⟩; refine ⟨_, rfl, ?_⟩; replace HO1626 := rb HO1626 hb; replace HO1633 := rb HO1633 hb; replace HO1639 := rb HO1639 hb; have HO1645 := m0 (Kd.R_lower (Kd.R_new' ho0 (Kd.R_lt (br HO1630.out))) (below_size bz)); replace HO1630 := m0 (Kd.R_elder' (br HO1630.out) (Kd.R_base ho0) hb); replace HB := sb HB hb; (try clear hb); (try clear ho0)))
        (try simp only [Act.put, List.setIfInBounds_toArray, List.set_cons_zero, List.set_cons_succ])
        go_cut [101] (fun v101 wc => ∃ (kq : Nat) (x101_15 : Bool), v101 = .bool x101_15 ∧ Aside0 (Lw_TargetPointings.j0 kq a1 t1640 t1641 t1643 x101_15 = some r) ∧ Aside0 (kq ≤ k) ∧ Aside0 (Kd.R (Kd.int .i64) 3 wc w.heap.size (fun _ => True) v1644 t1643) ∧ Aside0 (Below w.heap.size w wc))
        case first =>
          have H := HC16.out
          clear HC16
          by_cases c29 : t1628 = 0
          · rw [if_pos c29] at H
            have c29b0 := beq_iff_eq.mpr c29
            have c29b1 := bne_eq_false_iff_eq.mpr c29
            clear c29
            (first | rw [c29b0] | (simp only [i64_w, i32_w]; rw [c29b0]) | skip)
            replace H := ob H
            obtain ⟨t1646, A30, H⟩ := H
            (try dsimp only at H)
            replace A30 := m0 A30
            by_cases c31 : t1646 = true
            · subst c31
              rw [if_pos rfl] at H
              by_cases c32 : t1636 = 0
              · rw [if_pos c32] at H
                have c32b0 := beq_iff_eq.mpr c32
                have c32b1 := bne_eq_false_iff_eq.mpr c32
                clear c32
                replace H := ob H
                obtain ⟨t1647, A33, H⟩ := H
                (try dsimp only at H)
                replace A33 := m0 A33
                by_cases c34 : t1634 = t1647
                · rw [if_pos c34] at H
                  have c34b0 := beq_iff_eq.mpr c34
                  have c34b1 := bne_eq_false_iff_eq.mpr c34
                  clear c34
                  replace H := ob H
                  obtain ⟨t1648, A350, H⟩ := H
                  obtain rfl : t1647 = t1648 := Option.some.inj (A33.out.symm.trans A350)
                  (try dsimp only at H)
                  have A35 := m0 A350
                  clear A350
                  by_cases c36 : 0 ≤ t1647
                  · rw [if_pos c36] at H
                    have c36b0 := decide_eq_true c36
                    clear c36
                    by_cases c37 : t1647 < (t1643.length : Int)
                    · rw [if_pos c37] at H
                      have c37b0 := decide_eq_true c37
                      clear c37
                      have H' := m0 H
                      clear H
                      obtain ⟨Ao38, co38, eo38⟩ := Kd.R_slice HO1630.out
                      subst eo38
                      obtain ⟨Ao39, co39, eo39⟩ := Kd.R_slice HO1645.out
                      subst eo39
                      have p_ : 0 ≤ (t1647 : Int) := of_decide_eq_true c36b0
                      have q_ : t1647 < (t1643.length : Int) := of_decide_eq_true c37b0
                      obtain ⟨ad_, e_, hx_⟩ := Kd.at_int (Kd.R_reads' HO1645.out).2.2 t1647 p_ q_
                      cases e_
                      replace p_ := eq_true p_
                      replace q_ := eq_true q_
                      go_wp2_with (first | (go_at_call 21; (with_reducible refine (Bs_Ints.calls k _ _ t1627 _ _ t1643 true _ ?side1 ?side2 ?side3 ?side4 A30.out).mono ?_); (case side1 => exact bc (Kd.R_reads' HO1630.out).2.2); (case side2 => exact (Kd.R_reads' HO1630.out).2.1); (case side3 => exact bc (Kd.R_reads' HO1645.out).2.2); (case side4 => exact (Kd.R_reads' HO1645.out).2.1); rintro e w' ⟨rfl, ⟨nd, rfl⟩⟩) | (go_at_call 69; (with_reducible refine (Rf_Pointing.calls k _ _ t1643 t1647 _ ?side1 ?side2 A33.out).mono ?_); (case side1 => exact bc (Kd.R_reads' HO1645.out).2.2); (case side2 => exact (Kd.R_reads' HO1645.out).2.1); rintro e w' ⟨rfl, ⟨nd, rfl⟩⟩) | (go_at_call 69; (with_reducible refine (Rf_Pointing.calls k _ _ t1643 t1647 _ ?side1 ?side2 A35.out).mono ?_); (case side1 => exact bc (Kd.R_reads' HO1645.out).2.2); (case side2 => exact (Kd.R_reads' HO1645.out).2.1); rintro e w' ⟨rfl, ⟨nd, rfl⟩⟩; have p1649 : 0 ≤ (t1647 : Int) := od; have q1649 : t1647 < (t1643.length : Int) := od; obtain ⟨ad1649, e1649, hx1649_0⟩ := Kd.at_int (Kd.R_reads' HO1645.out).2.2 t1647 p1649 q1649; cases e1649; replace p1649 := eq_true p1649; replace q1649 := eq_true q1649))
                      go_meet
                      case rel => exact ⟨_, ((t1635 != (rd t1643 t1647))), (by first | rfl | (simp; done) | (simp [*]; done)), H', ⟨by first | omega | exact Nat.le_refl _⟩, ⟨by (with_reducible repeat (first | apply Kd.R_alloc | apply Kd.R_drewN | apply Kd.R_drew)); exact Kd.R_mono HO1645.out (fun _ hk => trivial)⟩, ⟨bz⟩⟩
                    · rw [if_neg c37] at H
                      exact absurd H (by simp)
                  · rw [if_neg c36] at H
                    exact absurd H (by simp)
                · rw [if_neg c34] at H
                  exact absurd H (by simp)
              · rw [if_neg c32] at H
                exact absurd H (by simp)
            · replace c31 := Bool.eq_false_iff.mpr c31
              subst c31
              rw [if_neg (show ¬ (false = true) by decide)] at H
              exact absurd H (by simp)
          · rw [if_neg c29] at H
            exact absurd H (by simp)
        case rest =>
          clear HC16
          try clear hx1
          try clear hx16
          try clear hx1649_0
          obtain ⟨kq, x101_15, rfl, HA, HJ15, HO_13, HB⟩ := hcut
          cases kq with
          | zero => exact absurd HA.out (by simp [Lw_TargetPointings.j0])
          | succ kj15 =>
            have H := HA.out
            clear HA
            simp only [Lw_TargetPointings.j0] at H
            by_cases c40 : x101_15 = true
            · subst c40
              rw [if_pos rfl] at H
              exact absurd H (by simp)
            · replace c40 := Bool.eq_false_iff.mpr c40
              subst c40
              rw [if_neg (show ¬ (false = true) by decide)] at H
              replace H := ob H
              obtain ⟨t1650, A41, H⟩ := H
              (try dsimp only at H)
              replace A41 := m0 A41
              by_cases c42 : t1650 = true
              · subst c42
                rw [if_pos rfl] at H
                by_cases c43 : t1641 = 0
                · rw [if_pos c43] at H
                  have c43b0 := beq_iff_eq.mpr c43
                  have c43b1 := bne_eq_false_iff_eq.mpr c43
                  clear c43
                  replace H := ob H
                  obtain ⟨t1651, A44, H⟩ := H
                  (try dsimp only at H)
                  replace A44 := m0 A44
                  obtain rfl := Option.some.inj H
                  go_wp2_with (first | ((with_reducible refine gate_callee (f := 24) rfl ?_); refine gl (some 103) Try.func24 #[.int .i64 a1, .int .i64 1, .int .i64 100000] ?_; (with_reducible refine (Bs_Within.calls a1 1 100000 true _ A41.out).mono ?_); rintro e w' ⟨rfl, ⟨nd, rfl⟩⟩; refine ⟨_, rfl, ?_⟩; obtain ⟨Ao45, co45, eo45⟩ := Kd.R_slice HO_13.out; subst eo45) | (go_at_call 70; (with_reducible refine (Rf_IsSure.calls kj15 _ _ t1643 a1 t1651 _ ?side1 ?side2 A44.out).mono ?_); (case side1 => exact bc (Kd.R_reads' HO_13.out).2.2); (case side2 => exact (Kd.R_reads' HO_13.out).2.1); rintro e w' ⟨rfl, ⟨nd, rfl⟩⟩))
                  go_ret
                  exact ez
                · rw [if_neg c43] at H
                  exact absurd H (by simp)
              · replace c42 := Bool.eq_false_iff.mpr c42
                subst c42
                rw [if_neg (show ¬ (false = true) by decide)] at H
                by_cases c46 : t1641 = 2
                · rw [if_pos c46] at H
                  have c46b0 := beq_iff_eq.mpr c46
                  have c46b1 := bne_eq_false_iff_eq.mpr c46
                  clear c46
                  obtain rfl := Option.some.inj H
                  go_wp2_with (first | ((with_reducible refine gate_callee (f := 24) rfl ?_); refine gl (some 103) Try.func24 #[.int .i64 a1, .int .i64 1, .int .i64 100000] ?_; (with_reducible refine (Bs_Within.calls a1 1 100000 false _ A41.out).mono ?_); rintro e w' ⟨rfl, ⟨nd, rfl⟩⟩; refine ⟨_, rfl, ?_⟩))
                  go_ret
                  exact ez
                · rw [if_neg c46] at H
                  exact absurd H (by simp)
      · rw [if_neg c14] at H
        have c14b0 := beq_eq_false_iff_ne.mpr c14
        have c14b1 := bne_iff_ne.mpr c14
        by_cases c47 : t1628 = t1642
        · rw [if_pos c47] at H
          have c47b0 := beq_iff_eq.mpr c47
          have c47b1 := bne_eq_false_iff_eq.mpr c47
          clear c47
          by_cases c48 : t1636 = t1642
          · rw [if_pos c48] at H
            have c48b0 := beq_iff_eq.mpr c48
            have c48b1 := bne_eq_false_iff_eq.mpr c48
            clear c48
            by_cases c49 : t1641 = t1642
            · rw [if_pos c49] at H
              have c49b0 := beq_iff_eq.mpr c49
              have c49b1 := bne_eq_false_iff_eq.mpr c49
              clear c49
              by_cases c50 : (t1627.length : Int) = 0
              · rw [if_pos c50] at H
                have c50b0 := beq_iff_eq.mpr c50
                have c50b1 := bne_eq_false_iff_eq.mpr c50
                clear c50
                by_cases c51 : t1634 = 0
                · rw [if_pos c51] at H
                  have c51b0 := beq_iff_eq.mpr c51
                  have c51b1 := bne_eq_false_iff_eq.mpr c51
                  clear c51
                  by_cases c52 : t1635 = 0
                  · rw [if_pos c52] at H
                    have c52b0 := beq_iff_eq.mpr c52
                    have c52b1 := bne_eq_false_iff_eq.mpr c52
                    clear c52
                    obtain rfl := Option.some.inj H
                    go_enter Try.func12, Try.ntmps12
                    go_wp2_with (first | ((with_reducible refine gate_callee (f := 14) rfl ?_); refine gl (some 14) Try.func14 #[] ?_; (with_reducible refine (Lw_awake.calls k  true _ A3.out).mono ?_); rintro e w53 ⟨rfl, hb⟩; refine ⟨_, rfl, ?_⟩; replace HB := sb HB hb; (try clear hb)) | ((with_reducible refine gate_callee (f := 64) rfl ?_); refine gl (some 21) Try.func64 #[.slice A0 l0.length c0] ?_; (with_reducible refine (Rf_CopySights.calls _ _ l0 t1624 _ ?side1 ?side2 A7.out).mono ?_); (case side1 => exact cb HR0 HB); (case side2 => exact HC0.out); rintro e w54 ⟨v1625, rfl, ho0, hb⟩; refine ⟨_, rfl, ?_⟩; have HO1626 := m0 (Kd.R_lower ho0 (below_size bz)); replace HB := sb HB hb; (try clear hb); (try clear ho0); obtain ⟨Ao55, co55, eo55⟩ := Kd.R_slice HO1626.out; subst eo55) | ((with_reducible refine gate_callee (f := 63) rfl ?_); refine gl (some 22) Try.func63 #[.slice Ao55 t1624.length co55] ?_; (with_reducible refine (L_ScoresOf.calls k _ _ t1624 t1627 t1628 _ ?side1 ?side2 A8.out).mono ?_); (case side1 => exact bc (Kd.R_reads' HO1626.out).2.2); (case side2 => exact (Kd.R_reads' HO1626.out).2.1); rintro e w56 ⟨v1629, rfl, ho0, hb⟩; refine ⟨_, rfl, ?_⟩; replace HO1626 := rb HO1626 hb; have HO1630 := m0 (Kd.R_lower ho0 (below_size bz)); replace HB := sb HB hb; (try clear hb); (try clear ho0)) | ((with_reducible refine gate_callee (f := 64) rfl ?_); refine gl (some 27) Try.func64 #[.slice A0 l0.length c0] ?_; (with_reducible refine (Rf_CopySights.calls _ _ l0 t1631 _ ?side1 ?side2 A9.out).mono ?_); (case side1 => exact cb HR0 HB); (case side2 => exact HC0.out); rintro e w57 ⟨v1632, rfl, ho0, hb⟩; refine ⟨_, rfl, ?_⟩; replace HO1630 := rb HO1630 hb; have HO1633 := m0 (Kd.R_lower (Kd.R_new' ho0 (Kd.R_lt (br HO1626.out))) (below_size bz)); replace HO1626 := m0 (Kd.R_elder' (br HO1626.out) (Kd.R_base ho0) hb); replace HB := sb HB hb; (try clear hb); (try clear ho0); obtain ⟨Ao58, co58, eo58⟩ := Kd.R_slice HO1633.out; subst eo58) | ((with_reducible refine gate_callee (f := 65) rfl ?_); refine gl (some 28) Try.func65 #[.slice Ao58 t1631.length co58] ?_; (with_reducible refine (L_PointingOf.calls k _ _ t1631 t1634 t1635 t1636 _ ?side1 ?side2 A10.out).mono ?_); (case side1 => exact bc (Kd.R_reads' HO1633.out).2.2); (case side2 => exact (Kd.R_reads' HO1633.out).2.1); rintro e w59 ⟨rfl, hb⟩; refine ⟨_, rfl, ?_⟩; replace HO1626 := rb HO1626 hb; replace HO1630 := rb HO1630 hb; replace HO1633 := rb HO1633 hb; replace HB := sb HB hb; (try clear hb)) | ((with_reducible refine gate_callee (f := 64) rfl ?_); refine gl (some 34) Try.func64 #[.slice A0 l0.length c0] ?_; (with_reducible refine (Rf_CopySights.calls _ _ l0 t1637 _ ?side1 ?side2 A11.out).mono ?_); (case side1 => exact cb HR0 HB); (case side2 => exact HC0.out); rintro e w60 ⟨v1638, rfl, ho0, hb⟩; refine ⟨_, rfl, ?_⟩; replace HO1630 := rb HO1630 hb; have HO1639 := m0 (Kd.R_lower (Kd.R_new' (Kd.R_new' ho0 (Kd.R_lt (br HO1626.out))) (Kd.R_lt (br HO1633.out))) (below_size bz)); replace HO1626 := m0 (Kd.R_elder' (br HO1626.out) (Kd.R_base ho0) hb); replace HO1633 := m0 (Kd.R_elder' (br HO1633.out) (Kd.R_base ho0) hb); replace HB := sb HB hb; (try clear hb); (try clear ho0); obtain ⟨Ao61, co61, eo61⟩ := Kd.R_slice HO1639.out; subst eo61) | ((with_reducible refine gate_callee (f := 66) rfl ?_); refine gl (some 36) Try.func66 #[.slice Ao61 t1637.length co61, .int .i64 a1] ?_; (with_reducible refine (L_IsSure.calls k _ _ t1637 a1 t1640 t1641 _ ?side1 ?side2 A12.out).mono ?_); (case side1 => exact bc (Kd.R_reads' HO1639.out).2.2); (case side2 => exact (Kd.R_reads' HO1639.out).2.1); rintro e w62 ⟨rfl, hb⟩; refine ⟨_, rfl, ?_⟩; replace HO1626 := rb HO1626 hb; replace HO1630 := rb HO1630 hb; replace HO1633 := rb HO1633 hb; replace HO1639 := rb HO1639 hb; replace HB := sb HB hb; (try clear hb)) | ((with_reducible refine gate_callee (f := 67) rfl ?_); refine gl (some 40) Try.func67 #[.slice A0 l0.length c0] ?_; (with_reducible refine (Rf_SightsErr.calls k _ _ l0 t1642 _ ?side1 ?side2 A13.out).mono ?_); (case side1 => exact cb HR0 HB); (case side2 => exact HC0.out); rintro e w63 ⟨rfl, hb⟩; refine ⟨_, rfl, ?_⟩; replace HO1626 := rb HO1626 hb; replace HO1630 := rb HO1630 hb; replace HO1633 := rb HO1633 hb; replace HO1639 := rb HO1639 hb; replace HB := sb HB hb; (try clear hb); obtain ⟨Ao64, co64, eo64⟩ := Kd.R_slice HO1630.out; subst eo64))
                    go_ret
                    exact ez
                  · rw [if_neg c52] at H
                    exact absurd H (by simp)
                · rw [if_neg c51] at H
                  exact absurd H (by simp)
              · rw [if_neg c50] at H
                exact absurd H (by simp)
            · rw [if_neg c49] at H
              exact absurd H (by simp)
          · rw [if_neg c48] at H
            exact absurd H (by simp)
        · rw [if_neg c47] at H
          exact absurd H (by simp)
  · replace c4 := Bool.eq_false_iff.mpr c4
    subst c4
    rw [if_neg (show ¬ (false = true) by decide)] at H
    exact absurd H (by simp)
end
end Go.Proofs.Ytibhfahbabgbaaa.A
