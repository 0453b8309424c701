/- Walks of the program's functions (printed, made shorter), each with what it computes. -/
import Derived.Test.YtjnkphmcndaijaaDoorKep04
import Derived.Test.YtjnkphmcndaijaaDoorKep03
import Derived.Test.YtjnkphmcndaijaaDoorKep13
namespace Go.Proofs.YtjnkphmcndaijaaDoor.A
set_option maxHeartbeats 8000000
set_option maxRecDepth 100000
open Go.RowKit Go.Proofs.YtjnkphmcndaijaaDoorW.PrintWords Go.Proofs.YtjnkphmcndaijaaDoorW.PrintLast Go.Proofs.YtjnkphmcndaijaaDoorW.PrintMore
attribute [local go_sem] max2_int min2_int max_two min_two max_three min_three max_four min_four
set_option linter.unusedVariables false
set_option linter.unusedSimpArgs false
section
def Rf_Noisy.l0 : Nat → List Int → Int → List Int → Int → List Int → Option (List Int)
 | 0, _, _, _, _, _ => none
 | k + 1, x0, x2, x7, x8, x463000 => if x8 < (x0.length : Int) then (if 0 ≤ x8 then (if (x463000.length : Int) = 0 then (none) else (if 0 ≤ (Int.tmod x2 (x463000.length : Int)) then (if (Int.tmod x2 (x463000.length : Int)) < (x463000.length : Int) then (if x7.length < 17592186044416 then (Rf_Noisy.l0 k x0 (wrap64 (Int.tdiv x2 (x463000.length : Int))) (x7 ++ [wrap64 ((rd x0 x8) + (rd x463000 (Int.tmod x2 (x463000.length : Int))))]) (wrap64 (x8 + 1)) x463000) else (none)) else (none)) else (none))) else (none)) else (some x7)
def Rf_Noisy.f (k : Nat) (l0 : List Int) (l1_0 : List Int) (a2 : Int) : Option (List Int) := Rf_Noisy.l0 k l0 a2 ([] : List Int) 0 l1_0
theorem Rf_Noisy.mono_l : ∀ k, (∀ y0 y1 y2 y3 y4, LeO (Rf_Noisy.l0 k y0 y1 y2 y3 y4) (Rf_Noisy.l0 (k + 1) y0 y1 y2 y3 y4))
 | 0 => fun _ _ _ _ _ r h => by simp [Rf_Noisy.l0] at h
 | k + 1 => by
  have ih0 := Rf_Noisy.mono_l k
  ·intro y0 y1 y2 y3 y4
   unfold Rf_Noisy.l0
   repeat' first
   | (with_reducible exact ih0 _ _ _ _ _)
   | (with_reducible exact LeO.refl _)
   | (with_reducible exact LeO.none _)
   | (with_reducible refine LeO.ite ?_ ?_)
   | (with_reducible refine LeO.bind ?_ (fun _ => ?_))
   | exact ih0 _ _ _ _ _
   | exact LeO.none _
   | refine LeO.ite ?_ ?_
   | refine LeO.bind ?_ (fun _ => ?_)
theorem Rf_Noisy.mono : ∀ a0 a1 a2 k, LeO (Rf_Noisy.f k a0 a1 a2) (Rf_Noisy.f (k + 1) a0 a1 a2) := by
 intro a0 a1 a2 k
 have ih0 := Rf_Noisy.mono_l k
 unfold Rf_Noisy.f
 repeat' first
   | (with_reducible exact ih0 _ _ _ _ _)
   | (with_reducible exact LeO.refl _)
   | (with_reducible exact LeO.none _)
   | (with_reducible refine LeO.ite ?_ ?_)
   | (with_reducible refine LeO.bind ?_ (fun _ => ?_))
   | exact ih0 _ _ _ _ _
   | exact LeO.none _
   | refine LeO.ite ?_ ?_
   | refine LeO.bind ?_ (fun _ => ?_)
def Rf_Noisy.T5 : Bool × List (List Nat × List Nat) := (true, [([], []), ([], []), ([], []), ([1, 2], [1, 2]), ([3], [3]), ([], []), ([5], [5]), ([], []), ([], []), ([8], [8]), ([9], [9]), ([7, 10], [7, 10]), ([6, 11], [6, 11]), ([12], [12]), ([4, 13], [4, 13]), ([14], [14]), ([0, 15], [0, 15]), ([16, 16, 0, 1, 2, 3, 4, 5, 6, 7, 8, 9, 10, 11, 12, 13, 14, 15, 16], [0, 16])])
def Rf_Noisy.B5 : List Nat := [0, 0, 0, 6, 14, 0, 32, 0, 0, 256, 768, 1920, 4064, 8160, 16382, 32766, 65535, 131071]
theorem Rf_Noisy.tab5 : rtab .any (opsOf Tryd.f58 5) = Rf_Noisy.T5 := by kernel_rfl
theorem Rf_Noisy.bits5 : waitsOk Rf_Noisy.T5.2 Rf_Noisy.B5 = true := by kernel_rfl
theorem Rf_Noisy.calls (k : Nat) (A0 : Option Addr) (c0 : Nat) (l0 : List Int) (A1_0 : Option Addr) (c1_0 : Nat) (l1_0 : List Int) (a2 : Int) (r : List Int) (w : World) (hr0 : Kd.C (Kd.int .i64) w A0 l0.length l0) (hc0 : l0.length ≤ c0) (hr1_0 : Kd.C (Kd.int .i64) w A1_0 l1_0.length l1_0) (hc1_0 : l1_0.length ≤ c1_0) (h : Rf_Noisy.f k l0 l1_0 a2 = some r) :
  Calls Tryd.prog 58 #[.slice A0 l0.length c0, .agg #[.slice A1_0 l1_0.length c1_0], .int .i64 a2] w fun e w' => ∃ v0_ : Value, e = .returned (v0_) ∧ Kd.R (Kd.int .i64) 3 w' w.heap.size (fun _ => True) v0_ r ∧ Below w.heap.size w w' := by
 have hu24 := Tryd.underlying24
 have HR0 := m0 hr0
 have HC0 := m0 hc0
 clear hr0 hc0
 have HR1_0 := m0 hr1_0
 have HC1_0 := m0 hc1_0
 clear hr1_0 hc1_0
 have HB := m0 (Below.refl w.heap.size w)
 have H : (Rf_Noisy.l0 k l0 a2 ([] : List Int) 0 l1_0) = some r := h
 clear h
 have H' := m0 H
 clear H
 go_enter Tryd.func58, Tryd.ntmps58
 go_wp2_with (first | ((with_reducible refine gate_dst (N := 4) rfl ?_); refine be 4 24 #[.slice A1_0 l1_0.length c1_0] ?_; intro gb462 hg w4 hbox hb; have BK462 := m0 hbox; have GW462 := m0 (bg (n := w.heap.size) hg); have GE462 := m0 (bg (n := w.heap.size) hg); replace HB := sb HB hb; clear hb hbox hg))
 go_loopg [2, 7, 8] k (fun kq v2 v7 v8 w' => ∃ (x2_1 : Int) (x7_1 : List Int) (x8_1 : Int), v2 = .int .i64 x2_1 ∧ v8 = .int .i64 x8_1 ∧ Aside0 (Rf_Noisy.l0 kq l0 x2_1 x7_1 x8_1 l1_0 = some r) ∧ Aside0 (kq ≤ k) ∧ Aside0 (Kd.R (Kd.int .i64) 3 w' w.heap.size (fun _ => True) v7 x7_1) ∧ Aside0 (w'.heap[gb462]? = some (.cells #[(.slice A1_0 l1_0.length c1_0)] 24 (0, 0))) ∧ Aside0 (Below w.heap.size w w'))
 case atStart => exact ⟨(a2), (([] : List Int)), (0), (by first | rfl | (simp; done) | (simp [*]; done)), (by first | rfl | (simp; done) | (simp [*]; done)), H', ⟨Nat.le_refl _⟩, ⟨by first | exact Kd.R_nil _ _ _ _ _ | exact Kd.N_nil _ _ _ _ _ | exact Kd.V_nil _ _ _ _ _ | exact Kd.Q_nil _ _ _ _ _ | exact Kd.S_nil _ _ _ _ _⟩, ⟨bk BK462.out⟩, ⟨bz⟩⟩
 case round =>
  clear H'
  try clear c1
  try clear p2
  obtain ⟨x2_1, x7_1, x8_1, rfl, rfl, HA, HK1, HO_7, BK462, HB⟩ := hrel
  cases gk with
  | zero => exact absurd HA.out (by simp [Rf_Noisy.l0])
  | succ k1 =>
   have H := HA.out
   clear HA
   simp only [Rf_Noisy.l0] at H
   by_cases c5 : x8_1 < (l0.length : Int)
   ·rw [if_pos c5] at H
    have c5b0 := decide_eq_true c5
    clear c5
    by_cases c6 : 0 ≤ x8_1
    ·rw [if_pos c6] at H
     have c6b0 := decide_eq_true c6
     clear c6
     by_cases c7 : (l1_0.length : Int) = 0
     ·rw [if_pos c7] at H
      exact absurd H (by simp)
     ·rw [if_neg c7] at H
      have c7b0 := beq_eq_false_iff_ne.mpr c7
      have c7b1 := bne_iff_ne.mpr c7
      have c7b2 : ¬ (l1_0 = []) := fun h_ => c7 (by rw [h_]; rfl)
      obtain ⟨ji8, hji8⟩ : ∃ j_ : Int, (Int.tmod x2_1 (l1_0.length : Int)) = j_ := ⟨_, rfl⟩
      replace H : (if 0 ≤ (ji8) then (if (ji8) < (l1_0.length : Int) then (if x7_1.length < 17592186044416 then (Rf_Noisy.l0 k1 l0 (wrap64 (Int.tdiv x2_1 (l1_0.length : Int))) (x7_1 ++ [wrap64 ((rd l0 x8_1) + (rd l1_0 (ji8)))]) (wrap64 (x8_1 + 1)) l1_0) else (none)) else (none)) else (none)) = some r := by first | (rw [hji8] at H; exact H) | (simp only [hji8] at H ⊢; exact H)
      by_cases c9 : 0 ≤ (ji8)
      ·rw [if_pos c9] at H
       have c9b0 := decide_eq_true c9
       clear c9
       by_cases c10 : (ji8) < (l1_0.length : Int)
       ·rw [if_pos c10] at H
        have c10b0 := decide_eq_true c10
        clear c10
        by_cases c11 : x7_1.length < 17592186044416
        ·rw [if_pos c11] at H
         have LMc11 := m0 c11
         clear c11
         obtain ⟨y465, hy465⟩ : ∃ y_ : List Int, y_ = (x7_1 ++ [wrap64 ((rd l0 x8_1) + (rd l1_0 (ji8)))]) := ⟨_, rfl⟩
         replace H : (Rf_Noisy.l0 k1 l0 (wrap64 (Int.tdiv x2_1 (l1_0.length : Int))) y465 (wrap64 (x8_1 + 1)) l1_0) = some r := by first | (rw [hy465]; with_reducible exact H) | (have H2_ := (Option.bind_some _ _).symm.trans H; rw [hy465]; with_reducible exact H2_) | (have H2_ := (Option.bind_some _ _).symm.trans H; with_reducible exact H2_) | with_reducible exact H | (rw [hy465]; exact H) | exact H
         have Ny465 := m0 hy465
         clear hy465
         have H' := m0 H
         clear H
         try go_wp2
         replace HO_7 := m0 (Kd.R_drew HO_7.out); replace BK462 := bd BK462; replace HB := sd HB
         have p463 : 0 ≤ (x8_1 : Int) := of_decide_eq_true (by first | (with_reducible assumption) | assumption)
         have q463 : x8_1 < (l0.length : Int) := of_decide_eq_true (by first | (with_reducible assumption) | assumption)
         obtain ⟨ad463, e463, hx463_0⟩ := Kd.at_int HR0.out x8_1 p463 q463
         have hw463_0 := hx463_0
         cases e463
         replace hx463_0 := (HB.out.cell (World.block_lt_of_cell? w _ hx463_0)).trans hx463_0
         replace p463 := eq_true p463
         replace q463 := eq_true q463
         have p464 : 0 ≤ ((ji8) : Int) := of_decide_eq_true (by first | (with_reducible assumption) | assumption)
         have q464 : (ji8) < (l1_0.length : Int) := of_decide_eq_true (by first | (with_reducible assumption) | assumption)
         obtain ⟨ad464, e464, hx464_0⟩ := Kd.at_int HR1_0.out (ji8) p464 q464
         have hw464_0 := hx464_0
         cases e464
         replace hx464_0 := (HB.out.cell (World.block_lt_of_cell? w _ hx464_0)).trans hx464_0
         replace p464 := eq_true p464
         replace q464 := eq_true q464
         refine start_ (n := 18) (S := fun w' => w'.cell? ⟨gb462, 0, none⟩ = some (.slice (some ad464) l1_0.length c1_0) ∧ w'.cell? (ad463.add (x8_1).toNat) = some (.int .i64 (rd l0 x8_1)) ∧ w'.cell? (ad464.add ((ji8)).toNat) = some (.int .i64 (rd l1_0 (ji8)))) (ds := []) #[false, false, false, false, false, false, false, false, false, false, false, false, false, false, false, false, false, false] (by kernel_rfl) rfl rfl ⟨(blk_cell BK462.out 0).trans rfl, ((HB.out.cell (World.block_lt_of_cell? w _ hw463_0)).trans hw463_0), ((HB.out.cell (World.block_lt_of_cell? w _ hw464_0)).trans hw464_0)⟩ (fun hHeld => ?_); refine with_tabW Rf_Noisy.tab5 Rf_Noisy.bits5 (fun HT_ HW_ => ?_)
         generalize wr.drew = w12 at HO_7 BK462 HB hx463_0 hx464_0 hHeld ⊢
         refine pureZ (i := 0) (N := some 15) (bs 18 1) HT_ ?_
         refine pureZ (i := 1) (N := some 16) (bs 18 3) HT_ ?_
         refine pureZ (i := 2) (N := some 17) (bs 18 7) HT_ ?_
         refine pureZ (i := 3) (N := some 18) (bs 18 15) HT_ ?_
         refine pureZ (i := 5) (N := some 20) (bs 18 47) HT_ ?_
         refine pureZ (i := 7) (N := some 22) (bs 18 175) HT_ ?_
         refine pureZ (i := 8) (N := some 23) (bs 18 431) HT_ ?_
         refine takeZ 4 (some 19) (bs 18 447) (take_ofW HT_.out HW_.out (by kernel_rfl)) hHeld ?_
         refine takeZ 6 (some 21) (bs 18 511) (take_ofW HT_.out HW_.out (by kernel_rfl)) hHeld ?_
         refine takeZ 9 (some 24) (bs 18 1023) (take_ofW HT_.out HW_.out (by kernel_rfl)) hHeld ?_
         refine pureZ (i := 10) (N := some 25) (bs 18 2047) HT_ ?_
         refine pureZ (i := 11) (N := some 26) (bs 18 4095) HT_ ?_
         refine pureZ (i := 12) (N := some 27) (bs 18 8191) HT_ ?_
         refine takeZ 13 (some 28) (bs 18 16383) (take_ofW HT_.out HW_.out (by kernel_rfl)) hHeld ?_
         refine pureZ (i := 14) (N := some 29) (bs 18 32767) HT_ ?_
         refine oneZ 15 (some 30) (bs 18 65535) (one_of HT_.out (by kernel_rfl)) fun K hK => ?_
         refine value_ (w1 := ?_) (v := ?_) (by rfl) rfl ?_ ?_
         rotate_left 2
         ·go_simp
          constructor
          ·rfl
          ·rfl
         refine hK.out _ _ ⟨(blk_cell (blk_alloc BK462.out _) 0).trans rfl, (World.cell?_alloc_lt _ _ _ (World.block_lt_of_cell? _ _ (((HB.out.cell (World.block_lt_of_cell? w _ hw463_0)).trans hw463_0)))).trans (((HB.out.cell (World.block_lt_of_cell? w _ hw463_0)).trans hw463_0)), (World.cell?_alloc_lt _ _ _ (World.block_lt_of_cell? _ _ (((HB.out.cell (World.block_lt_of_cell? w _ hw464_0)).trans hw464_0)))).trans (((HB.out.cell (World.block_lt_of_cell? w _ hw464_0)).trans hw464_0))⟩ (fun hHeld => ?_)
         clear hK K
         refine norm_ (a' := ?_) ?_ ?_
         rotate_left
         ·show Act.put _ (some 30) _ = _
          exact pz
         refine oneZ 16 (some 31) (bs 18 131071) (one_of HT_.out (by kernel_rfl)) fun K hK => ?_
         refine Kd.R_append_step (Kd.int .i64) (w0 := w) w.heap.size (by rfl) (.tmp 15) (.tmp 30) 22 3 (.int .i64 0) 8 rfl Tryd.underlying22 info3 rfl (by decide) (by omega) u7 x7_1 (wrap64 ((rd l0 x8_1) + (rd l1_0 (ji8)))) [.int .i64 (wrap64 ((rd l0 x8_1) + (rd l1_0 (ji8))))] (fun _ => True) (fun _ => False) rfl rfl ?aP (fun _ hk => hk.elim) ?aF ?aO ?aB ?aS ?aL ?_
         (case aP => exact rfl)
         (case aB => exact bz)
         (case aF => exact (fun _ _ => trivial))
         (case aO => exact (br HO_7.out))
         (case aS => exact (below_size bz))
         (case aL => have := LMc11.out; omega)
         intro v466 w13 ho hb hg hat
         rw [← Ny465.out] at ho
         have n0_ := m0 (blk_grown (g := gb462) (o := .cells #[.slice (some ad464) l1_0.length c1_0] 24 (0, 0)) (bk BK462.out) hg (Kd.R_ne HO_7.out BK462.out (by decide))); have n1_ := m0 (hb); have n2_ := m0 (ho); clear BK462; clear HB; clear HO_7; have BK462 := n0_; have HB := n1_; have HO467 := n2_; clear n0_ n1_ n2_
         clear ho hb hg hat
         refine hK.out _ _ ⟨(blk_cell BK462.out 0).trans rfl, ((HB.out.cell (World.block_lt_of_cell? w _ hw463_0)).trans hw463_0), ((HB.out.cell (World.block_lt_of_cell? w _ hw464_0)).trans hw464_0)⟩ (fun hHeld => ?_)
         clear hK K
         refine norm_ (a' := ?_) ?_ ?_
         rotate_left
         ·show Act.put _ (some 31) _ = _
          exact pz
         refine pureZ (i := 17) (N := some 7) (bs 18 262143) HT_ ?_
         refine done_ (done_of HT_.out (by kernel_rfl)) ?_
         obtain ⟨_, _⟩ := b1 BK462
         try go_wp2
         go_roundg k1
         case measure => have := HK1.out; omega
         case rel => exact ⟨(wrap64 (Int.tdiv x2_1 (l1_0.length : Int))), (y465), (wrap64 (x8_1 + 1)), (by first | rfl | (simp; done) | (simp [*]; done)), (by first | rfl | (simp; done) | (simp [*]; done)), H', ⟨by have := HK1.out; omega⟩, ⟨br HO467.out⟩, ⟨bk BK462.out⟩, ⟨bz⟩⟩
        ·rw [if_neg c11] at H
         exact absurd H (by simp)
       ·rw [if_neg c10] at H
        exact absurd H (by simp)
      ·rw [if_neg c9] at H
       exact absurd H (by simp)
    ·rw [if_neg c6] at H
     exact absurd H (by simp)
   ·rw [if_neg c5] at H
    have c5b0 := decide_eq_false c5
    clear c5
    obtain rfl := Option.some.inj H
    go_wp2
    go_ret
    exact ⟨_, by first | rfl | (simp [errW_none, errW_some] <;> rfl) | (simp [*, errW_none, errW_some] <;> rfl), by (with_reducible repeat (first | apply Kd.R_alloc | apply Kd.R_drewN | apply Kd.R_drew)); exact HO_7.out, by repeat (first | (with_reducible first | exact HB.out | apply below_alloc | apply pw_below_drewN | apply below_drew1 | refine below_set ?_ GE462.out) | exact HB.out)⟩
end
section
mutual
def Rf_Peaks.l0 : Nat → List Int → List Int → Int → Option (List Int)
  | 0, _, _, _ => none
  | k + 1, x0, x3, x4 => if x4 < (x0.length : Int) then (Rf_Peaks.l1 k x0 x3 x4 true 0) else (some x3)
def Rf_Peaks.l1 : Nat → List Int → List Int → Int → Bool → Int → Option (List Int)
  | 0, _, _, _, _, _ => none
  | k + 1, x0, x3, x4, x5, x6 => if x6 < (x0.length : Int) then (if x5 = true then (if 0 ≤ x6 then (if 0 ≤ x4 then (if x4 < (x0.length : Int) then (Rf_Peaks.l1 k x0 x3 x4 (decide ((rd x0 x6) ≤ (rd x0 x4))) (wrap64 (x6 + 1))) else (none)) else (none)) else (none)) else (Rf_Peaks.l1 k x0 x3 x4 false (wrap64 (x6 + 1)))) else (if x5 = true then (if x3.length < 17592186044416 then (Rf_Peaks.l0 k x0 (x3 ++ [x4]) (wrap64 (x4 + 1))) else (none)) else (Rf_Peaks.l0 k x0 x3 (wrap64 (x4 + 1))))
end
def Rf_Peaks.f (k : Nat) (l0 : List Int) : Option (List Int) := Rf_Peaks.l0 k l0 ([] : List Int) 0
theorem Rf_Peaks.mono_l : ∀ k, (∀ y0 y1 y2, LeO (Rf_Peaks.l0 k y0 y1 y2) (Rf_Peaks.l0 (k + 1) y0 y1 y2)) ∧ (∀ y0 y1 y2 y3 y4, LeO (Rf_Peaks.l1 k y0 y1 y2 y3 y4) (Rf_Peaks.l1 (k + 1) y0 y1 y2 y3 y4))
  | 0 => ⟨fun _ _ _ r h => by simp [Rf_Peaks.l0] at h, fun _ _ _ _ _ r h => by simp [Rf_Peaks.l1] at h⟩
  | k + 1 => by
    obtain ⟨ih0, ih1⟩ := Rf_Peaks.mono_l k
    refine ⟨?_, ?_⟩
    · intro y0 y1 y2
      unfold Rf_Peaks.l0
      repeat' first
      | (with_reducible exact ih0 _ _ _)
      | (with_reducible exact ih1 _ _ _ _ _)
      | (with_reducible exact LeO.refl _)
      | (with_reducible exact LeO.none _)
      | (with_reducible refine LeO.ite ?_ ?_)
      | (with_reducible refine LeO.bind ?_ (fun _ => ?_))
      | exact ih0 _ _ _
      | exact ih1 _ _ _ _ _
      | exact LeO.none _
      | refine LeO.ite ?_ ?_
      | refine LeO.bind ?_ (fun _ => ?_)
    · intro y0 y1 y2 y3 y4
      unfold Rf_Peaks.l1
      repeat' first
      | (with_reducible exact ih0 _ _ _)
      | (with_reducible exact ih1 _ _ _ _ _)
      | (with_reducible exact LeO.refl _)
      | (with_reducible exact LeO.none _)
      | (with_reducible refine LeO.ite ?_ ?_)
      | (with_reducible refine LeO.bind ?_ (fun _ => ?_))
      | exact ih0 _ _ _
      | exact ih1 _ _ _ _ _
      | exact LeO.none _
      | refine LeO.ite ?_ ?_
      | refine LeO.bind ?_ (fun _ => ?_)
theorem Rf_Peaks.mono : ∀ a0 k, LeO (Rf_Peaks.f k a0) (Rf_Peaks.f (k + 1) a0) := by
  intro a0 k
  obtain ⟨ih0, ih1⟩ := Rf_Peaks.mono_l k
  unfold Rf_Peaks.f
  repeat' first
      | (with_reducible exact ih0 _ _ _)
      | (with_reducible exact ih1 _ _ _ _ _)
      | (with_reducible exact LeO.refl _)
      | (with_reducible exact LeO.none _)
      | (with_reducible refine LeO.ite ?_ ?_)
      | (with_reducible refine LeO.bind ?_ (fun _ => ?_))
      | exact ih0 _ _ _
      | exact ih1 _ _ _ _ _
      | exact LeO.none _
      | refine LeO.ite ?_ ?_
      | refine LeO.bind ?_ (fun _ => ?_)
theorem Rf_Peaks.calls (k : Nat) (A0 : Option Addr) (c0 : Nat) (l0 : List Int) (r : List Int) (w : World) (hr0 : Kd.C (Kd.int .i64) w A0 l0.length l0) (hc0 : l0.length ≤ c0) (h : Rf_Peaks.f k l0 = some r) :
    Calls Tryd.prog 79 #[.slice A0 l0.length c0] w fun e w' => ∃ v0_ : Value, e = .returned (v0_) ∧ Kd.R (Kd.int .i64) 3 w' w.heap.size (fun _ => True) v0_ r ∧ Below w.heap.size w w' := by
  have HR0 := m0 hr0
  have HC0 := m0 hc0
  clear hr0 hc0
  have HB := m0 (Below.refl w.heap.size w)
  have H : (Rf_Peaks.l0 k l0 ([] : List Int) 0) = some r := h
  clear h
  have H' := m0 H
  clear H
  go_enter Tryd.func79, Tryd.ntmps79
  go_wp2
  repeat (go_quiet (fail); try go_wp2)
  go_loopg [3, 4] k (fun kq v3 v4 w' => ∃ (x3_1 : List Int) (x4_1 : Int), v4 = .int .i64 x4_1 ∧ Aside0 (Rf_Peaks.l0 kq l0 x3_1 x4_1 = some r) ∧ Aside0 (kq ≤ k) ∧ Aside0 (Kd.R (Kd.int .i64) 3 w' w.heap.size (fun _ => True) v3 x3_1) ∧ Aside0 (Below w.heap.size w w'))
  case atStart => exact ⟨(([] : List Int)), (0), (by first | rfl | (simp; done) | (simp [*]; done)), H', ⟨Nat.le_refl _⟩, ⟨by first | exact Kd.R_nil _ _ _ _ _ | exact Kd.N_nil _ _ _ _ _ | exact Kd.V_nil _ _ _ _ _ | exact Kd.Q_nil _ _ _ _ _ | exact Kd.S_nil _ _ _ _ _⟩, ⟨bz⟩⟩
  case round =>
    clear H'
    obtain ⟨x3_1, x4_1, rfl, HA, HK1, HO_3, HB⟩ := hrel
    cases gk with
    | zero => exact absurd HA.out (by simp [Rf_Peaks.l0])
    | succ k1 =>
      have H := HA.out
      clear HA
      simp only [Rf_Peaks.l0] at H
      by_cases c2 : x4_1 < (l0.length : Int)
      · rw [if_pos c2] at H
        have c2b0 := decide_eq_true c2
        clear c2
        have H' := m0 H
        clear H
        go_wp2
        repeat (go_quiet (fail); try go_wp2)
        go_loopg [5, 6] k1 (fun kq v5 v6 w' => ∃ (x5_2 : Bool) (x6_2 : Int), v5 = .bool x5_2 ∧ v6 = .int .i64 x6_2 ∧ Aside0 (Rf_Peaks.l1 kq l0 x3_1 x4_1 x5_2 x6_2 = some r) ∧ Aside0 (kq ≤ k1) ∧ Aside0 (Kd.R (Kd.int .i64) 3 w' w.heap.size (fun _ => True) u3 x3_1) ∧ Aside0 (Below w.heap.size w w'))
        case atStart => exact ⟨(true), (0), (by first | rfl | (simp; done) | (simp [*]; done)), (by first | rfl | (simp; done) | (simp [*]; done)), H', ⟨Nat.le_refl _⟩, ⟨br HO_3.out⟩, ⟨bz⟩⟩
        case round =>
          clear H'
          try clear c2
          try clear c2b0
          try clear p2
          obtain ⟨x5_2, x6_2, rfl, rfl, HA, HK2, HO_3, HB⟩ := hrel
          cases gk with
          | zero => exact absurd HA.out (by simp [Rf_Peaks.l1])
          | succ k2 =>
            have H := HA.out
            clear HA
            simp only [Rf_Peaks.l1] at H
            by_cases c3 : x6_2 < (l0.length : Int)
            · rw [if_pos c3] at H
              have c3b0 := decide_eq_true c3
              clear c3
              by_cases c4 : x5_2 = true
              · subst c4
                rw [if_pos rfl] at H
                by_cases c5 : 0 ≤ x6_2
                · rw [if_pos c5] at H
                  have c5b0 := decide_eq_true c5
                  clear c5
                  by_cases c6 : 0 ≤ x4_1
                  · rw [if_pos c6] at H
                    have c6b0 := decide_eq_true c6
                    clear c6
                    by_cases c7 : x4_1 < (l0.length : Int)
                    · rw [if_pos c7] at H
                      have c7b0 := decide_eq_true c7
                      clear c7
                      have H' := m0 H
                      clear H
                      have p476 : 0 ≤ (x6_2 : Int) := of_decide_eq_true (by first | (with_reducible assumption) | assumption)
                      have q476 : x6_2 < (l0.length : Int) := of_decide_eq_true (by first | (with_reducible assumption) | assumption)
                      obtain ⟨ad476, e476, hx476_0⟩ := Kd.at_int HR0.out x6_2 p476 q476
                      cases e476
                      replace hx476_0 := (HB.out.cell (World.block_lt_of_cell? w _ hx476_0)).trans hx476_0
                      replace p476 := eq_true p476
                      replace q476 := eq_true q476
                      have p477 : 0 ≤ (x4_1 : Int) := of_decide_eq_true (by first | (with_reducible assumption) | assumption)
                      have q477 : x4_1 < (l0.length : Int) := of_decide_eq_true (by first | (with_reducible assumption) | assumption)
                      obtain ⟨ad477, e477, hx477_0⟩ := Kd.at_int HR0.out x4_1 p477 q477
                      obtain rfl : ad476 = ad477 := (by injection e477)
                      replace hx477_0 := (HB.out.cell (World.block_lt_of_cell? w _ hx477_0)).trans hx477_0
                      replace p477 := eq_true p477
                      replace q477 := eq_true q477
                      go_wp2
                      repeat (go_quiet (fail); try go_wp2)
                      go_roundg k2
                      case measure => have := HK1.out; have := HK2.out; omega
                      case rel => exact ⟨(decide ((rd l0 x6_2) ≤ (rd l0 x4_1))), (wrap64 (x6_2 + 1)), (by first | rfl | (simp; done) | (simp [*]; done)), (by first | rfl | (simp; done) | (simp [*]; done)), H', ⟨by have := HK1.out; have := HK2.out; omega⟩, ⟨br HO_3.out⟩, ⟨bz⟩⟩
                    · rw [if_neg c7] at H
                      exact absurd H (by simp)
                  · rw [if_neg c6] at H
                    exact absurd H (by simp)
                · rw [if_neg c5] at H
                  exact absurd H (by simp)
              · replace c4 := Bool.eq_false_iff.mpr c4
                subst c4
                rw [if_neg (show ¬ (false = true) by decide)] at H
                have H' := m0 H
                clear H
                go_wp2
                repeat (go_quiet (fail); try go_wp2)
                go_roundg k2
                case measure => have := HK1.out; have := HK2.out; omega
                case rel => exact ⟨(false), (wrap64 (x6_2 + 1)), (by first | rfl | (simp; done) | (simp [*]; done)), (by first | rfl | (simp; done) | (simp [*]; done)), H', ⟨by have := HK1.out; have := HK2.out; omega⟩, ⟨br HO_3.out⟩, ⟨bz⟩⟩
            · rw [if_neg c3] at H
              have c3b0 := decide_eq_false c3
              clear c3
              by_cases c8 : x5_2 = true
              · subst c8
                rw [if_pos rfl] at H
                by_cases c9 : x3_1.length < 17592186044416
                · rw [if_pos c9] at H
                  have LMc9 := m0 c9
                  clear c9
                  obtain ⟨y478, hy478⟩ : ∃ y_ : List Int, y_ = (x3_1 ++ [x4_1]) := ⟨_, rfl⟩
                  replace H : (Rf_Peaks.l0 k2 l0 y478 (wrap64 (x4_1 + 1))) = some r := by first | (rw [hy478]; with_reducible exact H) | (have H2_ := (Option.bind_some _ _).symm.trans H; rw [hy478]; with_reducible exact H2_) | (have H2_ := (Option.bind_some _ _).symm.trans H; with_reducible exact H2_) | with_reducible exact H | (rw [hy478]; exact H) | exact H
                  have Ny478 := m0 hy478
                  clear hy478
                  have H' := m0 H
                  clear H
                  go_wp2_with (first | ((with_reducible refine gate_builtin (b := .append) (xs := #[.tmp 32, .tmp 34]) rfl ?_); at_builtin; refine Kd.R_append (Kd.int .i64) (w0 := w) w.heap.size rfl (.tmp 32) (.tmp 34) 22 3 (.int .i64 0) 8 rfl Tryd.underlying22 info3 rfl (by decide) (by omega) u3 x3_1 x4_1 [.int .i64 x4_1] (fun _ => True) (fun _ => False) rfl rfl ?aP (fun _ hk => hk.elim) ?aF ?aO ?aB ?aS ?aL ?_; (case aP => exact rfl); (case aB => exact bz); (case aF => exact (fun _ _ => trivial)); (case aO => exact (br HO_3.out)); (case aS => exact (below_size bz)); (case aL => have := LMc9.out; omega); intro v479 w10 ho hb hg hat; rw [← Ny478.out] at ho; have n0_ := m0 (hb); have n1_ := m0 (ho); clear HB; clear HO_3; have HB := n0_; have HO480 := n1_; clear n0_ n1_; clear ho hb hg hat))
                  repeat (go_quiet (first | ((with_reducible refine gate_builtin (b := .append) (xs := #[.tmp 32, .tmp 34]) rfl ?_); at_builtin; refine Kd.R_append (Kd.int .i64) (w0 := w) w.heap.size rfl (.tmp 32) (.tmp 34) 22 3 (.int .i64 0) 8 rfl Tryd.underlying22 info3 rfl (by decide) (by omega) u3 x3_1 x4_1 [.int .i64 x4_1] (fun _ => True) (fun _ => False) rfl rfl ?aP (fun _ hk => hk.elim) ?aF ?aO ?aB ?aS ?aL ?_; (case aP => exact rfl); (case aB => exact bz); (case aF => exact (fun _ _ => trivial)); (case aO => exact (br HO_3.out)); (case aS => exact (below_size bz)); (case aL => have := LMc9.out; omega); intro v479 w10 ho hb hg hat; rw [← Ny478.out] at ho; have n0_ := m0 (hb); have n1_ := m0 (ho); clear HB; clear HO_3; have HB := n0_; have HO480 := n1_; clear n0_ n1_; clear ho hb hg hat)); try go_wp2_with (first | ((with_reducible refine gate_builtin (b := .append) (xs := #[.tmp 32, .tmp 34]) rfl ?_); at_builtin; refine Kd.R_append (Kd.int .i64) (w0 := w) w.heap.size rfl (.tmp 32) (.tmp 34) 22 3 (.int .i64 0) 8 rfl Tryd.underlying22 info3 rfl (by decide) (by omega) u3 x3_1 x4_1 [.int .i64 x4_1] (fun _ => True) (fun _ => False) rfl rfl ?aP (fun _ hk => hk.elim) ?aF ?aO ?aB ?aS ?aL ?_; (case aP => exact rfl); (case aB => exact bz); (case aF => exact (fun _ _ => trivial)); (case aO => exact (br HO_3.out)); (case aS => exact (below_size bz)); (case aL => have := LMc9.out; omega); intro v479 w10 ho hb hg hat; rw [← Ny478.out] at ho; have n0_ := m0 (hb); have n1_ := m0 (ho); clear HB; clear HO_3; have HB := n0_; have HO480 := n1_; clear n0_ n1_; clear ho hb hg hat)))
                  go_roundg k2
                  case measure => have := HK1.out; have := HK2.out; omega
                  case rel => exact ⟨(y478), (wrap64 (x4_1 + 1)), (by first | rfl | (simp; done) | (simp [*]; done)), H', ⟨by have := HK1.out; have := HK2.out; omega⟩, ⟨br HO480.out⟩, ⟨bz⟩⟩
                · rw [if_neg c9] at H
                  exact absurd H (by simp)
              · replace c8 := Bool.eq_false_iff.mpr c8
                subst c8
                rw [if_neg (show ¬ (false = true) by decide)] at H
                have H' := m0 H
                clear H
                go_wp2
                repeat (go_quiet (fail); try go_wp2)
                go_roundg k2
                case measure => have := HK1.out; have := HK2.out; omega
                case rel => exact ⟨(x3_1), (wrap64 (x4_1 + 1)), (by first | rfl | (simp; done) | (simp [*]; done)), H', ⟨by have := HK1.out; have := HK2.out; omega⟩, ⟨br HO_3.out⟩, ⟨bz⟩⟩
      · rw [if_neg c2] at H
        have c2b0 := decide_eq_false c2
        clear c2
        obtain rfl := Option.some.inj H
        go_wp2
        repeat (go_quiet (fail); try go_wp2)
        go_ret
        exact ⟨_, by first | rfl | (simp [errW_none, errW_some] <;> rfl) | (simp [*, errW_none, errW_some] <;> rfl), by (with_reducible repeat (first | apply Kd.R_alloc | apply Kd.R_drewN | apply Kd.R_drew)); exact HO_3.out, by repeat (first | (with_reducible first | exact HB.out | apply below_alloc | apply pw_below_drewN | apply below_drew1) | exact HB.out)⟩
end
section
def Rf_Peak.f (k : Nat) (l0 : List Int) : Option (Int) := (Rf_Peaks.f k l0).bind fun t481 => (if 0 < (t481.length : Int) then (some (rd t481 0)) else (none))
theorem Rf_Peak.mono : ∀ a0 k, LeO (Rf_Peak.f k a0) (Rf_Peak.f (k + 1) a0) := by
 intro a0 k
 unfold Rf_Peak.f
 repeat' first
   | (with_reducible exact Rf_Peaks.mono _ _)
   | (with_reducible exact LeO.refl _)
   | (with_reducible exact LeO.none _)
   | (with_reducible refine LeO.ite ?_ ?_)
   | (with_reducible refine LeO.bind ?_ (fun _ => ?_))
   | exact Rf_Peaks.mono _ _
   | exact LeO.none _
   | refine LeO.ite ?_ ?_
   | refine LeO.bind ?_ (fun _ => ?_)
theorem Rf_Peak.calls (k : Nat) (A0 : Option Addr) (c0 : Nat) (l0 : List Int) (r : Int) (w : World) (hr0 : Kd.C (Kd.int .i64) w A0 l0.length l0) (hc0 : l0.length ≤ c0) (h : Rf_Peak.f k l0 = some r) :
  Calls Tryd.prog 61 #[.slice A0 l0.length c0] w fun e w' => e = .returned (.int .i64 r) ∧ Below w.heap.size w w' := by
 have HR0 := m0 hr0
 have HC0 := m0 hc0
 clear hr0 hc0
 have HB := m0 (Below.refl w.heap.size w)
 have H : ((Rf_Peaks.f k l0).bind fun t481 => (if 0 < (t481.length : Int) then (some (rd t481 0)) else (none))) = some r := h
 clear h
 replace H := ob H
 obtain ⟨t481, A20, H⟩ := H
 (try dsimp only at H)
 have A2 := m0 A20
 clear A20
 by_cases c3 : 0 < (t481.length : Int)
 ·rw [if_pos c3] at H
  have c3b0 := decide_eq_true c3
  have c3b1 : decide (0 < t481.length) = true := decide_eq_true (by omega)
  clear c3
  obtain rfl := Option.some.inj H
  go_enter Tryd.func61, Tryd.ntmps61
  go_wp2_with (first | ((with_reducible refine gate_callee (f := 79) rfl ?_); refine gl (some 4) Tryd.func79 #[.slice A0 l0.length c0] ?_; (with_reducible refine (Rf_Peaks.calls k _ _ l0 t481 _ ?side1 ?side2 A2.out).mono ?_); (case side1 => repeat (first | exact HR0.out | (with_reducible refine Kd.C_alloc ?_ _) | (with_reducible refine Kd.C_drewN ?_ _) | (with_reducible refine Kd.C_drew ?_))); (case side2 => exact HC0.out); rintro e w4 ⟨v482, rfl, ho0, hb⟩; refine ⟨_, rfl, ?_⟩; have HO483 := m0 (Kd.R_lower ho0 (below_size bz)); replace HB := sb HB hb; (try clear hb); (try clear ho0); obtain ⟨Ao5, co5, eo5⟩ := Kd.R_slice HO483.out; subst eo5; have p484 : 0 ≤ (0 : Int) := (by omega); have q484 : 0 < (t481.length : Int) := of_decide_eq_true (by first | (with_reducible assumption) | assumption); obtain ⟨ad484, e484, hx484_0⟩ := Kd.at_int (Kd.R_reads' HO483.out).2.2 0 p484 q484; cases e484; have qi484 : (0 < t481.length) = True := eq_true (by omega); (try rw [show ((0 : Int)).toNat = 0 from rfl] at hx484_0); (try rw [Addr.add_zero'] at hx484_0); replace p484 := eq_true p484; replace q484 := eq_true q484))
  go_ret
  exact ez
 ·rw [if_neg c3] at H
  exact absurd H (by simp)
end
section
def Rf_Rate.l0 : Nat → List Int → Int → Int → Int → Int → List Int → Option (Int × Int)
 | 0, _, _, _, _, _, _ => none
 | k + 1, x0, x2, x7, x8, x9, x594000 => if x9 < x7 then ((Rf_Noisy.f k x0 x594000 x9).bind fun t598 => ((Rf_Peak.f k t598).bind fun t601 => (if 0 ≤ t601 then (if t601 < (t598.length : Int) then (if (rd t598 t601) ≥ x2 then (Rf_Rate.l0 k x0 x2 x7 (wrap64 (x8 + 1)) (wrap64 (x9 + 1)) x594000) else (Rf_Rate.l0 k x0 x2 x7 x8 (wrap64 (x9 + 1)) x594000)) else (none)) else (none)))) else ((Bs_Lowest.f k x8 x7).bind fun bt596 => (some (bt596.1, bt596.2)))
def Rf_Rate.f (k : Nat) (l0 : List Int) (l1_0 : List Int) (a2 : Int) : Option (Int × Int) := (Rf_Cases.f k l1_0 (l0.length : Int)).bind fun t595 => (Rf_Rate.l0 k l0 a2 t595 0 0 l1_0)
theorem Rf_Rate.mono_l : ∀ k, (∀ y0 y1 y2 y3 y4 y5, LeO (Rf_Rate.l0 k y0 y1 y2 y3 y4 y5) (Rf_Rate.l0 (k + 1) y0 y1 y2 y3 y4 y5))
 | 0 => fun _ _ _ _ _ _ r h => by simp [Rf_Rate.l0] at h
 | k + 1 => by
  have ih0 := Rf_Rate.mono_l k
  ·intro y0 y1 y2 y3 y4 y5
   unfold Rf_Rate.l0
   repeat' first
   | (with_reducible exact ih0 _ _ _ _ _ _)
   | (with_reducible exact Bs_Lowest.mono _ _ _)
   | (with_reducible exact Rf_Cases.mono _ _ _)
   | (with_reducible exact Rf_Noisy.mono _ _ _ _)
   | (with_reducible exact Rf_Peak.mono _ _)
   | (with_reducible exact LeO.refl _)
   | (with_reducible exact LeO.none _)
   | (with_reducible refine LeO.ite ?_ ?_)
   | (with_reducible refine LeO.bind ?_ (fun _ => ?_))
   | exact ih0 _ _ _ _ _ _
   | exact Bs_Lowest.mono _ _ _
   | exact Rf_Cases.mono _ _ _
   | exact Rf_Noisy.mono _ _ _ _
   | exact Rf_Peak.mono _ _
   | exact LeO.none _
   | refine LeO.ite ?_ ?_
   | refine LeO.bind ?_ (fun _ => ?_)
theorem Rf_Rate.mono : ∀ a0 a1 a2 k, LeO (Rf_Rate.f k a0 a1 a2) (Rf_Rate.f (k + 1) a0 a1 a2) := by
 intro a0 a1 a2 k
 have ih0 := Rf_Rate.mono_l k
 unfold Rf_Rate.f
 repeat' first
   | (with_reducible exact ih0 _ _ _ _ _ _)
   | (with_reducible exact Bs_Lowest.mono _ _ _)
   | (with_reducible exact Rf_Cases.mono _ _ _)
   | (with_reducible exact Rf_Noisy.mono _ _ _ _)
   | (with_reducible exact Rf_Peak.mono _ _)
   | (with_reducible exact LeO.refl _)
   | (with_reducible exact LeO.none _)
   | (with_reducible refine LeO.ite ?_ ?_)
   | (with_reducible refine LeO.bind ?_ (fun _ => ?_))
   | exact ih0 _ _ _ _ _ _
   | exact Bs_Lowest.mono _ _ _
   | exact Rf_Cases.mono _ _ _
   | exact Rf_Noisy.mono _ _ _ _
   | exact Rf_Peak.mono _ _
   | exact LeO.none _
   | refine LeO.ite ?_ ?_
   | refine LeO.bind ?_ (fun _ => ?_)
theorem Rf_Rate.calls (k : Nat) (A0 : Option Addr) (c0 : Nat) (l0 : List Int) (A1_0 : Option Addr) (c1_0 : Nat) (l1_0 : List Int) (a2 : Int) (r1 : Int) (r2 : Int) (w : World) (hr0 : Kd.C (Kd.int .i64) w A0 l0.length l0) (hc0 : l0.length ≤ c0) (hr1_0 : Kd.C (Kd.int .i64) w A1_0 l1_0.length l1_0) (hc1_0 : l1_0.length ≤ c1_0) (h : Rf_Rate.f k l0 l1_0 a2 = some (r1, r2)) :
  Calls Tryd.prog 29 #[.slice A0 l0.length c0, .agg #[.slice A1_0 l1_0.length c1_0], .int .i64 a2] w fun e w' => e = .returned (.agg #[.int .i64 r1, .int .i64 r2]) ∧ Below w.heap.size w w' := by
 have hu24 := Tryd.underlying24
 have hu26 := Tryd.underlying26
 have HR0 := m0 hr0
 have HC0 := m0 hc0
 clear hr0 hc0
 have HR1_0 := m0 hr1_0
 have HC1_0 := m0 hc1_0
 clear hr1_0 hc1_0
 have HB := m0 (Below.refl w.heap.size w)
 have H : ((Rf_Cases.f k l1_0 (l0.length : Int)).bind fun t595 => (Rf_Rate.l0 k l0 a2 t595 0 0 l1_0)) = some (r1, r2) := h
 clear h
 replace H := ob H
 obtain ⟨t595, A40, H⟩ := H
 (try dsimp only at H)
 have A4 := m0 A40
 clear A40
 have H' := m0 H
 clear H
 go_enter Tryd.func29, Tryd.ntmps29
 go_wp2_with (first | ((with_reducible refine gate_dst (N := 4) rfl ?_); refine be 4 24 #[.slice A1_0 l1_0.length c1_0] ?_; intro gb593 hg w5 hbox hb; have BK593 := m0 hbox; have GW593 := m0 (bg (n := w.heap.size) hg); have GE593 := m0 (bg (n := w.heap.size) hg); replace HB := sb HB hb; clear hb hbox hg) | ((with_reducible refine gate_dst (N := 6) rfl ?_); refine be 6 26 #[.int .i64 0, .int .i64 0] ?_; intro gb594 hg w6 hbox hb; have BK594 := m0 hbox; have GW594 := m0 (bg (n := w.heap.size) hg); have GE594 := m0 (bg (n := w.heap.size) hg); replace HB := sb HB hb; have NB593_594 := nl BK593 hg; have NB594_593 := ng (nl BK593 hg); replace BK593 := bb BK593 hb; clear hb hbox hg; have hnb7 := NB593_594.out; have hnc7 := NB594_593.out; obtain ⟨hcz8_0, hfz8_0⟩ := b1 BK593) | ((with_reducible refine gate_callee (f := 56) rfl ?_); refine gl (some 14) Tryd.func56 #[.agg #[.slice A1_0 l1_0.length c1_0], .int .i64 (l0.length : Int)] ?_; (with_reducible refine (Rf_Cases.calls k _ _ l1_0 (l0.length : Int) t595 _ ?side1 ?side2 A4.out).mono ?_); (case side1 => exact cb HR1_0 HB); (case side2 => exact HC1_0.out); rintro e w9 ⟨rfl, hb⟩; refine ⟨_, rfl, ?_⟩; replace BK593 := bb BK593 hb; replace BK594 := bb BK594 hb; replace HB := sb HB hb; (try clear hb)))
 go_loopg [8, 9] k (fun kq v8 v9 w' => ∃ (x8_1 : Int) (x9_1 : Int), v8 = .int .i64 x8_1 ∧ v9 = .int .i64 x9_1 ∧ Aside0 (Rf_Rate.l0 kq l0 a2 t595 x8_1 x9_1 l1_0 = some (r1, r2)) ∧ Aside0 (kq ≤ k) ∧ Aside0 (w'.heap[gb593]? = some (.cells #[(.slice A1_0 l1_0.length c1_0)] 24 (0, 0))) ∧ Aside0 (w'.heap[gb594]? = some (.cells #[.int .i64 0, .int .i64 0] 26 (0, 0))) ∧ Aside0 (Below w.heap.size w w'))
 case atStart => exact ⟨(0), (0), (by first | rfl | (simp; done) | (simp [*]; done)), (by first | rfl | (simp; done) | (simp [*]; done)), H', ⟨Nat.le_refl _⟩, ⟨bk BK593.out⟩, ⟨bk BK594.out⟩, ⟨bz⟩⟩
 case round =>
  clear H'
  try clear c1
  try clear c2
  try clear p2
  try clear c5
  try clear c7
  try clear hcz8_0
  try clear hfz8_0
  obtain ⟨x8_1, x9_1, rfl, rfl, HA, HK1, BK593, BK594, HB⟩ := hrel
  cases gk with
  | zero => exact absurd HA.out (by simp [Rf_Rate.l0])
  | succ k1 =>
   have H := HA.out
   clear HA
   simp only [Rf_Rate.l0] at H
   by_cases c10 : x9_1 < t595
   ·rw [if_pos c10] at H
    have c10b0 := decide_eq_true c10
    clear c10
    replace H := ob H
    obtain ⟨t598, A110, H⟩ := H
    (try dsimp only at H)
    have A11 := m0 A110
    clear A110
    replace H := ob H
    obtain ⟨t601, A120, H⟩ := H
    (try dsimp only at H)
    have A12 := m0 A120
    clear A120
    by_cases c13 : 0 ≤ t601
    ·rw [if_pos c13] at H
     have c13b0 := decide_eq_true c13
     clear c13
     by_cases c14 : t601 < (t598.length : Int)
     ·rw [if_pos c14] at H
      have c14b0 := decide_eq_true c14
      clear c14
      by_cases c15 : (rd t598 t601) ≥ a2
      ·rw [if_pos c15] at H
       have c15b0 := decide_eq_true c15
       clear c15
       have H' := m0 H
       clear H
       have hnb16 := NB593_594.out
       have hnc16 := NB594_593.out
       obtain ⟨_, _⟩ := b1 BK593
       go_wp2_with (first | ((with_reducible refine gate_callee (f := 58) rfl ?_); refine gl (some 23) Tryd.func58 #[.slice A0 l0.length c0, .agg #[.slice A1_0 l1_0.length c1_0], .int .i64 x9_1] ?_; (with_reducible refine (Rf_Noisy.calls k1 _ _ l0 _ _ l1_0 x9_1 t598 _ ?side1 ?side2 ?side3 ?side4 A11.out).mono ?_); (case side1 => exact cb HR0 HB); (case side2 => exact HC0.out); (case side3 => exact cb HR1_0 HB); (case side4 => exact HC1_0.out); rintro e w18 ⟨v599, rfl, ho0, hb⟩; refine ⟨_, rfl, ?_⟩; have HO600 := m0 (Kd.R_lower ho0 (below_size bz)); replace BK593 := bb BK593 hb; replace BK594 := bb BK594 hb; replace HB := sb HB hb; (try clear hb); (try clear ho0); obtain ⟨Ao19, co19, eo19⟩ := Kd.R_slice HO600.out; subst eo19) | ((with_reducible refine gate_callee (f := 61) rfl ?_); refine gl (some 26) Tryd.func61 #[.slice Ao19 t598.length co19] ?_; (with_reducible refine (Rf_Peak.calls k1 _ _ t598 t601 _ ?side1 ?side2 A12.out).mono ?_); (case side1 => exact bc (Kd.R_reads' HO600.out).2.2); (case side2 => exact (Kd.R_reads' HO600.out).2.1); rintro e w20 ⟨rfl, hb⟩; refine ⟨_, rfl, ?_⟩; replace HO600 := rb HO600 hb; replace BK593 := bb BK593 hb; replace BK594 := bb BK594 hb; replace HB := sb HB hb; (try clear hb); have p602 : 0 ≤ (t601 : Int) := of_decide_eq_true (by first | (with_reducible assumption) | assumption); have q602 : t601 < (t598.length : Int) := of_decide_eq_true (by first | (with_reducible assumption) | assumption); obtain ⟨ad602, e602, hx602_0⟩ := Kd.at_int (Kd.R_reads' HO600.out).2.2 t601 p602 q602; cases e602; replace p602 := eq_true p602; replace q602 := eq_true q602))
       go_roundg k1
       case measure => have := HK1.out; omega
       case rel => exact ⟨(wrap64 (x8_1 + 1)), (wrap64 (x9_1 + 1)), (by first | rfl | (simp; done) | (simp [*]; done)), (by first | rfl | (simp; done) | (simp [*]; done)), H', ⟨by have := HK1.out; omega⟩, ⟨bk BK593.out⟩, ⟨bk BK594.out⟩, ⟨bz⟩⟩
      ·rw [if_neg c15] at H
       have c15b0 := decide_eq_false c15
       clear c15
       have H' := m0 H
       clear H
       have hnb21 := NB593_594.out
       have hnc21 := NB594_593.out
       obtain ⟨_, _⟩ := b1 BK593
       go_wp2_with (first | ((with_reducible refine gate_callee (f := 58) rfl ?_); refine gl (some 23) Tryd.func58 #[.slice A0 l0.length c0, .agg #[.slice A1_0 l1_0.length c1_0], .int .i64 x9_1] ?_; (with_reducible refine (Rf_Noisy.calls k1 _ _ l0 _ _ l1_0 x9_1 t598 _ ?side1 ?side2 ?side3 ?side4 A11.out).mono ?_); (case side1 => exact cb HR0 HB); (case side2 => exact HC0.out); (case side3 => exact cb HR1_0 HB); (case side4 => exact HC1_0.out); rintro e w23 ⟨v599, rfl, ho0, hb⟩; refine ⟨_, rfl, ?_⟩; have HO600 := m0 (Kd.R_lower ho0 (below_size bz)); replace BK593 := bb BK593 hb; replace BK594 := bb BK594 hb; replace HB := sb HB hb; (try clear hb); (try clear ho0); obtain ⟨Ao24, co24, eo24⟩ := Kd.R_slice HO600.out; subst eo24) | ((with_reducible refine gate_callee (f := 61) rfl ?_); refine gl (some 26) Tryd.func61 #[.slice Ao24 t598.length co24] ?_; (with_reducible refine (Rf_Peak.calls k1 _ _ t598 t601 _ ?side1 ?side2 A12.out).mono ?_); (case side1 => exact bc (Kd.R_reads' HO600.out).2.2); (case side2 => exact (Kd.R_reads' HO600.out).2.1); rintro e w25 ⟨rfl, hb⟩; refine ⟨_, rfl, ?_⟩; replace HO600 := rb HO600 hb; replace BK593 := bb BK593 hb; replace BK594 := bb BK594 hb; replace HB := sb HB hb; (try clear hb); have p602 : 0 ≤ (t601 : Int) := of_decide_eq_true (by first | (with_reducible assumption) | assumption); have q602 : t601 < (t598.length : Int) := of_decide_eq_true (by first | (with_reducible assumption) | assumption); obtain ⟨ad602, e602, hx602_0⟩ := Kd.at_int (Kd.R_reads' HO600.out).2.2 t601 p602 q602; cases e602; replace p602 := eq_true p602; replace q602 := eq_true q602))
       go_roundg k1
       case measure => have := HK1.out; omega
       case rel => exact ⟨(x8_1), (wrap64 (x9_1 + 1)), (by first | rfl | (simp; done) | (simp [*]; done)), (by first | rfl | (simp; done) | (simp [*]; done)), H', ⟨by have := HK1.out; omega⟩, ⟨bk BK593.out⟩, ⟨bk BK594.out⟩, ⟨bz⟩⟩
     ·rw [if_neg c14] at H
      exact absurd H (by simp)
    ·rw [if_neg c13] at H
     exact absurd H (by simp)
   ·rw [if_neg c10] at H
    have c10b0 := decide_eq_false c10
    clear c10
    replace H := ob H
    obtain ⟨⟨t596, t597⟩, A260, H⟩ := H
    (try dsimp only at H)
    have A26 := m0 A260
    clear A260
    simp only [Option.some.injEq, Prod.mk.injEq] at H
    obtain ⟨rfl, rfl⟩ := H
    go_wp2_with (first | ((with_reducible refine gate_callee (f := 41) rfl ?_); refine gl (some 35) Tryd.func41 #[.int .i64 x8_1, .int .i64 t595] ?_; (with_reducible refine (Bs_Lowest.calls k1 x8_1 t595 t596 t597 _ A26.out).mono ?_); rintro e w27 ⟨rfl, hb⟩; refine ⟨_, rfl, ?_⟩; replace BK593 := bb BK593 hb; replace BK594 := bb BK594 hb; replace HB := sb HB hb; (try clear hb); have hnb28 := NB594_593.out; have hnc28 := NB593_594.out; obtain ⟨_, _, _, _⟩ := b2 BK594))
    refine bodyPost_ret (results_cell_row rfl _ _ gb594 26 #[.int .i64 t596, .int .i64 t597] (0, 0) _ rfl (bq BK594.out) Tryd.underlying26 rfl (by kernel_rfl)) rfl ?_
    exact ez
end
section
def Rf_FalseRate.f (k : Nat) (l0_0 : List Int) (a1 : Int) (a2 : Int) : Option (Int × Int) := if 0 ≤ a1 then (if (a1 : Int).toNat ≤ 35184372088832 then ((Rf_Rate.f k (List.replicate (a1 : Int).toNat 0) l0_0 a2).bind fun bt1941 => (some (bt1941.1, bt1941.2))) else (none)) else (none)
theorem Rf_FalseRate.mono : ∀ a0 a1 a2 k, LeO (Rf_FalseRate.f k a0 a1 a2) (Rf_FalseRate.f (k + 1) a0 a1 a2) := by
 intro a0 a1 a2 k
 unfold Rf_FalseRate.f
 repeat' first
   | (with_reducible exact Rf_Rate.mono _ _ _ _)
   | (with_reducible exact LeO.refl _)
   | (with_reducible exact LeO.none _)
   | (with_reducible refine LeO.ite ?_ ?_)
   | (with_reducible refine LeO.bind ?_ (fun _ => ?_))
   | exact Rf_Rate.mono _ _ _ _
   | exact LeO.none _
   | refine LeO.ite ?_ ?_
   | refine LeO.bind ?_ (fun _ => ?_)
theorem Rf_FalseRate.calls (k : Nat) (A0_0 : Option Addr) (c0_0 : Nat) (l0_0 : List Int) (a1 : Int) (a2 : Int) (r1 : Int) (r2 : Int) (w : World) (hr0_0 : Kd.C (Kd.int .i64) w A0_0 l0_0.length l0_0) (hc0_0 : l0_0.length ≤ c0_0) (h : Rf_FalseRate.f k l0_0 a1 a2 = some (r1, r2)) :
  Calls Tryd.prog 86 #[.agg #[.slice A0_0 l0_0.length c0_0], .int .i64 a1, .int .i64 a2] w fun e w' => e = .returned (.agg #[.int .i64 r1, .int .i64 r2]) ∧ Below w.heap.size w w' := by
 have hu24 := Tryd.underlying24
 have hu26 := Tryd.underlying26
 have HR0_0 := m0 hr0_0
 have HC0_0 := m0 hc0_0
 clear hr0_0 hc0_0
 have HB := m0 (Below.refl w.heap.size w)
 have H : (if 0 ≤ a1 then (if (a1 : Int).toNat ≤ 35184372088832 then ((Rf_Rate.f k (List.replicate (a1 : Int).toNat 0) l0_0 a2).bind fun bt1941 => (some (bt1941.1, bt1941.2))) else (none)) else (none)) = some (r1, r2) := h
 clear h
 by_cases c4 : 0 ≤ a1
 ·rw [if_pos c4] at H
  have c4b0 := eq_true c4
  have c4b1 := decide_eq_true c4
  clear c4
  by_cases c5 : (a1 : Int).toNat ≤ 35184372088832
  ·rw [if_pos c5] at H
   have c5b0 := eq_true c5
   have c5b1 := decide_eq_true c5
   clear c5
   obtain ⟨y1938, hy1938⟩ : ∃ y_ : List Int, y_ = (List.replicate (a1 : Int).toNat 0) := ⟨_, rfl⟩
   replace H : ((Rf_Rate.f k y1938 l0_0 a2).bind fun bt1941 => (some (bt1941.1, bt1941.2))) = some (r1, r2) := by first | (rw [hy1938]; with_reducible exact H) | (have H2_ := (Option.bind_some _ _).symm.trans H; rw [hy1938]; with_reducible exact H2_) | (have H2_ := (Option.bind_some _ _).symm.trans H; with_reducible exact H2_) | with_reducible exact H | (rw [hy1938]; exact H) | exact H
   have Ny1938 := m0 hy1938
   clear hy1938
   replace H := ob H
   obtain ⟨⟨t1941, t1942⟩, A60, H⟩ := H
   (try dsimp only at H)
   have A6 := m0 A60
   clear A60
   simp only [Option.some.injEq, Prod.mk.injEq] at H
   obtain ⟨rfl, rfl⟩ := H
   go_enter Tryd.func86, Tryd.ntmps86
   try go_wp2_with (first | ((with_reducible refine gate_dst (N := 3) rfl ?_); refine be 3 24 #[.slice A0_0 l0_0.length c0_0] ?_; intro gb1936 hg w7 hbox hb; have BK1936 := m0 hbox; have GW1936 := m0 (bg (n := w.heap.size) hg); have GE1936 := m0 (bg (n := w.heap.size) hg); replace HB := sb HB hb; clear hb hbox hg) | ((with_reducible refine gate_dst (N := 6) rfl ?_); refine be 6 26 #[.int .i64 0, .int .i64 0] ?_; intro gb1937 hg w8 hbox hb; have BK1937 := m0 hbox; have GW1937 := m0 (bg (n := w.heap.size) hg); have GE1937 := m0 (bg (n := w.heap.size) hg); replace HB := sb HB hb; have NB1936_1937 := nl BK1936 hg; have NB1937_1936 := ng (nl BK1936 hg); replace BK1936 := bb BK1936 hb; clear hb hbox hg))
   replace BK1936 := bd BK1936; replace BK1937 := bd BK1937; replace HB := sd HB
   refine start_ (n := 6) (S := fun w' => w'.cell? ⟨gb1936, 0, none⟩ = some (.slice A0_0 l0_0.length c0_0)) (ds := []) #[false, false, false, false, false, false] (by kernel_rfl) rfl rfl ((blk_cell BK1936.out 0).trans rfl) (fun hHeld => ?_)
   generalize w8.drew = w9 at BK1936 BK1937 HB hHeld ⊢
   refine pure_ (i := 0) (N := some 7) (v := ?_) (a' := ?_) #[true, false, false, false, false, false] rfl rfl (by kernel_rfl) (fun _ _ _ h => h) (Or.inl ⟨by rfl, ?_⟩) ?_ ?_
   rotate_left
   ·intro w'
    go_simp
    with_reducible rfl
   rotate_left
   ·exact pz
   refine pure_ (i := 3) (N := some 10) (v := ?_) (a' := ?_) #[true, false, false, true, false, false] rfl rfl (by kernel_rfl) (fun _ _ _ h => h) (Or.inl ⟨by rfl, ?_⟩) ?_ ?_
   rotate_left
   ·intro w'
    go_simp
    with_reducible rfl
   rotate_left
   ·exact pz
   refine take_ (i := 2) (N := some 9) (v := ?_) (a' := ?_) #[true, false, true, true, false, false] rfl rfl (by kernel_rfl) (fun _ _ _ h => h) (Or.inl ⟨by rfl, ?_⟩) hHeld ?_ ?_
   rotate_left
   ·intro w' s0
    go_simp
    with_reducible rfl
   rotate_left
   ·exact pz
   refine oneZ 1 (some 8) #[true, true, true, true, false, false] (by kernel_rfl) fun K hK => ?_
   refine Kd.R_make_step (Kd.int .i64) _ 3 (by rfl) (N := 8) rfl 22 _ _ rfl a1 rfl rfl Tryd.underlying22 (.int .i64 0) 8 info3 rfl (by decide) (by omega) 0 (ok := fun _ => True) (okp := fun _ => True) rfl (fun _ hk => hk) trivial (of_decide_eq_true (by first | (with_reducible assumption) | assumption)) (Nat.le_trans (Nat.mul_le_mul_right _ (of_decide_eq_true (by first | (with_reducible assumption) | assumption) : a1.toNat ≤ 35184372088832)) (by omega)) (Below.refl _ _) (Nat.le_refl _) ?_
   intro v1939 w10 ho11 hb hg_ hnew_
   clear hg_ hnew_
   (first | rw [← Ny1938.out] at ho11 | (simp only [Int.reduceToNat] at ho11; rw [← Ny1938.out] at ho11))
   have HO1940 := m0 (Kd.R_lower ho11 (below_size bz)); replace BK1936 := bb BK1936 hb; replace BK1937 := bb BK1937 hb; replace HB := sb HB hb
   clear hb ho11
   obtain ⟨Ao12, co12, eo12⟩ := Kd.R_slice HO1940.out
   (first | subst eo12 | (injection eo12 with f1_ f2_ f3_; have f4_ := f1_.symm; have f5_ := f3_.symm; clear f1_ f2_ f3_; subst f4_; subst f5_))
   refine hK.out _ _ ((blk_cell BK1936.out 0).trans rfl) (fun hHeld => ?_)
   clear hK K
   refine norm_ (a' := ?_) ?_ ?_
   rotate_left
   ·show Act.put _ (some 8) _ = _
    exact pz
   refine oneZ 4 (some 11) #[true, true, true, true, true, false] (by kernel_rfl) fun K hK => ?_
   refine goes_ Tryd.func29 (by kernel_rfl) rfl #[.slice Ao12 y1938.length co12, .agg #[.slice A0_0 l0_0.length c0_0], .int .i64 a2] (by rfl) rfl rfl mz ?_
   with_reducible refine (Rf_Rate.calls k _ _ y1938 _ _ l0_0 a2 t1941 t1942 _ ?side1 ?side2 ?side3 ?side4 A6.out).mono ?_
   (case side1 => exact bc (Kd.R_reads' HO1940.out).2.2)
   (case side2 => exact (Kd.R_reads' HO1940.out).2.1)
   (case side3 => exact cb HR0_0 HB)
   (case side4 => exact HC0_0.out)
   rintro e w13 ⟨rfl, hb⟩
   refine ⟨_, rfl, ?_⟩
   replace HO1940 := rb HO1940 hb; replace BK1936 := bb BK1936 hb; replace BK1937 := bb BK1937 hb; replace HB := sb HB hb
   (try clear hb)
   refine hK.out _ _ ((blk_cell BK1936.out 0).trans rfl) (fun hHeld => ?_)
   clear hK K
   refine norm_ (a' := ?_) ?_ ?_
   rotate_left
   ·show Act.put _ (some 11) _ = _
    exact pz
   refine oneZ 5 (none) #[true, true, true, true, true, true] (by kernel_rfl) fun K hK => ?_
   have hs14 : w13.cell? ⟨gb1937, 0, none⟩ = some (.int .i64 0) := (blk_cell BK1937.out 0).trans rfl
   have hfs14 := blk_frozen BK1937.out 0
   have hns14_0 := NB1936_1937.out
   have hms14_0 := NB1937_1936.out
   have hs15 : w13.cell? ⟨gb1937, 1, none⟩ = some (.int .i64 0) := (blk_cell BK1937.out 1).trans rfl
   have hfs15 := blk_frozen BK1937.out 1
   have hns15_0 := NB1936_1937.out
   have hms15_0 := NB1937_1936.out
   refine skip_ (w1 := ?_) (by rfl) rfl ?_ ?_
   rotate_left
   ·go_simp
    rfl
   refine hK.out _ _ (((cell_far (p := ⟨gb1937, _, none⟩) NB1936_1937.out _).trans (((cell_far (p := ⟨gb1937, _, none⟩) NB1936_1937.out _).trans (hHeld))))) (fun hHeld => ?_)
   clear hK K
   refine done_ (by kernel_rfl) ?_
   try go_wp2
   refine bodyPost_ret (results_cell_row rfl _ _ gb1937 26 #[.int .i64 t1941, .int .i64 t1942] (0, 0) _ rfl (bq BK1937.out) Tryd.underlying26 rfl (by kernel_rfl)) rfl ?_
   exact ez
  ·rw [if_neg c5] at H
   exact absurd H (by simp)
 ·rw [if_neg c4] at H
  exact absurd H (by simp)
end
section
def Rf_Threshold.l0 : Nat → Int → Int → Int → Int → List Int → Option (Int)
 | 0, _, _, _, _, _ => none
 | k + 1, x1, x2, x7, x8, x1944000 => if x8 < (x1944000.length : Int) then (if x8 ≥ 0 then (if 0 ≤ x8 then ((Rf_FalseRate.f k x1944000 x1 (wrap64 ((rd x1944000 x8) + 1))).bind fun bt1945 => (if (wrap64 (1000 * bt1945.1)) ≤ (wrap64 (x2 * bt1945.2)) then (if x7 < 0 then (Rf_Threshold.l0 k x1 x2 (wrap64 ((rd x1944000 x8) + 1)) (wrap64 (x8 + 1)) x1944000) else (if (wrap64 ((rd x1944000 x8) + 1)) < x7 then (Rf_Threshold.l0 k x1 x2 (wrap64 ((rd x1944000 x8) + 1)) (wrap64 (x8 + 1)) x1944000) else (Rf_Threshold.l0 k x1 x2 x7 (wrap64 (x8 + 1)) x1944000))) else (Rf_Threshold.l0 k x1 x2 x7 (wrap64 (x8 + 1)) x1944000))) else (none)) else ((Rf_FalseRate.f k x1944000 x1 0).bind fun bt1948 => (if (wrap64 (1000 * bt1948.1)) ≤ (wrap64 (x2 * bt1948.2)) then (if x7 < 0 then (Rf_Threshold.l0 k x1 x2 0 (wrap64 (x8 + 1)) x1944000) else (if 0 < x7 then (Rf_Threshold.l0 k x1 x2 0 (wrap64 (x8 + 1)) x1944000) else (Rf_Threshold.l0 k x1 x2 x7 (wrap64 (x8 + 1)) x1944000))) else (Rf_Threshold.l0 k x1 x2 x7 (wrap64 (x8 + 1)) x1944000)))) else (some x7)
def Rf_Threshold.f (k : Nat) (l0_0 : List Int) (a1 : Int) (a2 : Int) : Option (Int) := Rf_Threshold.l0 k a1 a2 (-1) (-1) l0_0
theorem Rf_Threshold.mono_l : ∀ k, (∀ y0 y1 y2 y3 y4, LeO (Rf_Threshold.l0 k y0 y1 y2 y3 y4) (Rf_Threshold.l0 (k + 1) y0 y1 y2 y3 y4))
 | 0 => fun _ _ _ _ _ r h => by simp [Rf_Threshold.l0] at h
 | k + 1 => by
  have ih0 := Rf_Threshold.mono_l k
  ·intro y0 y1 y2 y3 y4
   unfold Rf_Threshold.l0
   repeat' first
   | (with_reducible exact ih0 _ _ _ _ _)
   | (with_reducible exact Rf_FalseRate.mono _ _ _ _)
   | (with_reducible exact LeO.refl _)
   | (with_reducible exact LeO.none _)
   | (with_reducible refine LeO.ite ?_ ?_)
   | (with_reducible refine LeO.bind ?_ (fun _ => ?_))
   | exact ih0 _ _ _ _ _
   | exact Rf_FalseRate.mono _ _ _ _
   | exact LeO.none _
   | refine LeO.ite ?_ ?_
   | refine LeO.bind ?_ (fun _ => ?_)
theorem Rf_Threshold.mono : ∀ a0 a1 a2 k, LeO (Rf_Threshold.f k a0 a1 a2) (Rf_Threshold.f (k + 1) a0 a1 a2) := by
 intro a0 a1 a2 k
 have ih0 := Rf_Threshold.mono_l k
 unfold Rf_Threshold.f
 repeat' first
   | (with_reducible exact ih0 _ _ _ _ _)
   | (with_reducible exact Rf_FalseRate.mono _ _ _ _)
   | (with_reducible exact LeO.refl _)
   | (with_reducible exact LeO.none _)
   | (with_reducible refine LeO.ite ?_ ?_)
   | (with_reducible refine LeO.bind ?_ (fun _ => ?_))
   | exact ih0 _ _ _ _ _
   | exact Rf_FalseRate.mono _ _ _ _
   | exact LeO.none _
   | refine LeO.ite ?_ ?_
   | refine LeO.bind ?_ (fun _ => ?_)
theorem Rf_Threshold.calls (k : Nat) (A0_0 : Option Addr) (c0_0 : Nat) (l0_0 : List Int) (a1 : Int) (a2 : Int) (r : Int) (w : World) (hr0_0 : Kd.C (Kd.int .i64) w A0_0 l0_0.length l0_0) (hc0_0 : l0_0.length ≤ c0_0) (h : Rf_Threshold.f k l0_0 a1 a2 = some r) :
  Calls Tryd.prog 87 #[.agg #[.slice A0_0 l0_0.length c0_0], .int .i64 a1, .int .i64 a2] w fun e w' => e = .returned (.int .i64 r) ∧ Below w.heap.size w w' := by
 have hu24 := Tryd.underlying24
 have hu26 := Tryd.underlying26
 have HR0_0 := m0 hr0_0
 have HC0_0 := m0 hc0_0
 clear hr0_0 hc0_0
 have HB := m0 (Below.refl w.heap.size w)
 have H : (Rf_Threshold.l0 k a1 a2 (-1) (-1) l0_0) = some r := h
 clear h
 have H' := m0 H
 clear H
 go_enter Tryd.func87, Tryd.ntmps87
 go_wp2_with (first | ((with_reducible refine gate_dst (N := 3) rfl ?_); refine be 3 24 #[.slice A0_0 l0_0.length c0_0] ?_; intro gb1943 hg w4 hbox hb; have BK1943 := m0 hbox; have GW1943 := m0 (bg (n := w.heap.size) hg); have GE1943 := m0 (bg (n := w.heap.size) hg); replace HB := sb HB hb; clear hb hbox hg))
 go_loopg [7, 8] k (fun kq v7 v8 w' => ∃ (x7_1 : Int) (x8_1 : Int), v7 = .int .i64 x7_1 ∧ v8 = .int .i64 x8_1 ∧ Aside0 (Rf_Threshold.l0 kq a1 a2 x7_1 x8_1 l0_0 = some r) ∧ Aside0 (kq ≤ k) ∧ Aside0 (w'.heap[gb1943]? = some (.cells #[(.slice A0_0 l0_0.length c0_0)] 24 (0, 0))) ∧ Aside0 (Below w.heap.size w w'))
 case atStart => exact ⟨((-1)), ((-1)), (by first | rfl | (simp; done) | (simp [*]; done)), (by first | rfl | (simp; done) | (simp [*]; done)), H', ⟨Nat.le_refl _⟩, ⟨bk BK1943.out⟩, ⟨bz⟩⟩
 case round =>
  clear H'
  try clear p2
  obtain ⟨x7_1, x8_1, rfl, rfl, HA, HK1, BK1943, HB⟩ := hrel
  cases gk with
  | zero => exact absurd HA.out (by simp [Rf_Threshold.l0])
  | succ k1 =>
   have H := HA.out
   clear HA
   simp only [Rf_Threshold.l0] at H
   by_cases c5 : x8_1 < (l0_0.length : Int)
   ·rw [if_pos c5] at H
    have c5b0 := decide_eq_true c5
    clear c5
    by_cases c6 : x8_1 ≥ 0
    ·rw [if_pos c6] at H
     have c6b0 := decide_eq_true c6
     clear c6
     by_cases c7 : 0 ≤ x8_1
     ·rw [if_pos c7] at H
      have c7b0 := decide_eq_true c7
      clear c7
      replace H := ob H
      obtain ⟨⟨t1945, t1946⟩, A80, H⟩ := H
      (try dsimp only at H)
      have A8 := m0 A80
      clear A80
      by_cases c9 : (wrap64 (1000 * t1945)) ≤ (wrap64 (a2 * t1946))
      ·rw [if_pos c9] at H
       have c9b0 := decide_eq_true c9
       clear c9
       by_cases c10 : x7_1 < 0
       ·rw [if_pos c10] at H
        have c10b0 := decide_eq_true c10
        clear c10
        have H' := m0 H
        clear H
        obtain ⟨_, _⟩ := b1 BK1943
        have p1944 : 0 ≤ (x8_1 : Int) := of_decide_eq_true (by first | (with_reducible assumption) | assumption)
        have q1944 : x8_1 < (l0_0.length : Int) := of_decide_eq_true (by first | (with_reducible assumption) | assumption)
        obtain ⟨ad1944, e1944, hx1944_0⟩ := Kd.at_int HR0_0.out x8_1 p1944 q1944
        cases e1944
        replace hx1944_0 := (HB.out.cell (World.block_lt_of_cell? w _ hx1944_0)).trans hx1944_0
        replace p1944 := eq_true p1944
        replace q1944 := eq_true q1944
        go_wp2_with (first | ((with_reducible refine gate_callee (f := 86) rfl ?_); refine gl (some 29) Tryd.func86 #[.agg #[.slice (some ad1944) l0_0.length c0_0], .int .i64 a1, .int .i64 (wrap64 ((rd l0_0 x8_1) + 1))] ?_; (with_reducible refine (Rf_FalseRate.calls k1 _ _ l0_0 a1 (wrap64 ((rd l0_0 x8_1) + 1)) t1945 t1946 _ ?side1 ?side2 A8.out).mono ?_); (case side1 => exact cb HR0_0 HB); (case side2 => exact HC0_0.out); rintro e w12 ⟨rfl, hb⟩; refine ⟨_, rfl, ?_⟩; replace BK1943 := bb BK1943 hb; replace HB := sb HB hb; (try clear hb)) | ((with_reducible refine gate_dst (N := 10) rfl ?_); refine be 10 26 #[.int .i64 0, .int .i64 0] ?_; intro gb1947 hg w13 hbox hb; have BK1947 := m0 hbox; have GW1947 := m0 (bg (n := w.heap.size) hg); have GE1947 := m0 (bg (n := w.heap.size) hg); replace HB := sb HB hb; have NB1943_1947 := nl BK1943 hg; have NB1947_1943 := ng (nl BK1943 hg); replace BK1943 := bb BK1943 hb; clear hb hbox hg; have hnb14 := NB1947_1943.out; have hnc14 := NB1943_1947.out; obtain ⟨_, _, _, _⟩ := b2 BK1947))
        go_roundg k1
        case measure => have := HK1.out; omega
        case rel => exact ⟨(wrap64 ((rd l0_0 x8_1) + 1)), (wrap64 (x8_1 + 1)), (by first | rfl | (simp; done) | (simp [*]; done)), (by first | rfl | (simp; done) | (simp [*]; done)), H', ⟨by have := HK1.out; omega⟩, ⟨bq BK1943.out⟩, ⟨bz⟩⟩
       ·rw [if_neg c10] at H
        have c10b0 := decide_eq_false c10
        clear c10
        by_cases c16 : (wrap64 ((rd l0_0 x8_1) + 1)) < x7_1
        ·rw [if_pos c16] at H
         have c16b0 := decide_eq_true c16
         clear c16
         have H' := m0 H
         clear H
         obtain ⟨_, _⟩ := b1 BK1943
         have p1944 : 0 ≤ (x8_1 : Int) := of_decide_eq_true (by first | (with_reducible assumption) | assumption)
         have q1944 : x8_1 < (l0_0.length : Int) := of_decide_eq_true (by first | (with_reducible assumption) | assumption)
         obtain ⟨ad1944, e1944, hx1944_0⟩ := Kd.at_int HR0_0.out x8_1 p1944 q1944
         cases e1944
         replace hx1944_0 := (HB.out.cell (World.block_lt_of_cell? w _ hx1944_0)).trans hx1944_0
         replace p1944 := eq_true p1944
         replace q1944 := eq_true q1944
         go_wp2_with (first | ((with_reducible refine gate_callee (f := 86) rfl ?_); refine gl (some 29) Tryd.func86 #[.agg #[.slice (some ad1944) l0_0.length c0_0], .int .i64 a1, .int .i64 (wrap64 ((rd l0_0 x8_1) + 1))] ?_; (with_reducible refine (Rf_FalseRate.calls k1 _ _ l0_0 a1 (wrap64 ((rd l0_0 x8_1) + 1)) t1945 t1946 _ ?side1 ?side2 A8.out).mono ?_); (case side1 => exact cb HR0_0 HB); (case side2 => exact HC0_0.out); rintro e w18 ⟨rfl, hb⟩; refine ⟨_, rfl, ?_⟩; replace BK1943 := bb BK1943 hb; replace HB := sb HB hb; (try clear hb)) | ((with_reducible refine gate_dst (N := 10) rfl ?_); refine be 10 26 #[.int .i64 0, .int .i64 0] ?_; intro gb1947 hg w19 hbox hb; have BK1947 := m0 hbox; have GW1947 := m0 (bg (n := w.heap.size) hg); have GE1947 := m0 (bg (n := w.heap.size) hg); replace HB := sb HB hb; have NB1943_1947 := nl BK1943 hg; have NB1947_1943 := ng (nl BK1943 hg); replace BK1943 := bb BK1943 hb; clear hb hbox hg; have hnb20 := NB1947_1943.out; have hnc20 := NB1943_1947.out; obtain ⟨_, _, _, _⟩ := b2 BK1947))
         go_roundg k1
         case measure => have := HK1.out; omega
         case rel => exact ⟨(wrap64 ((rd l0_0 x8_1) + 1)), (wrap64 (x8_1 + 1)), (by first | rfl | (simp; done) | (simp [*]; done)), (by first | rfl | (simp; done) | (simp [*]; done)), H', ⟨by have := HK1.out; omega⟩, ⟨bq BK1943.out⟩, ⟨bz⟩⟩
        ·rw [if_neg c16] at H
         have c16b0 := decide_eq_false c16
         clear c16
         have H' := m0 H
         clear H
         obtain ⟨_, _⟩ := b1 BK1943
         have p1944 : 0 ≤ (x8_1 : Int) := of_decide_eq_true (by first | (with_reducible assumption) | assumption)
         have q1944 : x8_1 < (l0_0.length : Int) := of_decide_eq_true (by first | (with_reducible assumption) | assumption)
         obtain ⟨ad1944, e1944, hx1944_0⟩ := Kd.at_int HR0_0.out x8_1 p1944 q1944
         cases e1944
         replace hx1944_0 := (HB.out.cell (World.block_lt_of_cell? w _ hx1944_0)).trans hx1944_0
         replace p1944 := eq_true p1944
         replace q1944 := eq_true q1944
         go_wp2_with (first | ((with_reducible refine gate_callee (f := 86) rfl ?_); refine gl (some 29) Tryd.func86 #[.agg #[.slice (some ad1944) l0_0.length c0_0], .int .i64 a1, .int .i64 (wrap64 ((rd l0_0 x8_1) + 1))] ?_; (with_reducible refine (Rf_FalseRate.calls k1 _ _ l0_0 a1 (wrap64 ((rd l0_0 x8_1) + 1)) t1945 t1946 _ ?side1 ?side2 A8.out).mono ?_); (case side1 => exact cb HR0_0 HB); (case side2 => exact HC0_0.out); rintro e w23 ⟨rfl, hb⟩; refine ⟨_, rfl, ?_⟩; replace BK1943 := bb BK1943 hb; replace HB := sb HB hb; (try clear hb)) | ((with_reducible refine gate_dst (N := 10) rfl ?_); refine be 10 26 #[.int .i64 0, .int .i64 0] ?_; intro gb1947 hg w24 hbox hb; have BK1947 := m0 hbox; have GW1947 := m0 (bg (n := w.heap.size) hg); have GE1947 := m0 (bg (n := w.heap.size) hg); replace HB := sb HB hb; have NB1943_1947 := nl BK1943 hg; have NB1947_1943 := ng (nl BK1943 hg); replace BK1943 := bb BK1943 hb; clear hb hbox hg; have hnb25 := NB1947_1943.out; have hnc25 := NB1943_1947.out; obtain ⟨_, _, _, _⟩ := b2 BK1947))
         go_roundg k1
         case measure => have := HK1.out; omega
         case rel => exact ⟨(x7_1), (wrap64 (x8_1 + 1)), (by first | rfl | (simp; done) | (simp [*]; done)), (by first | rfl | (simp; done) | (simp [*]; done)), H', ⟨by have := HK1.out; omega⟩, ⟨bq BK1943.out⟩, ⟨bz⟩⟩
      ·rw [if_neg c9] at H
       have c9b0 := decide_eq_false c9
       clear c9
       have H' := m0 H
       clear H
       obtain ⟨_, _⟩ := b1 BK1943
       have p1944 : 0 ≤ (x8_1 : Int) := of_decide_eq_true (by first | (with_reducible assumption) | assumption)
       have q1944 : x8_1 < (l0_0.length : Int) := of_decide_eq_true (by first | (with_reducible assumption) | assumption)
       obtain ⟨ad1944, e1944, hx1944_0⟩ := Kd.at_int HR0_0.out x8_1 p1944 q1944
       cases e1944
       replace hx1944_0 := (HB.out.cell (World.block_lt_of_cell? w _ hx1944_0)).trans hx1944_0
       replace p1944 := eq_true p1944
       replace q1944 := eq_true q1944
       go_wp2_with (first | ((with_reducible refine gate_callee (f := 86) rfl ?_); refine gl (some 29) Tryd.func86 #[.agg #[.slice (some ad1944) l0_0.length c0_0], .int .i64 a1, .int .i64 (wrap64 ((rd l0_0 x8_1) + 1))] ?_; (with_reducible refine (Rf_FalseRate.calls k1 _ _ l0_0 a1 (wrap64 ((rd l0_0 x8_1) + 1)) t1945 t1946 _ ?side1 ?side2 A8.out).mono ?_); (case side1 => exact cb HR0_0 HB); (case side2 => exact HC0_0.out); rintro e w28 ⟨rfl, hb⟩; refine ⟨_, rfl, ?_⟩; replace BK1943 := bb BK1943 hb; replace HB := sb HB hb; (try clear hb)) | ((with_reducible refine gate_dst (N := 10) rfl ?_); refine be 10 26 #[.int .i64 0, .int .i64 0] ?_; intro gb1947 hg w29 hbox hb; have BK1947 := m0 hbox; have GW1947 := m0 (bg (n := w.heap.size) hg); have GE1947 := m0 (bg (n := w.heap.size) hg); replace HB := sb HB hb; have NB1943_1947 := nl BK1943 hg; have NB1947_1943 := ng (nl BK1943 hg); replace BK1943 := bb BK1943 hb; clear hb hbox hg; have hnb30 := NB1947_1943.out; have hnc30 := NB1943_1947.out; obtain ⟨_, _, _, _⟩ := b2 BK1947))
       go_roundg k1
       case measure => have := HK1.out; omega
       case rel => exact ⟨(x7_1), (wrap64 (x8_1 + 1)), (by first | rfl | (simp; done) | (simp [*]; done)), (by first | rfl | (simp; done) | (simp [*]; done)), H', ⟨by have := HK1.out; omega⟩, ⟨bq BK1943.out⟩, ⟨bz⟩⟩
     ·rw [if_neg c7] at H
      exact absurd H (by simp)
    ·rw [if_neg c6] at H
     have c6b0 := decide_eq_false c6
     clear c6
     replace H := ob H
     obtain ⟨⟨t1948, t1949⟩, A320, H⟩ := H
     (try dsimp only at H)
     have A32 := m0 A320
     clear A320
     by_cases c33 : (wrap64 (1000 * t1948)) ≤ (wrap64 (a2 * t1949))
     ·rw [if_pos c33] at H
      have c33b0 := decide_eq_true c33
      clear c33
      by_cases c34 : x7_1 < 0
      ·rw [if_pos c34] at H
       have c34b0 := decide_eq_true c34
       clear c34
       have H' := m0 H
       clear H
       obtain ⟨_, _⟩ := b1 BK1943
       go_wp2_with (first | ((with_reducible refine gate_callee (f := 86) rfl ?_); refine gl (some 29) Tryd.func86 #[.agg #[.slice A0_0 l0_0.length c0_0], .int .i64 a1, .int .i64 0] ?_; (with_reducible refine (Rf_FalseRate.calls k1 _ _ l0_0 a1 0 t1948 t1949 _ ?side1 ?side2 A32.out).mono ?_); (case side1 => exact cb HR0_0 HB); (case side2 => exact HC0_0.out); rintro e w36 ⟨rfl, hb⟩; refine ⟨_, rfl, ?_⟩; replace BK1943 := bb BK1943 hb; replace HB := sb HB hb; (try clear hb)) | ((with_reducible refine gate_dst (N := 10) rfl ?_); refine be 10 26 #[.int .i64 0, .int .i64 0] ?_; intro gb1950 hg w37 hbox hb; have BK1950 := m0 hbox; have GW1950 := m0 (bg (n := w.heap.size) hg); have GE1950 := m0 (bg (n := w.heap.size) hg); replace HB := sb HB hb; have NB1943_1950 := nl BK1943 hg; have NB1950_1943 := ng (nl BK1943 hg); replace BK1943 := bb BK1943 hb; clear hb hbox hg; have hnb38 := NB1950_1943.out; have hnc38 := NB1943_1950.out; obtain ⟨_, _, _, _⟩ := b2 BK1950))
       go_roundg k1
       case measure => have := HK1.out; omega
       case rel => exact ⟨(0), (wrap64 (x8_1 + 1)), (by first | rfl | (simp; done) | (simp [*]; done)), (by first | rfl | (simp; done) | (simp [*]; done)), H', ⟨by have := HK1.out; omega⟩, ⟨bq BK1943.out⟩, ⟨bz⟩⟩
      ·rw [if_neg c34] at H
       have c34b0 := decide_eq_false c34
       clear c34
       by_cases c40 : 0 < x7_1
       ·rw [if_pos c40] at H
        have c40b0 := decide_eq_true c40
        clear c40
        have H' := m0 H
        clear H
        obtain ⟨_, _⟩ := b1 BK1943
        go_wp2_with (first | ((with_reducible refine gate_callee (f := 86) rfl ?_); refine gl (some 29) Tryd.func86 #[.agg #[.slice A0_0 l0_0.length c0_0], .int .i64 a1, .int .i64 0] ?_; (with_reducible refine (Rf_FalseRate.calls k1 _ _ l0_0 a1 0 t1948 t1949 _ ?side1 ?side2 A32.out).mono ?_); (case side1 => exact cb HR0_0 HB); (case side2 => exact HC0_0.out); rintro e w42 ⟨rfl, hb⟩; refine ⟨_, rfl, ?_⟩; replace BK1943 := bb BK1943 hb; replace HB := sb HB hb; (try clear hb)) | ((with_reducible refine gate_dst (N := 10) rfl ?_); refine be 10 26 #[.int .i64 0, .int .i64 0] ?_; intro gb1950 hg w43 hbox hb; have BK1950 := m0 hbox; have GW1950 := m0 (bg (n := w.heap.size) hg); have GE1950 := m0 (bg (n := w.heap.size) hg); replace HB := sb HB hb; have NB1943_1950 := nl BK1943 hg; have NB1950_1943 := ng (nl BK1943 hg); replace BK1943 := bb BK1943 hb; clear hb hbox hg; have hnb44 := NB1950_1943.out; have hnc44 := NB1943_1950.out; obtain ⟨_, _, _, _⟩ := b2 BK1950))
        go_roundg k1
        case measure => have := HK1.out; omega
        case rel => exact ⟨(0), (wrap64 (x8_1 + 1)), (by first | rfl | (simp; done) | (simp [*]; done)), (by first | rfl | (simp; done) | (simp [*]; done)), H', ⟨by have := HK1.out; omega⟩, ⟨bq BK1943.out⟩, ⟨bz⟩⟩
       ·rw [if_neg c40] at H
        have c40b0 := decide_eq_false c40
        clear c40
        have H' := m0 H
        clear H
        obtain ⟨_, _⟩ := b1 BK1943
        go_wp2_with (first | ((with_reducible refine gate_callee (f := 86) rfl ?_); refine gl (some 29) Tryd.func86 #[.agg #[.slice A0_0 l0_0.length c0_0], .int .i64 a1, .int .i64 0] ?_; (with_reducible refine (Rf_FalseRate.calls k1 _ _ l0_0 a1 0 t1948 t1949 _ ?side1 ?side2 A32.out).mono ?_); (case side1 => exact cb HR0_0 HB); (case side2 => exact HC0_0.out); rintro e w47 ⟨rfl, hb⟩; refine ⟨_, rfl, ?_⟩; replace BK1943 := bb BK1943 hb; replace HB := sb HB hb; (try clear hb)) | ((with_reducible refine gate_dst (N := 10) rfl ?_); refine be 10 26 #[.int .i64 0, .int .i64 0] ?_; intro gb1950 hg w48 hbox hb; have BK1950 := m0 hbox; have GW1950 := m0 (bg (n := w.heap.size) hg); have GE1950 := m0 (bg (n := w.heap.size) hg); replace HB := sb HB hb; have NB1943_1950 := nl BK1943 hg; have NB1950_1943 := ng (nl BK1943 hg); replace BK1943 := bb BK1943 hb; clear hb hbox hg; have hnb49 := NB1950_1943.out; have hnc49 := NB1943_1950.out; obtain ⟨_, _, _, _⟩ := b2 BK1950))
        go_roundg k1
        case measure => have := HK1.out; omega
        case rel => exact ⟨(x7_1), (wrap64 (x8_1 + 1)), (by first | rfl | (simp; done) | (simp [*]; done)), (by first | rfl | (simp; done) | (simp [*]; done)), H', ⟨by have := HK1.out; omega⟩, ⟨bq BK1943.out⟩, ⟨bz⟩⟩
     ·rw [if_neg c33] at H
      have c33b0 := decide_eq_false c33
      clear c33
      have H' := m0 H
      clear H
      obtain ⟨_, _⟩ := b1 BK1943
      go_wp2_with (first | ((with_reducible refine gate_callee (f := 86) rfl ?_); refine gl (some 29) Tryd.func86 #[.agg #[.slice A0_0 l0_0.length c0_0], .int .i64 a1, .int .i64 0] ?_; (with_reducible refine (Rf_FalseRate.calls k1 _ _ l0_0 a1 0 t1948 t1949 _ ?side1 ?side2 A32.out).mono ?_); (case side1 => exact cb HR0_0 HB); (case side2 => exact HC0_0.out); rintro e w52 ⟨rfl, hb⟩; refine ⟨_, rfl, ?_⟩; replace BK1943 := bb BK1943 hb; replace HB := sb HB hb; (try clear hb)) | ((with_reducible refine gate_dst (N := 10) rfl ?_); refine be 10 26 #[.int .i64 0, .int .i64 0] ?_; intro gb1950 hg w53 hbox hb; have BK1950 := m0 hbox; have GW1950 := m0 (bg (n := w.heap.size) hg); have GE1950 := m0 (bg (n := w.heap.size) hg); replace HB := sb HB hb; have NB1943_1950 := nl BK1943 hg; have NB1950_1943 := ng (nl BK1943 hg); replace BK1943 := bb BK1943 hb; clear hb hbox hg; have hnb54 := NB1950_1943.out; have hnc54 := NB1943_1950.out; obtain ⟨_, _, _, _⟩ := b2 BK1950))
      go_roundg k1
      case measure => have := HK1.out; omega
      case rel => exact ⟨(x7_1), (wrap64 (x8_1 + 1)), (by first | rfl | (simp; done) | (simp [*]; done)), (by first | rfl | (simp; done) | (simp [*]; done)), H', ⟨by have := HK1.out; omega⟩, ⟨bq BK1943.out⟩, ⟨bz⟩⟩
   ·rw [if_neg c5] at H
    have c5b0 := decide_eq_false c5
    clear c5
    obtain rfl := Option.some.inj H
    obtain ⟨_, _⟩ := b1 BK1943
    go_wp2
    go_ret
    exact ez
end
end Go.Proofs.YtjnkphmcndaijaaDoor.A
