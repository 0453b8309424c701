/- Walks of the program's functions (printed, made shorter), each with what it computes. -/
import Derived.Test.YtjnkphmcndaijaaDoorDet04
import Derived.Test.YtjnkphmcndaijaaDoorDet03
import Derived.Test.YtjnkphmcndaijaaDoorDet10
import Derived.Test.YtjnkphmcndaijaaDoorDet14
import Derived.Test.YtjnkphmcndaijaaDoorDet13
namespace Go.Proofs.YtjnkphmcndaijaaDoor.A
open Go.RowKit Go.Proofs.YtjnkphmcndaijaaDoorW.PrintWords Go.Proofs.YtjnkphmcndaijaaDoorW.PrintLast Go.Proofs.YtjnkphmcndaijaaDoorW.PrintMore
attribute [local go_sem] max2_int min2_int max_two min_two max_three min_three max_four min_four
set_option linter.unusedVariables false
set_option linter.unusedSimpArgs false
section
def glidepathref02_Noisy.l0 : Nat → List Int → Int → List Int → Int → List Int → Option (List Int)
 | 0, _, _, _, _, _ => none
 | k + 1, x0, x2, x7, x8, x463000 => if x8 < (x0.length : Int) then (if 0 ≤ x8 then (if (x463000.length : Int) = 0 then (none) else (if 0 ≤ (Int.tmod x2 (x463000.length : Int)) then (if (Int.tmod x2 (x463000.length : Int)) < (x463000.length : Int) then (if x7.length < 17592186044416 then (glidepathref02_Noisy.l0 k x0 (wrap64 (Int.tdiv x2 (x463000.length : Int))) (x7 ++ [wrap64 ((rd x0 x8) + (rd x463000 (Int.tmod x2 (x463000.length : Int))))]) (wrap64 (x8 + 1)) x463000) else (none)) else (none)) else (none))) else (none)) else (some x7)
def glidepathref02_Noisy.f (k : Nat) (l0 : List Int) (l1_0 : List Int) (a2 : Int) : Option (List Int) := glidepathref02_Noisy.l0 k l0 a2 ([] : List Int) 0 l1_0
theorem glidepathref02_Noisy.mono_l : ∀ k, (∀ y0 y1 y2 y3 y4, LeO (glidepathref02_Noisy.l0 k y0 y1 y2 y3 y4) (glidepathref02_Noisy.l0 (k + 1) y0 y1 y2 y3 y4))
 | 0 => fun _ _ _ _ _ r h => by simp [glidepathref02_Noisy.l0] at h
 | k + 1 => by
  have ih0 := glidepathref02_Noisy.mono_l k
  ·intro y0 y1 y2 y3 y4
   unfold glidepathref02_Noisy.l0
   repeat' first
   | (with_reducible exact ih0 _ _ _ _ _)
   | (with_reducible exact LeO.refl _)
   | (with_reducible exact LeO.none _)
   | (with_reducible refine LeO.ite ?_ ?_)
   | (with_reducible refine LeO.bind ?_ (fun _ => ?_))
   | exact ih0 _ _ _ _ _
   | exact LeO.none _
   | refine LeO.ite ?_ ?_
   | refine LeO.bind ?_ (fun _ => ?_)
theorem glidepathref02_Noisy.mono : ∀ a0 a1 a2 k, LeO (glidepathref02_Noisy.f k a0 a1 a2) (glidepathref02_Noisy.f (k + 1) a0 a1 a2) := by
 intro a0 a1 a2 k
 have ih0 := glidepathref02_Noisy.mono_l k
 unfold glidepathref02_Noisy.f
 repeat' first
   | (with_reducible exact ih0 _ _ _ _ _)
   | (with_reducible exact LeO.refl _)
   | (with_reducible exact LeO.none _)
   | (with_reducible refine LeO.ite ?_ ?_)
   | (with_reducible refine LeO.bind ?_ (fun _ => ?_))
   | exact ih0 _ _ _ _ _
   | exact LeO.none _
   | refine LeO.ite ?_ ?_
   | refine LeO.bind ?_ (fun _ => ?_)
def glidepathref02_Noisy.T5 : Bool × List (List Nat × List Nat) := (true, [([], []), ([], []), ([], []), ([1, 2], [1, 2]), ([3], [3]), ([], []), ([5], [5]), ([], []), ([], []), ([8], [8]), ([9], [9]), ([7, 10], [7, 10]), ([6, 11], [6, 11]), ([12], [12]), ([4, 13], [4, 13]), ([14], [14]), ([0, 15], [0, 15]), ([16, 16, 0, 1, 2, 3, 4, 5, 6, 7, 8, 9, 10, 11, 12, 13, 14, 15, 16], [0, 16])])
def glidepathref02_Noisy.B5 : List Nat := [0, 0, 0, 6, 14, 0, 32, 0, 0, 256, 768, 1920, 4064, 8160, 16382, 32766, 65535, 131071]
theorem glidepathref02_Noisy.tab5 : rtab .any (opsOf Tryd.f58 5) = glidepathref02_Noisy.T5 := by kernel_rfl
theorem glidepathref02_Noisy.bits5 : waitsOk glidepathref02_Noisy.T5.2 glidepathref02_Noisy.B5 = true := by kernel_rfl
set_option maxHeartbeats 8000000 in
set_option maxRecDepth 100000 in
theorem glidepathref02_Noisy.calls (k : Nat) (A0 : Option Addr) (c0 : Nat) (l0 : List Int) (A1_0 : Option Addr) (c1_0 : Nat) (l1_0 : List Int) (a2 : Int) (r : List Int) (w : World) (hr0 : Kd.C (Kd.int .i64) w A0 l0.length l0) (hc0 : l0.length ≤ c0) (hr1_0 : Kd.C (Kd.int .i64) w A1_0 l1_0.length l1_0) (hc1_0 : l1_0.length ≤ c1_0) (h : glidepathref02_Noisy.f k l0 l1_0 a2 = some r) :
  Calls Tryd.prog 58 #[.slice A0 l0.length c0, .agg #[.slice A1_0 l1_0.length c1_0], .int .i64 a2] w fun e w' => ∃ v0_ : Value, e = .returned (v0_) ∧ Kd.R (Kd.int .i64) 3 w' w.heap.size (fun _ => True) v0_ r ∧ Below w.heap.size w w' := by
 have hu24 := Tryd.underlying24
 have HR0 := Aside0.mk hr0
 have HC0 := Aside0.mk hc0
 clear hr0 hc0
 have HR1_0 := Aside0.mk hr1_0
 have HC1_0 := Aside0.mk hc1_0
 clear hr1_0 hc1_0
 have HB := Aside0.mk (Below.refl w.heap.size w)
 have H : (glidepathref02_Noisy.l0 k l0 a2 ([] : List Int) 0 l1_0) = some r := h
 clear h
 have H' := Aside0.mk H
 clear H
 go_enter Tryd.func58, Tryd.ntmps58
 go_wp2_with (first | ((with_reducible refine gate_dst (N := 4) rfl ?_); refine be 4 24 #[.slice A1_0 l1_0.length c1_0] ?_; intro gb462 hg w4 hbox hb; have BK462 := Aside0.mk hbox; have GW462 := Aside0.mk (bg (n := w.heap.size) hg); have GE462 := Aside0.mk (bg (n := w.heap.size) hg); replace HB := sb HB hb; clear hb hbox hg))
 go_loopg [2, 7, 8] k (fun kq v2 v7 v8 w' => ∃ (x2_1 : Int) (x7_1 : List Int) (x8_1 : Int), v2 = .int .i64 x2_1 ∧ v8 = .int .i64 x8_1 ∧ Aside0 (glidepathref02_Noisy.l0 kq l0 x2_1 x7_1 x8_1 l1_0 = some r) ∧ Aside0 (kq ≤ k) ∧ Aside0 (Kd.R (Kd.int .i64) 3 w' w.heap.size (fun _ => True) v7 x7_1) ∧ Aside0 (w'.heap[gb462]? = some (.cells #[(.slice A1_0 l1_0.length c1_0)] 24 (0, 0))) ∧ Aside0 (Below w.heap.size w w'))
 case atStart => exact ⟨(a2), (([] : List Int)), (0), (by first | rfl | (simp; done) | (simp [*]; done)), (by first | rfl | (simp; done) | (simp [*]; done)), H', ⟨Nat.le_refl _⟩, ⟨by first | exact Kd.R_nil _ _ _ _ _ | exact Kd.N_nil _ _ _ _ _ | exact Kd.V_nil _ _ _ _ _ | exact Kd.Q_nil _ _ _ _ _ | exact Kd.S_nil _ _ _ _ _⟩, ⟨by (with_reducible repeat (first | refine blk_drewN ?_ _ | refine blk_drew ?_ | refine blk_alloc ?_ _)); exact BK462.out⟩, ⟨by repeat (first | (with_reducible first | exact HB.out | apply below_alloc | apply pw_below_drewN | apply below_drew1 | refine below_set ?_ GE462.out) | exact HB.out)⟩⟩
 case round =>
  clear H'
  try clear c1
  try clear p2
  obtain ⟨x2_1, x7_1, x8_1, rfl, rfl, HA, HK1, HO_7, BK462, HB⟩ := hrel
  cases gk with
  | zero => exact absurd HA.out (by simp [glidepathref02_Noisy.l0])
  | succ k1 =>
   have H := HA.out
   clear HA
   simp only [glidepathref02_Noisy.l0] at H
   by_cases c5 : x8_1 < (l0.length : Int)
   ·rw [if_pos c5] at H
    have c5b0 := decide_eq_true c5
    clear c5
    by_cases c6 : 0 ≤ x8_1
    ·rw [if_pos c6] at H
     have c6b0 := decide_eq_true c6
     clear c6
     by_cases c7 : (l1_0.length : Int) = 0
     ·rw [if_pos c7] at H
      exact absurd H (by simp)
     ·rw [if_neg c7] at H
      have c7b0 := beq_eq_false_iff_ne.mpr c7
      have c7b1 := bne_iff_ne.mpr c7
      have c7b2 : ¬ (l1_0 = []) := fun h_ => c7 (by rw [h_]; rfl)
      obtain ⟨ji8, hji8⟩ : ∃ j_ : Int, (Int.tmod x2_1 (l1_0.length : Int)) = j_ := ⟨_, rfl⟩
      replace H : (if 0 ≤ (ji8) then (if (ji8) < (l1_0.length : Int) then (if x7_1.length < 17592186044416 then (glidepathref02_Noisy.l0 k1 l0 (wrap64 (Int.tdiv x2_1 (l1_0.length : Int))) (x7_1 ++ [wrap64 ((rd l0 x8_1) + (rd l1_0 (ji8)))]) (wrap64 (x8_1 + 1)) l1_0) else (none)) else (none)) else (none)) = some r := by first | (rw [hji8] at H; exact H) | (simp only [hji8] at H ⊢; exact H)
      by_cases c9 : 0 ≤ (ji8)
      ·rw [if_pos c9] at H
       have c9b0 := decide_eq_true c9
       clear c9
       by_cases c10 : (ji8) < (l1_0.length : Int)
       ·rw [if_pos c10] at H
        have c10b0 := decide_eq_true c10
        clear c10
        by_cases c11 : x7_1.length < 17592186044416
        ·rw [if_pos c11] at H
         have LMc11 := Aside0.mk c11
         clear c11
         obtain ⟨y465, hy465⟩ : ∃ y_ : List Int, y_ = (x7_1 ++ [wrap64 ((rd l0 x8_1) + (rd l1_0 (ji8)))]) := ⟨_, rfl⟩
         replace H : (glidepathref02_Noisy.l0 k1 l0 (wrap64 (Int.tdiv x2_1 (l1_0.length : Int))) y465 (wrap64 (x8_1 + 1)) l1_0) = some r := by first | (rw [hy465]; with_reducible exact H) | (have H2_ := (Option.bind_some _ _).symm.trans H; rw [hy465]; with_reducible exact H2_) | (have H2_ := (Option.bind_some _ _).symm.trans H; with_reducible exact H2_) | with_reducible exact H | (rw [hy465]; exact H) | exact H
         have Ny465 := Aside0.mk hy465
         clear hy465
         have H' := Aside0.mk H
         clear H
         try go_wp2
         replace HO_7 := Aside0.mk (Kd.R_drew HO_7.out); replace BK462 := Aside0.mk (blk_drew BK462.out); replace HB := Aside0.mk (below_drew1 HB.out)
         have p463 : 0 ≤ (x8_1 : Int) := of_decide_eq_true (by first | (with_reducible assumption) | assumption)
         have q463 : x8_1 < (l0.length : Int) := of_decide_eq_true (by first | (with_reducible assumption) | assumption)
         obtain ⟨ad463, e463, hx463_0⟩ := Kd.at_int HR0.out x8_1 p463 q463
         have hw463_0 := hx463_0
         cases e463
         replace hx463_0 := (HB.out.cell (World.block_lt_of_cell? w _ hx463_0)).trans hx463_0
         replace p463 := eq_true p463
         replace q463 := eq_true q463
         have p464 : 0 ≤ ((ji8) : Int) := of_decide_eq_true (by first | (with_reducible assumption) | assumption)
         have q464 : (ji8) < (l1_0.length : Int) := of_decide_eq_true (by first | (with_reducible assumption) | assumption)
         obtain ⟨ad464, e464, hx464_0⟩ := Kd.at_int HR1_0.out (ji8) p464 q464
         have hw464_0 := hx464_0
         cases e464
         replace hx464_0 := (HB.out.cell (World.block_lt_of_cell? w _ hx464_0)).trans hx464_0
         replace p464 := eq_true p464
         replace q464 := eq_true q464
         refine start_ (n := 18) (S := fun w' => w'.cell? ⟨gb462, 0, none⟩ = some (.slice (some ad464) l1_0.length c1_0) ∧ w'.cell? (ad463.add (x8_1).toNat) = some (.int .i64 (rd l0 x8_1)) ∧ w'.cell? (ad464.add ((ji8)).toNat) = some (.int .i64 (rd l1_0 (ji8)))) (ds := []) #[false, false, false, false, false, false, false, false, false, false, false, false, false, false, false, false, false, false] (by kernel_rfl) rfl rfl ⟨(blk_cell BK462.out 0).trans rfl, ((HB.out.cell (World.block_lt_of_cell? w _ hw463_0)).trans hw463_0), ((HB.out.cell (World.block_lt_of_cell? w _ hw464_0)).trans hw464_0)⟩ (fun hHeld => ?_); refine with_tabW glidepathref02_Noisy.tab5 glidepathref02_Noisy.bits5 (fun HT_ HW_ => ?_)
         generalize wr.drew = w12 at HO_7 BK462 HB hx463_0 hx464_0 hHeld ⊢
         refine pureZ (i := 0) (N := some 15) (bs 18 1) HT_ ?_
         refine pureZ (i := 1) (N := some 16) (bs 18 3) HT_ ?_
         refine pureZ (i := 2) (N := some 17) (bs 18 7) HT_ ?_
         refine pureZ (i := 3) (N := some 18) (bs 18 15) HT_ ?_
         refine pureZ (i := 5) (N := some 20) (bs 18 47) HT_ ?_
         refine pureZ (i := 7) (N := some 22) (bs 18 175) HT_ ?_
         refine pureZ (i := 8) (N := some 23) (bs 18 431) HT_ ?_
         refine take_ (i := 4) (N := some 19) (v := ?_) (a' := ?_) (bs 18 447) rfl rfl (take_ofW HT_.out HW_.out (by kernel_rfl)) (fun _ _ _ h => h) (Or.inl ⟨by rfl, ?_⟩) hHeld ?_ ?_
         rotate_left
         ·rintro w' ⟨s0, s1, s2⟩
          go_simp
          with_reducible rfl
         rotate_left
         ·exact pz
         refine take_ (i := 6) (N := some 21) (v := ?_) (a' := ?_) (bs 18 511) rfl rfl (take_ofW HT_.out HW_.out (by kernel_rfl)) (fun _ _ _ h => h) (Or.inl ⟨by rfl, ?_⟩) hHeld ?_ ?_
         rotate_left
         ·rintro w' ⟨s0, s1, s2⟩
          go_simp
          with_reducible rfl
         rotate_left
         ·exact pz
         refine take_ (i := 9) (N := some 24) (v := ?_) (a' := ?_) (bs 18 1023) rfl rfl (take_ofW HT_.out HW_.out (by kernel_rfl)) (fun _ _ _ h => h) (Or.inl ⟨by rfl, ?_⟩) hHeld ?_ ?_
         rotate_left
         ·rintro w' ⟨s0, s1, s2⟩
          go_simp
          with_reducible rfl
         rotate_left
         ·exact pz
         refine pureZ (i := 10) (N := some 25) (bs 18 2047) HT_ ?_
         refine pureZ (i := 11) (N := some 26) (bs 18 4095) HT_ ?_
         refine pureZ (i := 12) (N := some 27) (bs 18 8191) HT_ ?_
         refine take_ (i := 13) (N := some 28) (v := ?_) (a' := ?_) (bs 18 16383) rfl rfl (take_ofW HT_.out HW_.out (by kernel_rfl)) (fun _ _ _ h => h) (Or.inl ⟨by rfl, ?_⟩) hHeld ?_ ?_
         rotate_left
         ·rintro w' ⟨s0, s1, s2⟩
          go_simp
          with_reducible rfl
         rotate_left
         ·exact pz
         refine pureZ (i := 14) (N := some 29) (bs 18 32767) HT_ ?_
         refine one_ (i := 15) (N := some 30) (bs 18 65535) rfl rfl (one_of HT_.out (by kernel_rfl)) (by decide) (fun K hK => ?_)
         refine value_ (w1 := ?_) (v := ?_) (by rfl) rfl ?_ ?_
         rotate_left 2
         ·go_simp
          constructor
          ·rfl
          ·rfl
         refine hK.out _ _ ⟨(blk_cell (blk_alloc BK462.out _) 0).trans rfl, (World.cell?_alloc_lt _ _ _ (World.block_lt_of_cell? _ _ (((HB.out.cell (World.block_lt_of_cell? w _ hw463_0)).trans hw463_0)))).trans (((HB.out.cell (World.block_lt_of_cell? w _ hw463_0)).trans hw463_0)), (World.cell?_alloc_lt _ _ _ (World.block_lt_of_cell? _ _ (((HB.out.cell (World.block_lt_of_cell? w _ hw464_0)).trans hw464_0)))).trans (((HB.out.cell (World.block_lt_of_cell? w _ hw464_0)).trans hw464_0))⟩ (fun hHeld => ?_)
         clear hK K
         refine norm_ (a' := ?_) ?_ ?_
         rotate_left
         ·show Act.put _ (some 30) _ = _
          exact pz
         refine one_ (i := 16) (N := some 31) (bs 18 131071) rfl rfl (one_of HT_.out (by kernel_rfl)) (by decide) (fun K hK => ?_)
         refine Kd.R_append_step (Kd.int .i64) (w0 := w) w.heap.size (by rfl) (.tmp 15) (.tmp 30) 22 3 (.int .i64 0) 8 rfl Tryd.underlying22 info3 rfl (by decide) (by omega) u7 x7_1 (wrap64 ((rd l0 x8_1) + (rd l1_0 (ji8)))) [.int .i64 (wrap64 ((rd l0 x8_1) + (rd l1_0 (ji8))))] (fun _ => True) (fun _ => False) rfl rfl ?aP (fun _ hk => hk.elim) ?aF ?aO ?aB ?aS ?aL ?_
         (case aP => exact rfl)
         (case aB => exact bz)
         (case aF => exact (fun _ _ => trivial))
         (case aO => exact (br HO_7.out))
         (case aS => exact (below_size bz))
         (case aL => have := LMc11.out; omega)
         intro v466 w13 ho hb hg hat
         rw [← Ny465.out] at ho
         have n0_ := Aside0.mk (blk_grown (g := gb462) (o := .cells #[.slice (some ad464) l1_0.length c1_0] 24 (0, 0)) (bk BK462.out) hg (Kd.R_ne HO_7.out BK462.out (by decide))); have n1_ := Aside0.mk (hb); have n2_ := Aside0.mk (ho); clear BK462; clear HB; clear HO_7; have BK462 := n0_; have HB := n1_; have HO467 := n2_; clear n0_ n1_ n2_
         clear ho hb hg hat
         refine hK.out _ _ ⟨(blk_cell BK462.out 0).trans rfl, ((HB.out.cell (World.block_lt_of_cell? w _ hw463_0)).trans hw463_0), ((HB.out.cell (World.block_lt_of_cell? w _ hw464_0)).trans hw464_0)⟩ (fun hHeld => ?_)
         clear hK K
         refine norm_ (a' := ?_) ?_ ?_
         rotate_left
         ·show Act.put _ (some 31) _ = _
          exact pz
         refine pureZ (i := 17) (N := some 7) (bs 18 262143) HT_ ?_
         refine done_ (done_of HT_.out (by kernel_rfl)) ?_
         obtain ⟨_, _⟩ := b1 BK462
         try go_wp2
         go_roundg k1
         case measure => have := HK1.out; omega
         case rel => exact ⟨(wrap64 (Int.tdiv x2_1 (l1_0.length : Int))), (y465), (wrap64 (x8_1 + 1)), (by first | rfl | (simp; done) | (simp [*]; done)), (by first | rfl | (simp; done) | (simp [*]; done)), H', ⟨by have := HK1.out; omega⟩, ⟨by (with_reducible repeat (first | apply Kd.R_alloc | apply Kd.R_drewN | apply Kd.R_drew)); exact HO467.out⟩, ⟨by (with_reducible repeat (first | refine blk_drewN ?_ _ | refine blk_drew ?_ | refine blk_alloc ?_ _)); exact BK462.out⟩, ⟨by repeat (first | (with_reducible first | exact HB.out | apply below_alloc | apply pw_below_drewN | apply below_drew1 | refine below_set ?_ GE462.out) | exact HB.out)⟩⟩
        ·rw [if_neg c11] at H
         exact absurd H (by simp)
       ·rw [if_neg c10] at H
        exact absurd H (by simp)
      ·rw [if_neg c9] at H
       exact absurd H (by simp)
    ·rw [if_neg c6] at H
     exact absurd H (by simp)
   ·rw [if_neg c5] at H
    have c5b0 := decide_eq_false c5
    clear c5
    obtain rfl := Option.some.inj H
    go_wp2
    go_ret
    exact ⟨_, by first | rfl | (simp [errW_none, errW_some] <;> rfl) | (simp [*, errW_none, errW_some] <;> rfl), by (with_reducible repeat (first | apply Kd.R_alloc | apply Kd.R_drewN | apply Kd.R_drew)); exact HO_7.out, by repeat (first | (with_reducible first | exact HB.out | apply below_alloc | apply pw_below_drewN | apply below_drew1 | refine below_set ?_ GE462.out) | exact HB.out)⟩
end
section
mutual
def glidepathref02_Peaks.l0 : Nat → List Int → List Int → Int → Option (List Int)
  | 0, _, _, _ => none
  | k + 1, x0, x3, x4 => if x4 < (x0.length : Int) then (glidepathref02_Peaks.l1 k x0 x3 x4 true 0) else (some x3)
def glidepathref02_Peaks.l1 : Nat → List Int → List Int → Int → Bool → Int → Option (List Int)
  | 0, _, _, _, _, _ => none
  | k + 1, x0, x3, x4, x5, x6 => if x6 < (x0.length : Int) then (if x5 = true then (if 0 ≤ x6 then (if 0 ≤ x4 then (if x4 < (x0.length : Int) then (glidepathref02_Peaks.l1 k x0 x3 x4 (decide ((rd x0 x6) ≤ (rd x0 x4))) (wrap64 (x6 + 1))) else (none)) else (none)) else (none)) else (glidepathref02_Peaks.l1 k x0 x3 x4 false (wrap64 (x6 + 1)))) else (if x5 = true then (if x3.length < 17592186044416 then (glidepathref02_Peaks.l0 k x0 (x3 ++ [x4]) (wrap64 (x4 + 1))) else (none)) else (glidepathref02_Peaks.l0 k x0 x3 (wrap64 (x4 + 1))))
end
def glidepathref02_Peaks.f (k : Nat) (l0 : List Int) : Option (List Int) := glidepathref02_Peaks.l0 k l0 ([] : List Int) 0
theorem glidepathref02_Peaks.mono_l : ∀ k, (∀ y0 y1 y2, LeO (glidepathref02_Peaks.l0 k y0 y1 y2) (glidepathref02_Peaks.l0 (k + 1) y0 y1 y2)) ∧ (∀ y0 y1 y2 y3 y4, LeO (glidepathref02_Peaks.l1 k y0 y1 y2 y3 y4) (glidepathref02_Peaks.l1 (k + 1) y0 y1 y2 y3 y4))
  | 0 => ⟨fun _ _ _ r h => by simp [glidepathref02_Peaks.l0] at h, fun _ _ _ _ _ r h => by simp [glidepathref02_Peaks.l1] at h⟩
  | k + 1 => by
    obtain ⟨ih0, ih1⟩ := glidepathref02_Peaks.mono_l k
    refine ⟨?_, ?_⟩
    · intro y0 y1 y2
      unfold glidepathref02_Peaks.l0
      repeat' first
      | (with_reducible exact ih0 _ _ _)
      | (with_reducible exact ih1 _ _ _ _ _)
      | (with_reducible exact LeO.refl _)
      | (with_reducible exact LeO.none _)
      | (with_reducible refine LeO.ite ?_ ?_)
      | (with_reducible refine LeO.bind ?_ (fun _ => ?_))
      | exact ih0 _ _ _
      | exact ih1 _ _ _ _ _
      | exact LeO.none _
      | refine LeO.ite ?_ ?_
      | refine LeO.bind ?_ (fun _ => ?_)
    · intro y0 y1 y2 y3 y4
      unfold glidepathref02_Peaks.l1
      repeat' first
      | (with_reducible exact ih0 _ _ _)
      | (with_reducible exact ih1 _ _ _ _ _)
      | (with_reducible exact LeO.refl _)
      | (with_reducible exact LeO.none _)
      | (with_reducible refine LeO.ite ?_ ?_)
      | (with_reducible refine LeO.bind ?_ (fun _ => ?_))
      | exact ih0 _ _ _
      | exact ih1 _ _ _ _ _
      | exact LeO.none _
      | refine LeO.ite ?_ ?_
      | refine LeO.bind ?_ (fun _ => ?_)
theorem glidepathref02_Peaks.mono : ∀ a0 k, LeO (glidepathref02_Peaks.f k a0) (glidepathref02_Peaks.f (k + 1) a0) := by
  intro a0 k
  obtain ⟨ih0, ih1⟩ := glidepathref02_Peaks.mono_l k
  unfold glidepathref02_Peaks.f
  repeat' first
      | (with_reducible exact ih0 _ _ _)
      | (with_reducible exact ih1 _ _ _ _ _)
      | (with_reducible exact LeO.refl _)
      | (with_reducible exact LeO.none _)
      | (with_reducible refine LeO.ite ?_ ?_)
      | (with_reducible refine LeO.bind ?_ (fun _ => ?_))
      | exact ih0 _ _ _
      | exact ih1 _ _ _ _ _
      | exact LeO.none _
      | refine LeO.ite ?_ ?_
      | refine LeO.bind ?_ (fun _ => ?_)
set_option maxHeartbeats 8000000 in
set_option maxRecDepth 100000 in
theorem glidepathref02_Peaks.calls (k : Nat) (A0 : Option Addr) (c0 : Nat) (l0 : List Int) (r : List Int) (w : World) (hr0 : Kd.C (Kd.int .i64) w A0 l0.length l0) (hc0 : l0.length ≤ c0) (h : glidepathref02_Peaks.f k l0 = some r) :
    Calls Tryd.prog 79 #[.slice A0 l0.length c0] w fun e w' => ∃ v0_ : Value, e = .returned (v0_) ∧ Kd.R (Kd.int .i64) 3 w' w.heap.size (fun _ => True) v0_ r ∧ Below w.heap.size w w' := by
  have HR0 := Aside0.mk hr0
  have HC0 := Aside0.mk hc0
  clear hr0 hc0
  have HB := Aside0.mk (Below.refl w.heap.size w)
  have H : (glidepathref02_Peaks.l0 k l0 ([] : List Int) 0) = some r := h
  clear h
  have H' := Aside0.mk H
  clear H
  go_enter Tryd.func79, Tryd.ntmps79
  go_wp2
  repeat (go_quiet (fail); try go_wp2)
  go_loopg [3, 4] k (fun kq v3 v4 w' => ∃ (x3_1 : List Int) (x4_1 : Int), v4 = .int .i64 x4_1 ∧ Aside0 (glidepathref02_Peaks.l0 kq l0 x3_1 x4_1 = some r) ∧ Aside0 (kq ≤ k) ∧ Aside0 (Kd.R (Kd.int .i64) 3 w' w.heap.size (fun _ => True) v3 x3_1) ∧ Aside0 (Below w.heap.size w w'))
  case atStart => exact ⟨(([] : List Int)), (0), (by first | rfl | (simp; done) | (simp [*]; done)), H', ⟨Nat.le_refl _⟩, ⟨by first | exact Kd.R_nil _ _ _ _ _ | exact Kd.N_nil _ _ _ _ _ | exact Kd.V_nil _ _ _ _ _ | exact Kd.Q_nil _ _ _ _ _ | exact Kd.S_nil _ _ _ _ _⟩, ⟨by repeat (first | (with_reducible first | exact HB.out | apply below_alloc | apply pw_below_drewN | apply below_drew1) | exact HB.out)⟩⟩
  case round =>
    clear H'
    obtain ⟨x3_1, x4_1, rfl, HA, HK1, HO_3, HB⟩ := hrel
    cases gk with
    | zero => exact absurd HA.out (by simp [glidepathref02_Peaks.l0])
    | succ k1 =>
      have H := HA.out
      clear HA
      simp only [glidepathref02_Peaks.l0] at H
      by_cases c2 : x4_1 < (l0.length : Int)
      · rw [if_pos c2] at H
        have c2b0 := decide_eq_true c2
        clear c2
        have H' := Aside0.mk H
        clear H
        go_wp2
        repeat (go_quiet (fail); try go_wp2)
        go_loopg [5, 6] k1 (fun kq v5 v6 w' => ∃ (x5_2 : Bool) (x6_2 : Int), v5 = .bool x5_2 ∧ v6 = .int .i64 x6_2 ∧ Aside0 (glidepathref02_Peaks.l1 kq l0 x3_1 x4_1 x5_2 x6_2 = some r) ∧ Aside0 (kq ≤ k1) ∧ Aside0 (Kd.R (Kd.int .i64) 3 w' w.heap.size (fun _ => True) u3 x3_1) ∧ Aside0 (Below w.heap.size w w'))
        case atStart => exact ⟨(true), (0), (by first | rfl | (simp; done) | (simp [*]; done)), (by first | rfl | (simp; done) | (simp [*]; done)), H', ⟨Nat.le_refl _⟩, ⟨by (with_reducible repeat (first | apply Kd.R_alloc | apply Kd.R_drewN | apply Kd.R_drew)); exact HO_3.out⟩, ⟨by repeat (first | (with_reducible first | exact HB.out | apply below_alloc | apply pw_below_drewN | apply below_drew1) | exact HB.out)⟩⟩
        case round =>
          clear H'
          try clear c2
          try clear c2b0
          try clear p2
          obtain ⟨x5_2, x6_2, rfl, rfl, HA, HK2, HO_3, HB⟩ := hrel
          cases gk with
          | zero => exact absurd HA.out (by simp [glidepathref02_Peaks.l1])
          | succ k2 =>
            have H := HA.out
            clear HA
            simp only [glidepathref02_Peaks.l1] at H
            by_cases c3 : x6_2 < (l0.length : Int)
            · rw [if_pos c3] at H
              have c3b0 := decide_eq_true c3
              clear c3
              by_cases c4 : x5_2 = true
              · subst c4
                rw [if_pos rfl] at H
                by_cases c5 : 0 ≤ x6_2
                · rw [if_pos c5] at H
                  have c5b0 := decide_eq_true c5
                  clear c5
                  by_cases c6 : 0 ≤ x4_1
                  · rw [if_pos c6] at H
                    have c6b0 := decide_eq_true c6
                    clear c6
                    by_cases c7 : x4_1 < (l0.length : Int)
                    · rw [if_pos c7] at H
                      have c7b0 := decide_eq_true c7
                      clear c7
                      have H' := Aside0.mk H
                      clear H
                      have p476 : 0 ≤ (x6_2 : Int) := of_decide_eq_true (by first | (with_reducible assumption) | assumption)
                      have q476 : x6_2 < (l0.length : Int) := of_decide_eq_true (by first | (with_reducible assumption) | assumption)
                      obtain ⟨ad476, e476, hx476_0⟩ := Kd.at_int HR0.out x6_2 p476 q476
                      cases e476
                      replace hx476_0 := (HB.out.cell (World.block_lt_of_cell? w _ hx476_0)).trans hx476_0
                      replace p476 := eq_true p476
                      replace q476 := eq_true q476
                      have p477 : 0 ≤ (x4_1 : Int) := of_decide_eq_true (by first | (with_reducible assumption) | assumption)
                      have q477 : x4_1 < (l0.length : Int) := of_decide_eq_true (by first | (with_reducible assumption) | assumption)
                      obtain ⟨ad477, e477, hx477_0⟩ := Kd.at_int HR0.out x4_1 p477 q477
                      obtain rfl : ad476 = ad477 := (by injection e477)
                      replace hx477_0 := (HB.out.cell (World.block_lt_of_cell? w _ hx477_0)).trans hx477_0
                      replace p477 := eq_true p477
                      replace q477 := eq_true q477
                      go_wp2
                      repeat (go_quiet (fail); try go_wp2)
                      go_roundg k2
                      case measure => have := HK1.out; have := HK2.out; omega
                      case rel => exact ⟨(decide ((rd l0 x6_2) ≤ (rd l0 x4_1))), (wrap64 (x6_2 + 1)), (by first | rfl | (simp; done) | (simp [*]; done)), (by first | rfl | (simp; done) | (simp [*]; done)), H', ⟨by have := HK1.out; have := HK2.out; omega⟩, ⟨by (with_reducible repeat (first | apply Kd.R_alloc | apply Kd.R_drewN | apply Kd.R_drew)); exact HO_3.out⟩, ⟨by repeat (first | (with_reducible first | exact HB.out | apply below_alloc | apply pw_below_drewN | apply below_drew1) | exact HB.out)⟩⟩
                    · rw [if_neg c7] at H
                      exact absurd H (by simp)
                  · rw [if_neg c6] at H
                    exact absurd H (by simp)
                · rw [if_neg c5] at H
                  exact absurd H (by simp)
              · replace c4 := Bool.eq_false_iff.mpr c4
                subst c4
                rw [if_neg (show ¬ (false = true) by decide)] at H
                have H' := Aside0.mk H
                clear H
                go_wp2
                repeat (go_quiet (fail); try go_wp2)
                go_roundg k2
                case measure => have := HK1.out; have := HK2.out; omega
                case rel => exact ⟨(false), (wrap64 (x6_2 + 1)), (by first | rfl | (simp; done) | (simp [*]; done)), (by first | rfl | (simp; done) | (simp [*]; done)), H', ⟨by have := HK1.out; have := HK2.out; omega⟩, ⟨by (with_reducible repeat (first | apply Kd.R_alloc | apply Kd.R_drewN | apply Kd.R_drew)); exact HO_3.out⟩, ⟨by repeat (first | (with_reducible first | exact HB.out | apply below_alloc | apply pw_below_drewN | apply below_drew1) | exact HB.out)⟩⟩
            · rw [if_neg c3] at H
              have c3b0 := decide_eq_false c3
              clear c3
              by_cases c8 : x5_2 = true
              · subst c8
                rw [if_pos rfl] at H
                by_cases c9 : x3_1.length < 17592186044416
                · rw [if_pos c9] at H
                  have LMc9 := Aside0.mk c9
                  clear c9
                  obtain ⟨y478, hy478⟩ : ∃ y_ : List Int, y_ = (x3_1 ++ [x4_1]) := ⟨_, rfl⟩
                  replace H : (glidepathref02_Peaks.l0 k2 l0 y478 (wrap64 (x4_1 + 1))) = some r := by first | (rw [hy478]; with_reducible exact H) | (have H2_ := (Option.bind_some _ _).symm.trans H; rw [hy478]; with_reducible exact H2_) | (have H2_ := (Option.bind_some _ _).symm.trans H; with_reducible exact H2_) | with_reducible exact H | (rw [hy478]; exact H) | exact H
                  have Ny478 := Aside0.mk hy478
                  clear hy478
                  have H' := Aside0.mk H
                  clear H
                  go_wp2_with (first | ((with_reducible refine gate_builtin (b := .append) (xs := #[.tmp 32, .tmp 34]) rfl ?_); at_builtin; refine Kd.R_append (Kd.int .i64) (w0 := w) w.heap.size rfl (.tmp 32) (.tmp 34) 22 3 (.int .i64 0) 8 rfl Tryd.underlying22 info3 rfl (by decide) (by omega) u3 x3_1 x4_1 [.int .i64 x4_1] (fun _ => True) (fun _ => False) rfl rfl ?aP (fun _ hk => hk.elim) ?aF ?aO ?aB ?aS ?aL ?_; (case aP => exact rfl); (case aB => exact bz); (case aF => exact (fun _ _ => trivial)); (case aO => exact (br HO_3.out)); (case aS => exact (below_size bz)); (case aL => have := LMc9.out; omega); intro v479 w10 ho hb hg hat; rw [← Ny478.out] at ho; have n0_ := Aside0.mk (hb); have n1_ := Aside0.mk (ho); clear HB; clear HO_3; have HB := n0_; have HO480 := n1_; clear n0_ n1_; clear ho hb hg hat))
                  repeat (go_quiet (first | ((with_reducible refine gate_builtin (b := .append) (xs := #[.tmp 32, .tmp 34]) rfl ?_); at_builtin; refine Kd.R_append (Kd.int .i64) (w0 := w) w.heap.size rfl (.tmp 32) (.tmp 34) 22 3 (.int .i64 0) 8 rfl Tryd.underlying22 info3 rfl (by decide) (by omega) u3 x3_1 x4_1 [.int .i64 x4_1] (fun _ => True) (fun _ => False) rfl rfl ?aP (fun _ hk => hk.elim) ?aF ?aO ?aB ?aS ?aL ?_; (case aP => exact rfl); (case aB => exact bz); (case aF => exact (fun _ _ => trivial)); (case aO => exact (br HO_3.out)); (case aS => exact (below_size bz)); (case aL => have := LMc9.out; omega); intro v479 w10 ho hb hg hat; rw [← Ny478.out] at ho; have n0_ := Aside0.mk (hb); have n1_ := Aside0.mk (ho); clear HB; clear HO_3; have HB := n0_; have HO480 := n1_; clear n0_ n1_; clear ho hb hg hat)); try go_wp2_with (first | ((with_reducible refine gate_builtin (b := .append) (xs := #[.tmp 32, .tmp 34]) rfl ?_); at_builtin; refine Kd.R_append (Kd.int .i64) (w0 := w) w.heap.size rfl (.tmp 32) (.tmp 34) 22 3 (.int .i64 0) 8 rfl Tryd.underlying22 info3 rfl (by decide) (by omega) u3 x3_1 x4_1 [.int .i64 x4_1] (fun _ => True) (fun _ => False) rfl rfl ?aP (fun _ hk => hk.elim) ?aF ?aO ?aB ?aS ?aL ?_; (case aP => exact rfl); (case aB => exact bz); (case aF => exact (fun _ _ => trivial)); (case aO => exact (br HO_3.out)); (case aS => exact (below_size bz)); (case aL => have := LMc9.out; omega); intro v479 w10 ho hb hg hat; rw [← Ny478.out] at ho; have n0_ := Aside0.mk (hb); have n1_ := Aside0.mk (ho); clear HB; clear HO_3; have HB := n0_; have HO480 := n1_; clear n0_ n1_; clear ho hb hg hat)))
                  go_roundg k2
                  case measure => have := HK1.out; have := HK2.out; omega
                  case rel => exact ⟨(y478), (wrap64 (x4_1 + 1)), (by first | rfl | (simp; done) | (simp [*]; done)), H', ⟨by have := HK1.out; have := HK2.out; omega⟩, ⟨by (with_reducible repeat (first | apply Kd.R_alloc | apply Kd.R_drewN | apply Kd.R_drew)); exact HO480.out⟩, ⟨by repeat (first | (with_reducible first | exact HB.out | apply below_alloc | apply pw_below_drewN | apply below_drew1) | exact HB.out)⟩⟩
                · rw [if_neg c9] at H
                  exact absurd H (by simp)
              · replace c8 := Bool.eq_false_iff.mpr c8
                subst c8
                rw [if_neg (show ¬ (false = true) by decide)] at H
                have H' := Aside0.mk H
                clear H
                go_wp2
                repeat (go_quiet (fail); try go_wp2)
                go_roundg k2
                case measure => have := HK1.out; have := HK2.out; omega
                case rel => exact ⟨(x3_1), (wrap64 (x4_1 + 1)), (by first | rfl | (simp; done) | (simp [*]; done)), H', ⟨by have := HK1.out; have := HK2.out; omega⟩, ⟨by (with_reducible repeat (first | apply Kd.R_alloc | apply Kd.R_drewN | apply Kd.R_drew)); exact HO_3.out⟩, ⟨by repeat (first | (with_reducible first | exact HB.out | apply below_alloc | apply pw_below_drewN | apply below_drew1) | exact HB.out)⟩⟩
      · rw [if_neg c2] at H
        have c2b0 := decide_eq_false c2
        clear c2
        obtain rfl := Option.some.inj H
        go_wp2
        repeat (go_quiet (fail); try go_wp2)
        go_ret
        exact ⟨_, by first | rfl | (simp [errW_none, errW_some] <;> rfl) | (simp [*, errW_none, errW_some] <;> rfl), by (with_reducible repeat (first | apply Kd.R_alloc | apply Kd.R_drewN | apply Kd.R_drew)); exact HO_3.out, by repeat (first | (with_reducible first | exact HB.out | apply below_alloc | apply pw_below_drewN | apply below_drew1) | exact HB.out)⟩
end
section
def glidepathref02_Peak.f (k : Nat) (l0 : List Int) : Option (Int) := (glidepathref02_Peaks.f k l0).bind fun t481 => (if 0 < (t481.length : Int) then (some (rd t481 0)) else (none))
theorem glidepathref02_Peak.mono : ∀ a0 k, LeO (glidepathref02_Peak.f k a0) (glidepathref02_Peak.f (k + 1) a0) := by
 intro a0 k
 unfold glidepathref02_Peak.f
 repeat' first
   | (with_reducible exact glidepathref02_Peaks.mono _ _)
   | (with_reducible exact LeO.refl _)
   | (with_reducible exact LeO.none _)
   | (with_reducible refine LeO.ite ?_ ?_)
   | (with_reducible refine LeO.bind ?_ (fun _ => ?_))
   | exact glidepathref02_Peaks.mono _ _
   | exact LeO.none _
   | refine LeO.ite ?_ ?_
   | refine LeO.bind ?_ (fun _ => ?_)
set_option maxHeartbeats 8000000 in
set_option maxRecDepth 100000 in
theorem glidepathref02_Peak.calls (k : Nat) (A0 : Option Addr) (c0 : Nat) (l0 : List Int) (r : Int) (w : World) (hr0 : Kd.C (Kd.int .i64) w A0 l0.length l0) (hc0 : l0.length ≤ c0) (h : glidepathref02_Peak.f k l0 = some r) :
  Calls Tryd.prog 61 #[.slice A0 l0.length c0] w fun e w' => e = .returned (.int .i64 r) ∧ Below w.heap.size w w' := by
 have HR0 := Aside0.mk hr0
 have HC0 := Aside0.mk hc0
 clear hr0 hc0
 have HB := Aside0.mk (Below.refl w.heap.size w)
 have H : ((glidepathref02_Peaks.f k l0).bind fun t481 => (if 0 < (t481.length : Int) then (some (rd t481 0)) else (none))) = some r := h
 clear h
 replace H := Option.bind_eq_some_iff.mp H
 obtain ⟨t481, A20, H⟩ := H
 (try dsimp only at H)
 have A2 := Aside0.mk A20
 clear A20
 by_cases c3 : 0 < (t481.length : Int)
 ·rw [if_pos c3] at H
  have c3b0 := decide_eq_true c3
  have c3b1 : decide (0 < t481.length) = true := decide_eq_true (by omega)
  clear c3
  obtain rfl := Option.some.inj H
  go_enter Tryd.func61, Tryd.ntmps61
  go_wp2_with (first | ((with_reducible refine gate_callee (f := 79) rfl ?_); refine gl (some 4) Tryd.func79 #[.slice A0 l0.length c0] ?_; (with_reducible refine (glidepathref02_Peaks.calls k _ _ l0 t481 _ ?side1 ?side2 A2.out).mono ?_); (case side1 => repeat (first | exact HR0.out | (with_reducible refine Kd.C_alloc ?_ _) | (with_reducible refine Kd.C_drewN ?_ _) | (with_reducible refine Kd.C_drew ?_))); (case side2 => exact HC0.out); rintro e w4 ⟨v482, rfl, ho0, hb⟩; refine ⟨_, rfl, ?_⟩; have HO483 := Aside0.mk (Kd.R_lower ho0 (below_size bz)); replace HB := sb HB hb; (try clear hb); (try clear ho0); obtain ⟨Ao5, co5, eo5⟩ := Kd.R_slice HO483.out; subst eo5; have p484 : 0 ≤ (0 : Int) := (by omega); have q484 : 0 < (t481.length : Int) := of_decide_eq_true (by first | (with_reducible assumption) | assumption); obtain ⟨ad484, e484, hx484_0⟩ := Kd.at_int (Kd.R_reads' HO483.out).2.2 0 p484 q484; cases e484; have qi484 : (0 < t481.length) = True := eq_true (by omega); (try rw [show ((0 : Int)).toNat = 0 from rfl] at hx484_0); (try rw [Addr.add_zero'] at hx484_0); replace p484 := eq_true p484; replace q484 := eq_true q484))
  go_ret
  exact ez
 ·rw [if_neg c3] at H
  exact absurd H (by simp)
end
section
def glidepathref02_Rate.l0 : Nat → List Int → Int → Int → Int → Int → List Int → Option (Int × Int)
 | 0, _, _, _, _, _, _ => none
 | k + 1, x0, x2, x7, x8, x9, x594000 => if x9 < x7 then ((glidepathref02_Noisy.f k x0 x594000 x9).bind fun t598 => ((glidepathref02_Peak.f k t598).bind fun t601 => (if 0 ≤ t601 then (if t601 < (t598.length : Int) then (if (rd t598 t601) ≥ x2 then (glidepathref02_Rate.l0 k x0 x2 x7 (wrap64 (x8 + 1)) (wrap64 (x9 + 1)) x594000) else (glidepathref02_Rate.l0 k x0 x2 x7 x8 (wrap64 (x9 + 1)) x594000)) else (none)) else (none)))) else ((glidepathbase_Lowest.f k x8 x7).bind fun bt596 => (some (bt596.1, bt596.2)))
def glidepathref02_Rate.f (k : Nat) (l0 : List Int) (l1_0 : List Int) (a2 : Int) : Option (Int × Int) := (glidepathref02_Cases.f k l1_0 (l0.length : Int)).bind fun t595 => (glidepathref02_Rate.l0 k l0 a2 t595 0 0 l1_0)
theorem glidepathref02_Rate.mono_l : ∀ k, (∀ y0 y1 y2 y3 y4 y5, LeO (glidepathref02_Rate.l0 k y0 y1 y2 y3 y4 y5) (glidepathref02_Rate.l0 (k + 1) y0 y1 y2 y3 y4 y5))
 | 0 => fun _ _ _ _ _ _ r h => by simp [glidepathref02_Rate.l0] at h
 | k + 1 => by
  have ih0 := glidepathref02_Rate.mono_l k
  ·intro y0 y1 y2 y3 y4 y5
   unfold glidepathref02_Rate.l0
   repeat' first
   | (with_reducible exact ih0 _ _ _ _ _ _)
   | (with_reducible exact glidepathbase_Lowest.mono _ _ _)
   | (with_reducible exact glidepathref02_Cases.mono _ _ _)
   | (with_reducible exact glidepathref02_Noisy.mono _ _ _ _)
   | (with_reducible exact glidepathref02_Peak.mono _ _)
   | (with_reducible exact LeO.refl _)
   | (with_reducible exact LeO.none _)
   | (with_reducible refine LeO.ite ?_ ?_)
   | (with_reducible refine LeO.bind ?_ (fun _ => ?_))
   | exact ih0 _ _ _ _ _ _
   | exact glidepathbase_Lowest.mono _ _ _
   | exact glidepathref02_Cases.mono _ _ _
   | exact glidepathref02_Noisy.mono _ _ _ _
   | exact glidepathref02_Peak.mono _ _
   | exact LeO.none _
   | refine LeO.ite ?_ ?_
   | refine LeO.bind ?_ (fun _ => ?_)
theorem glidepathref02_Rate.mono : ∀ a0 a1 a2 k, LeO (glidepathref02_Rate.f k a0 a1 a2) (glidepathref02_Rate.f (k + 1) a0 a1 a2) := by
 intro a0 a1 a2 k
 have ih0 := glidepathref02_Rate.mono_l k
 unfold glidepathref02_Rate.f
 repeat' first
   | (with_reducible exact ih0 _ _ _ _ _ _)
   | (with_reducible exact glidepathbase_Lowest.mono _ _ _)
   | (with_reducible exact glidepathref02_Cases.mono _ _ _)
   | (with_reducible exact glidepathref02_Noisy.mono _ _ _ _)
   | (with_reducible exact glidepathref02_Peak.mono _ _)
   | (with_reducible exact LeO.refl _)
   | (with_reducible exact LeO.none _)
   | (with_reducible refine LeO.ite ?_ ?_)
   | (with_reducible refine LeO.bind ?_ (fun _ => ?_))
   | exact ih0 _ _ _ _ _ _
   | exact glidepathbase_Lowest.mono _ _ _
   | exact glidepathref02_Cases.mono _ _ _
   | exact glidepathref02_Noisy.mono _ _ _ _
   | exact glidepathref02_Peak.mono _ _
   | exact LeO.none _
   | refine LeO.ite ?_ ?_
   | refine LeO.bind ?_ (fun _ => ?_)
set_option maxHeartbeats 8000000 in
set_option maxRecDepth 100000 in
theorem glidepathref02_Rate.calls (k : Nat) (A0 : Option Addr) (c0 : Nat) (l0 : List Int) (A1_0 : Option Addr) (c1_0 : Nat) (l1_0 : List Int) (a2 : Int) (r1 : Int) (r2 : Int) (w : World) (hr0 : Kd.C (Kd.int .i64) w A0 l0.length l0) (hc0 : l0.length ≤ c0) (hr1_0 : Kd.C (Kd.int .i64) w A1_0 l1_0.length l1_0) (hc1_0 : l1_0.length ≤ c1_0) (h : glidepathref02_Rate.f k l0 l1_0 a2 = some (r1, r2)) :
  Calls Tryd.prog 29 #[.slice A0 l0.length c0, .agg #[.slice A1_0 l1_0.length c1_0], .int .i64 a2] w fun e w' => e = .returned (.agg #[.int .i64 r1, .int .i64 r2]) ∧ Below w.heap.size w w' := by
 have hu24 := Tryd.underlying24
 have hu26 := Tryd.underlying26
 have HR0 := Aside0.mk hr0
 have HC0 := Aside0.mk hc0
 clear hr0 hc0
 have HR1_0 := Aside0.mk hr1_0
 have HC1_0 := Aside0.mk hc1_0
 clear hr1_0 hc1_0
 have HB := Aside0.mk (Below.refl w.heap.size w)
 have H : ((glidepathref02_Cases.f k l1_0 (l0.length : Int)).bind fun t595 => (glidepathref02_Rate.l0 k l0 a2 t595 0 0 l1_0)) = some (r1, r2) := h
 clear h
 replace H := Option.bind_eq_some_iff.mp H
 obtain ⟨t595, A40, H⟩ := H
 (try dsimp only at H)
 have A4 := Aside0.mk A40
 clear A40
 have H' := Aside0.mk H
 clear H
 go_enter Tryd.func29, Tryd.ntmps29
 go_wp2_with (first | ((with_reducible refine gate_dst (N := 4) rfl ?_); refine be 4 24 #[.slice A1_0 l1_0.length c1_0] ?_; intro gb593 hg w5 hbox hb; have BK593 := Aside0.mk hbox; have GW593 := Aside0.mk (bg (n := w.heap.size) hg); have GE593 := Aside0.mk (bg (n := w.heap.size) hg); replace HB := sb HB hb; clear hb hbox hg) | ((with_reducible refine gate_dst (N := 6) rfl ?_); refine be 6 26 #[.int .i64 0, .int .i64 0] ?_; intro gb594 hg w6 hbox hb; have BK594 := Aside0.mk hbox; have GW594 := Aside0.mk (bg (n := w.heap.size) hg); have GE594 := Aside0.mk (bg (n := w.heap.size) hg); replace HB := sb HB hb; have NB593_594 := nl BK593 hg; have NB594_593 := ng (nl BK593 hg); replace BK593 := bb BK593 hb; clear hb hbox hg; have hnb7 := NB593_594.out; have hnc7 := NB594_593.out; obtain ⟨hcz8_0, hfz8_0⟩ := b1 BK593) | ((with_reducible refine gate_callee (f := 56) rfl ?_); refine gl (some 14) Tryd.func56 #[.agg #[.slice A1_0 l1_0.length c1_0], .int .i64 (l0.length : Int)] ?_; (with_reducible refine (glidepathref02_Cases.calls k _ _ l1_0 (l0.length : Int) t595 _ ?side1 ?side2 A4.out).mono ?_); (case side1 => exact bc (Kd.C_below HR1_0.out HB.out)); (case side2 => exact HC1_0.out); rintro e w9 ⟨rfl, hb⟩; refine ⟨_, rfl, ?_⟩; replace BK593 := bb BK593 hb; replace BK594 := bb BK594 hb; replace HB := sb HB hb; (try clear hb)))
 go_loopg [8, 9] k (fun kq v8 v9 w' => ∃ (x8_1 : Int) (x9_1 : Int), v8 = .int .i64 x8_1 ∧ v9 = .int .i64 x9_1 ∧ Aside0 (glidepathref02_Rate.l0 kq l0 a2 t595 x8_1 x9_1 l1_0 = some (r1, r2)) ∧ Aside0 (kq ≤ k) ∧ Aside0 (w'.heap[gb593]? = some (.cells #[(.slice A1_0 l1_0.length c1_0)] 24 (0, 0))) ∧ Aside0 (w'.heap[gb594]? = some (.cells #[.int .i64 0, .int .i64 0] 26 (0, 0))) ∧ Aside0 (Below w.heap.size w w'))
 case atStart => exact ⟨(0), (0), (by first | rfl | (simp; done) | (simp [*]; done)), (by first | rfl | (simp; done) | (simp [*]; done)), H', ⟨Nat.le_refl _⟩, ⟨by (with_reducible repeat (first | refine blk_drewN ?_ _ | refine blk_drew ?_ | refine blk_alloc ?_ _)); exact BK593.out⟩, ⟨by (with_reducible repeat (first | refine blk_drewN ?_ _ | refine blk_drew ?_ | refine blk_alloc ?_ _)); exact BK594.out⟩, ⟨by repeat (first | (with_reducible first | exact HB.out | apply below_alloc | apply pw_below_drewN | apply below_drew1 | refine below_set ?_ GE593.out | refine below_set ?_ GE594.out) | exact HB.out)⟩⟩
 case round =>
  clear H'
  try clear c1
  try clear c2
  try clear p2
  try clear c5
  try clear c7
  try clear hcz8_0
  try clear hfz8_0
  obtain ⟨x8_1, x9_1, rfl, rfl, HA, HK1, BK593, BK594, HB⟩ := hrel
  cases gk with
  | zero => exact absurd HA.out (by simp [glidepathref02_Rate.l0])
  | succ k1 =>
   have H := HA.out
   clear HA
   simp only [glidepathref02_Rate.l0] at H
   by_cases c10 : x9_1 < t595
   ·rw [if_pos c10] at H
    have c10b0 := decide_eq_true c10
    clear c10
    replace H := Option.bind_eq_some_iff.mp H
    obtain ⟨t598, A110, H⟩ := H
    (try dsimp only at H)
    have A11 := Aside0.mk A110
    clear A110
    replace H := Option.bind_eq_some_iff.mp H
    obtain ⟨t601, A120, H⟩ := H
    (try dsimp only at H)
    have A12 := Aside0.mk A120
    clear A120
    by_cases c13 : 0 ≤ t601
    ·rw [if_pos c13] at H
     have c13b0 := decide_eq_true c13
     clear c13
     by_cases c14 : t601 < (t598.length : Int)
     ·rw [if_pos c14] at H
      have c14b0 := decide_eq_true c14
      clear c14
      by_cases c15 : (rd t598 t601) ≥ a2
      ·rw [if_pos c15] at H
       have c15b0 := decide_eq_true c15
       clear c15
       have H' := Aside0.mk H
       clear H
       have hnb16 := NB593_594.out
       have hnc16 := NB594_593.out
       obtain ⟨_, _⟩ := b1 BK593
       go_wp2_with (first | ((with_reducible refine gate_callee (f := 58) rfl ?_); refine gl (some 23) Tryd.func58 #[.slice A0 l0.length c0, .agg #[.slice A1_0 l1_0.length c1_0], .int .i64 x9_1] ?_; (with_reducible refine (glidepathref02_Noisy.calls k1 _ _ l0 _ _ l1_0 x9_1 t598 _ ?side1 ?side2 ?side3 ?side4 A11.out).mono ?_); (case side1 => exact bc (Kd.C_below HR0.out HB.out)); (case side2 => exact HC0.out); (case side3 => exact bc (Kd.C_below HR1_0.out HB.out)); (case side4 => exact HC1_0.out); rintro e w18 ⟨v599, rfl, ho0, hb⟩; refine ⟨_, rfl, ?_⟩; have HO600 := Aside0.mk (Kd.R_lower ho0 (below_size bz)); replace BK593 := bb BK593 hb; replace BK594 := bb BK594 hb; replace HB := sb HB hb; (try clear hb); (try clear ho0); obtain ⟨Ao19, co19, eo19⟩ := Kd.R_slice HO600.out; subst eo19) | ((with_reducible refine gate_callee (f := 61) rfl ?_); refine gl (some 26) Tryd.func61 #[.slice Ao19 t598.length co19] ?_; (with_reducible refine (glidepathref02_Peak.calls k1 _ _ t598 t601 _ ?side1 ?side2 A12.out).mono ?_); (case side1 => exact bc (Kd.R_reads' HO600.out).2.2); (case side2 => exact (Kd.R_reads' HO600.out).2.1); rintro e w20 ⟨rfl, hb⟩; refine ⟨_, rfl, ?_⟩; replace HO600 := rb HO600 hb; replace BK593 := bb BK593 hb; replace BK594 := bb BK594 hb; replace HB := sb HB hb; (try clear hb); have p602 : 0 ≤ (t601 : Int) := of_decide_eq_true (by first | (with_reducible assumption) | assumption); have q602 : t601 < (t598.length : Int) := of_decide_eq_true (by first | (with_reducible assumption) | assumption); obtain ⟨ad602, e602, hx602_0⟩ := Kd.at_int (Kd.R_reads' HO600.out).2.2 t601 p602 q602; cases e602; replace p602 := eq_true p602; replace q602 := eq_true q602))
       go_roundg k1
       case measure => have := HK1.out; omega
       case rel => exact ⟨(wrap64 (x8_1 + 1)), (wrap64 (x9_1 + 1)), (by first | rfl | (simp; done) | (simp [*]; done)), (by first | rfl | (simp; done) | (simp [*]; done)), H', ⟨by have := HK1.out; omega⟩, ⟨by (with_reducible repeat (first | refine blk_drewN ?_ _ | refine blk_drew ?_ | refine blk_alloc ?_ _)); exact BK593.out⟩, ⟨by (with_reducible repeat (first | refine blk_drewN ?_ _ | refine blk_drew ?_ | refine blk_alloc ?_ _)); exact BK594.out⟩, ⟨by repeat (first | (with_reducible first | exact HB.out | apply below_alloc | apply pw_below_drewN | apply below_drew1 | refine below_set ?_ GE593.out | refine below_set ?_ GE594.out) | exact HB.out)⟩⟩
      ·rw [if_neg c15] at H
       have c15b0 := decide_eq_false c15
       clear c15
       have H' := Aside0.mk H
       clear H
       have hnb21 := NB593_594.out
       have hnc21 := NB594_593.out
       obtain ⟨_, _⟩ := b1 BK593
       go_wp2_with (first | ((with_reducible refine gate_callee (f := 58) rfl ?_); refine gl (some 23) Tryd.func58 #[.slice A0 l0.length c0, .agg #[.slice A1_0 l1_0.length c1_0], .int .i64 x9_1] ?_; (with_reducible refine (glidepathref02_Noisy.calls k1 _ _ l0 _ _ l1_0 x9_1 t598 _ ?side1 ?side2 ?side3 ?side4 A11.out).mono ?_); (case side1 => exact bc (Kd.C_below HR0.out HB.out)); (case side2 => exact HC0.out); (case side3 => exact bc (Kd.C_below HR1_0.out HB.out)); (case side4 => exact HC1_0.out); rintro e w23 ⟨v599, rfl, ho0, hb⟩; refine ⟨_, rfl, ?_⟩; have HO600 := Aside0.mk (Kd.R_lower ho0 (below_size bz)); replace BK593 := bb BK593 hb; replace BK594 := bb BK594 hb; replace HB := sb HB hb; (try clear hb); (try clear ho0); obtain ⟨Ao24, co24, eo24⟩ := Kd.R_slice HO600.out; subst eo24) | ((with_reducible refine gate_callee (f := 61) rfl ?_); refine gl (some 26) Tryd.func61 #[.slice Ao24 t598.length co24] ?_; (with_reducible refine (glidepathref02_Peak.calls k1 _ _ t598 t601 _ ?side1 ?side2 A12.out).mono ?_); (case side1 => exact bc (Kd.R_reads' HO600.out).2.2); (case side2 => exact (Kd.R_reads' HO600.out).2.1); rintro e w25 ⟨rfl, hb⟩; refine ⟨_, rfl, ?_⟩; replace HO600 := rb HO600 hb; replace BK593 := bb BK593 hb; replace BK594 := bb BK594 hb; replace HB := sb HB hb; (try clear hb); have p602 : 0 ≤ (t601 : Int) := of_decide_eq_true (by first | (with_reducible assumption) | assumption); have q602 : t601 < (t598.length : Int) := of_decide_eq_true (by first | (with_reducible assumption) | assumption); obtain ⟨ad602, e602, hx602_0⟩ := Kd.at_int (Kd.R_reads' HO600.out).2.2 t601 p602 q602; cases e602; replace p602 := eq_true p602; replace q602 := eq_true q602))
       go_roundg k1
       case measure => have := HK1.out; omega
       case rel => exact ⟨(x8_1), (wrap64 (x9_1 + 1)), (by first | rfl | (simp; done) | (simp [*]; done)), (by first | rfl | (simp; done) | (simp [*]; done)), H', ⟨by have := HK1.out; omega⟩, ⟨by (with_reducible repeat (first | refine blk_drewN ?_ _ | refine blk_drew ?_ | refine blk_alloc ?_ _)); exact BK593.out⟩, ⟨by (with_reducible repeat (first | refine blk_drewN ?_ _ | refine blk_drew ?_ | refine blk_alloc ?_ _)); exact BK594.out⟩, ⟨by repeat (first | (with_reducible first | exact HB.out | apply below_alloc | apply pw_below_drewN | apply below_drew1 | refine below_set ?_ GE593.out | refine below_set ?_ GE594.out) | exact HB.out)⟩⟩
     ·rw [if_neg c14] at H
      exact absurd H (by simp)
    ·rw [if_neg c13] at H
     exact absurd H (by simp)
   ·rw [if_neg c10] at H
    have c10b0 := decide_eq_false c10
    clear c10
    replace H := Option.bind_eq_some_iff.mp H
    obtain ⟨⟨t596, t597⟩, A260, H⟩ := H
    (try dsimp only at H)
    have A26 := Aside0.mk A260
    clear A260
    simp only [Option.some.injEq, Prod.mk.injEq] at H
    obtain ⟨rfl, rfl⟩ := H
    go_wp2_with (first | ((with_reducible refine gate_callee (f := 41) rfl ?_); refine gl (some 35) Tryd.func41 #[.int .i64 x8_1, .int .i64 t595] ?_; (with_reducible refine (glidepathbase_Lowest.calls k1 x8_1 t595 t596 t597 _ A26.out).mono ?_); rintro e w27 ⟨rfl, hb⟩; refine ⟨_, rfl, ?_⟩; replace BK593 := bb BK593 hb; replace BK594 := bb BK594 hb; replace HB := sb HB hb; (try clear hb); have hnb28 := NB594_593.out; have hnc28 := NB593_594.out; obtain ⟨_, _, _, _⟩ := b2 BK594))
    refine bodyPost_ret (results_cell_row rfl _ _ gb594 26 #[.int .i64 t596, .int .i64 t597] (0, 0) _ rfl (by (with_reducible repeat (first | refine blk_drewN ?_ _ | refine blk_drew ?_ | refine blk_alloc ?_ _)); refine blk_put (cs := #[.int .i64 t596, .int .i64 0]) ?_ 1 _ rfl; (with_reducible repeat (first | refine blk_drewN ?_ _ | refine blk_drew ?_ | refine blk_alloc ?_ _)); refine blk_put (cs := #[.int .i64 0, .int .i64 0]) ?_ 0 _ rfl; (with_reducible repeat (first | refine blk_drewN ?_ _ | refine blk_drew ?_ | refine blk_alloc ?_ _)); exact BK594.out) Tryd.underlying26 rfl (by kernel_rfl)) rfl ?_
    exact ez
end
section
attribute [local go_sem high] eqA26
def glidepathlaw02_LineDetected.f (k : Nat) (l0_0 : List Int) (l0_1 : List Int) (a0_2 : Int) (a0_3 : Int) (a1 : Int) : Option (Bool) := (glidepathlaw02_awake.f k).bind fun t604 => (if t604 = true then ((glidepathlaw02_light.f k l0_0 l0_1 a0_2 a0_3).bind fun t605 => (if t605 = true then ((glidepathref02_CopyCase.f l0_0 l0_1 a0_2 a0_3).bind fun bt606 => ((line_DetectedRate.f k bt606.1 bt606.2.1 bt606.2.2.1 bt606.2.2.2 a1).bind fun bt614 => ((glidepathref02_CaseErr.f k l0_0 l0_1 a0_2 a0_3).bind fun t618 => (if t618 = 0 then ((glidepathref02_ThresholdErr.f a1).bind fun t619 => (if t619 = 0 then (if bt614.2.2 = 0 then ((glidepathref02_Rate.f k l0_0 l0_1 a1).bind fun bt620 => (some (bt614.1 == bt620.1 && (bt614.2.1 == bt620.2)))) else (none)) else (if bt614.2.2 = t619 then (some (bt614.1 == 0 && (bt614.2.1 == 0))) else (none)))) else (if bt614.2.2 = t618 then (some (bt614.1 == 0 && (bt614.2.1 == 0))) else (none)))))) else (some true))) else (none))
theorem glidepathlaw02_LineDetected.mono : ∀ a0 a1 a2 a3 a4 k, LeO (glidepathlaw02_LineDetected.f k a0 a1 a2 a3 a4) (glidepathlaw02_LineDetected.f (k + 1) a0 a1 a2 a3 a4) := by
 intro a0 a1 a2 a3 a4 k
 unfold glidepathlaw02_LineDetected.f
 repeat' first
   | (with_reducible exact glidepathlaw02_awake.mono _)
   | (with_reducible exact glidepathlaw02_light.mono _ _ _ _ _)
   | (with_reducible exact glidepathref02_CaseErr.mono _ _ _ _ _)
   | (with_reducible exact glidepathref02_Rate.mono _ _ _ _)
   | (with_reducible exact line_DetectedRate.mono _ _ _ _ _ _)
   | (with_reducible exact LeO.refl _)
   | (with_reducible exact LeO.none _)
   | (with_reducible refine LeO.ite ?_ ?_)
   | (with_reducible refine LeO.bind ?_ (fun _ => ?_))
   | exact glidepathlaw02_awake.mono _
   | exact glidepathlaw02_light.mono _ _ _ _ _
   | exact glidepathref02_CaseErr.mono _ _ _ _ _
   | exact glidepathref02_Rate.mono _ _ _ _
   | exact line_DetectedRate.mono _ _ _ _ _ _
   | exact LeO.none _
   | refine LeO.ite ?_ ?_
   | refine LeO.bind ?_ (fun _ => ?_)
def glidepathlaw02_LineDetected.T11 : Bool × List (List Nat × List Nat) := (true, [([], []), ([0], [0]), ([1], [1]), ([2], [2]), ([2], [2]), ([4, 2], [2, 4]), ([2], [2]), ([6, 2], [2, 6]), ([2], [2]), ([5, 7, 8, 2, 2], [2, 5, 7, 8]), ([3, 9, 2], [2, 3, 9]), ([2, 10], [2, 10]), ([11, 9, 0, 1, 2, 3, 4, 5, 6, 7, 8, 9, 10, 11], [11])])
def glidepathlaw02_LineDetected.B11 : List Nat := [0, 1, 3, 7, 7, 23, 7, 71, 7, 503, 1023, 2047, 4095]
theorem glidepathlaw02_LineDetected.tab11 : rtab .any (opsOf Tryd.f4 11) = glidepathlaw02_LineDetected.T11 := by kernel_rfl
theorem glidepathlaw02_LineDetected.bits11 : waitsOk glidepathlaw02_LineDetected.T11.2 glidepathlaw02_LineDetected.B11 = true := by kernel_rfl
set_option maxHeartbeats 8000000 in
set_option maxRecDepth 100000 in
theorem glidepathlaw02_LineDetected.calls (k : Nat) (A0_0 : Option Addr) (c0_0 : Nat) (l0_0 : List Int) (A0_1 : Option Addr) (c0_1 : Nat) (l0_1 : List Int) (a0_2 : Int) (a0_3 : Int) (a1 : Int) (r : Bool) (w : World) (hr0_0 : Kd.C (Kd.int .i64) w A0_0 l0_0.length l0_0) (hc0_0 : l0_0.length ≤ c0_0) (hr0_1 : Kd.C (Kd.int .i64) w A0_1 l0_1.length l0_1) (hc0_1 : l0_1.length ≤ c0_1) (hG : EstG w) (h : glidepathlaw02_LineDetected.f k l0_0 l0_1 a0_2 a0_3 a1 = some r) :
  Calls Tryd.prog 4 #[.agg #[.slice A0_0 l0_0.length c0_0, .slice A0_1 l0_1.length c0_1, .int .i64 a0_2, .int .i64 a0_3], .int .i64 a1] w fun e w' => e = .returned (.bool r) ∧ Below w.heap.size w w' := by
 have hu28 := Tryd.underlying28
 have hu26 := Tryd.underlying26
 have hu24 := Tryd.underlying24
 have HG := Aside0.mk hG
 clear hG
 have HR0_0 := Aside0.mk hr0_0
 have HC0_0 := Aside0.mk hc0_0
 clear hr0_0 hc0_0
 have HR0_1 := Aside0.mk hr0_1
 have HC0_1 := Aside0.mk hc0_1
 clear hr0_1 hc0_1
 have HB := Aside0.mk (Below.refl w.heap.size w)
 have H : ((glidepathlaw02_awake.f k).bind fun t604 => (if t604 = true then ((glidepathlaw02_light.f k l0_0 l0_1 a0_2 a0_3).bind fun t605 => (if t605 = true then ((glidepathref02_CopyCase.f l0_0 l0_1 a0_2 a0_3).bind fun bt606 => ((line_DetectedRate.f k bt606.1 bt606.2.1 bt606.2.2.1 bt606.2.2.2 a1).bind fun bt614 => ((glidepathref02_CaseErr.f k l0_0 l0_1 a0_2 a0_3).bind fun t618 => (if t618 = 0 then ((glidepathref02_ThresholdErr.f a1).bind fun t619 => (if t619 = 0 then (if bt614.2.2 = 0 then ((glidepathref02_Rate.f k l0_0 l0_1 a1).bind fun bt620 => (some (bt614.1 == bt620.1 && (bt614.2.1 == bt620.2)))) else (none)) else (if bt614.2.2 = t619 then (some (bt614.1 == 0 && (bt614.2.1 == 0))) else (none)))) else (if bt614.2.2 = t618 then (some (bt614.1 == 0 && (bt614.2.1 == 0))) else (none)))))) else (some true))) else (none))) = some r := h
 clear h
 replace H := Option.bind_eq_some_iff.mp H
 obtain ⟨t604, A30, H⟩ := H
 (try dsimp only at H)
 have A3 := Aside0.mk A30
 clear A30
 by_cases c4 : t604 = true
 ·subst c4
  rw [if_pos rfl] at H
  replace H := Option.bind_eq_some_iff.mp H
  obtain ⟨t605, A50, H⟩ := H
  (try dsimp only at H)
  have A5 := Aside0.mk A50
  clear A50
  by_cases c6 : t605 = true
  ·subst c6
   rw [if_pos rfl] at H
   replace H := Option.bind_eq_some_iff.mp H
   obtain ⟨⟨t606, t609, t612, t613⟩, A70, H⟩ := H
   (try dsimp only at H)
   have A7 := Aside0.mk A70
   clear A70
   replace H := Option.bind_eq_some_iff.mp H
   obtain ⟨⟨t614, t615, t616⟩, A80, H⟩ := H
   (try dsimp only at H)
   have A8 := Aside0.mk A80
   clear A80
   replace H := Option.bind_eq_some_iff.mp H
   obtain ⟨t618, A90, H⟩ := H
   (try dsimp only at H)
   have A9 := Aside0.mk A90
   clear A90
   by_cases c10 : t618 = 0
   ·rw [if_pos c10] at H
    have c10b0 := beq_iff_eq.mpr c10
    have c10b1 := bne_eq_false_iff_eq.mpr c10
    clear c10
    replace H := Option.bind_eq_some_iff.mp H
    obtain ⟨t619, A110, H⟩ := H
    (try dsimp only at H)
    have A11 := Aside0.mk A110
    clear A110
    by_cases c12 : t619 = 0
    ·rw [if_pos c12] at H
     have c12b0 := beq_iff_eq.mpr c12
     have c12b1 := bne_eq_false_iff_eq.mpr c12
     clear c12
     by_cases c13 : t616 = 0
     ·rw [if_pos c13] at H
      have c13b0 := beq_iff_eq.mpr c13
      have c13b1 := bne_eq_false_iff_eq.mpr c13
      clear c13
      replace H := Option.bind_eq_some_iff.mp H
      obtain ⟨⟨t620, t621⟩, A140, H⟩ := H
      (try dsimp only at H)
      have A14 := Aside0.mk A140
      clear A140
      obtain rfl := Option.some.inj H
      go_enter Tryd.func4, Tryd.ntmps4
      try go_wp2_with (first | ((with_reducible refine gate_dst (N := 2) rfl ?_); refine be 2 28 #[.slice A0_0 l0_0.length c0_0, .slice A0_1 l0_1.length c0_1, .int .i64 a0_2, .int .i64 a0_3] ?_; intro gb603 hg w15 hbox hb; have BK603 := Aside0.mk hbox; have GW603 := Aside0.mk (bg (n := w.heap.size) hg); have GE603 := Aside0.mk (bg (n := w.heap.size) hg); replace HB := sb HB hb; clear hb hbox hg) | ((with_reducible refine gate_callee (f := 18) rfl ?_); refine gl (some 8) Tryd.func18 #[] ?_; (with_reducible refine (glidepathlaw02_awake.calls k  true _ ?side1 A3.out).mono ?_); (case side1 => exact EstG.below HG.out bz); rintro e w16 ⟨rfl, hb⟩; refine ⟨_, rfl, ?_⟩; replace BK603 := bb BK603 hb; replace HB := sb HB hb; (try clear hb); obtain ⟨_, _, _, _, _, _, _, _⟩ := b4 BK603) | ((with_reducible refine gate_callee (f := 19) rfl ?_); refine gl (some 11) Tryd.func19 #[.agg #[.slice A0_0 l0_0.length c0_0, .slice A0_1 l0_1.length c0_1, .int .i64 a0_2, .int .i64 a0_3]] ?_; (with_reducible refine (glidepathlaw02_light.calls k _ _ l0_0 _ _ l0_1 a0_2 a0_3 true _ ?side1 ?side2 ?side3 ?side4 A5.out).mono ?_); (case side1 => exact bc (Kd.C_below HR0_0.out HB.out)); (case side2 => exact HC0_0.out); (case side3 => exact bc (Kd.C_below HR0_1.out HB.out)); (case side4 => exact HC0_1.out); rintro e w18 ⟨rfl, hb⟩; refine ⟨_, rfl, ?_⟩; replace BK603 := bb BK603 hb; replace HB := sb HB hb; (try clear hb); obtain ⟨_, _, _, _, _, _, _, _⟩ := b4 BK603) | ((with_reducible refine gate_callee (f := 21) rfl ?_); refine gl (some 15) Tryd.func21 #[.agg #[.slice A0_0 l0_0.length c0_0, .slice A0_1 l0_1.length c0_1, .int .i64 a0_2, .int .i64 a0_3]] ?_; (with_reducible refine (glidepathref02_CopyCase.calls _ _ l0_0 _ _ l0_1 a0_2 a0_3 t606 t609 t612 t613 _ ?side1 ?side2 ?side3 ?side4 A7.out).mono ?_); (case side1 => exact bc (Kd.C_below HR0_0.out HB.out)); (case side2 => exact HC0_0.out); (case side3 => exact bc (Kd.C_below HR0_1.out HB.out)); (case side4 => exact HC0_1.out); rintro e w20 ⟨v607, v610, rfl, ho0, ho1, hb⟩; refine ⟨_, rfl, ?_⟩; have HO608 := Aside0.mk (Kd.R_lower ho0 (below_size bz)); have HO611 := Aside0.mk (Kd.R_lower ho1 (below_size bz)); replace BK603 := bb BK603 hb; replace HB := sb HB hb; (try clear hb); (try clear ho0); (try clear ho1); obtain ⟨Ao21, co21, eo21⟩ := Kd.R_slice HO608.out; subst eo21; obtain ⟨Ao22, co22, eo22⟩ := Kd.R_slice HO611.out; subst eo22) | ((with_reducible refine gate_callee (f := 27) rfl ?_); refine gl (some 17) Tryd.func27 #[.agg #[.slice Ao21 t606.length co21, .slice Ao22 t609.length co22, .int .i64 t612, .int .i64 t613], .int .i64 a1] ?_; (with_reducible refine (line_DetectedRate.calls k _ _ t606 _ _ t609 t612 t613 a1 t614 t615 t616 _ ?side1 ?side2 ?side3 ?side4 A8.out).mono ?_); (case side1 => exact bc (Kd.R_reads' HO608.out).2.2); (case side2 => exact (Kd.R_reads' HO608.out).2.1); (case side3 => exact bc (Kd.R_reads' HO611.out).2.2); (case side4 => exact (Kd.R_reads' HO611.out).2.1); rintro e w23 ⟨rfl, hb⟩; refine ⟨_, rfl, ?_⟩; replace HO608 := rb HO608 hb; replace HO611 := rb HO611 hb; replace BK603 := bb BK603 hb; replace HB := sb HB hb; (try clear hb)) | ((with_reducible refine gate_dst (N := 5) rfl ?_); refine be 5 26 #[.int .i64 0, .int .i64 0] ?_; intro gb617 hg w24 hbox hb; replace HO608 := rb HO608 hb; replace HO611 := rb HO611 hb; have BK617 := Aside0.mk hbox; have GW617 := Aside0.mk (bg (n := w.heap.size) hg); have GE617 := Aside0.mk (bg (n := w.heap.size) hg); replace HB := sb HB hb; have NB603_617 := nl BK603 hg; have NB617_603 := ng (nl BK603 hg); replace BK603 := bb BK603 hb; clear hb hbox hg; have hnb25 := NB617_603.out; have hnc25 := NB603_617.out; obtain ⟨_, _, _, _⟩ := b2 BK617; obtain ⟨_, _, _, _, _, _, _, _⟩ := b4 BK603) | ((with_reducible refine gate_callee (f := 23) rfl ?_); refine gl (some 21) Tryd.func23 #[.agg #[.slice A0_0 l0_0.length c0_0, .slice A0_1 l0_1.length c0_1, .int .i64 a0_2, .int .i64 a0_3]] ?_; (with_reducible refine (glidepathref02_CaseErr.calls k _ _ l0_0 _ _ l0_1 a0_2 a0_3 t618 _ ?side1 ?side2 ?side3 ?side4 A9.out).mono ?_); (case side1 => exact Kd.C_below HR0_0.out bz); (case side2 => exact HC0_0.out); (case side3 => exact Kd.C_below HR0_1.out bz); (case side4 => exact HC0_1.out); rintro e w28 ⟨rfl, hb⟩; refine ⟨_, rfl, ?_⟩; replace HO608 := Aside0.mk (Kd.R_below (by (with_reducible repeat (first | apply Kd.R_alloc | apply Kd.R_drewN | apply Kd.R_drew)); exact (Kd.R_mono (Kd.R_far (p := ⟨gb617, 1, none⟩) (Kd.R_far (p := ⟨gb617, 0, none⟩) (Kd.R_types HO608.out BK617.out (by decide)) (fun _ hk => hk.2) (.int .i64 t614)) (fun _ hk => hk.2) (.int .i64 t615)) (fun _ h_ => h_.1))) hb); replace HO611 := Aside0.mk (Kd.R_below (by (with_reducible repeat (first | apply Kd.R_alloc | apply Kd.R_drewN | apply Kd.R_drew)); exact (Kd.R_mono (Kd.R_far (p := ⟨gb617, 1, none⟩) (Kd.R_far (p := ⟨gb617, 0, none⟩) (Kd.R_types HO611.out BK617.out (by decide)) (fun _ hk => hk.2) (.int .i64 t614)) (fun _ hk => hk.2) (.int .i64 t615)) (fun _ h_ => h_.1))) hb); replace BK603 := Aside0.mk (blk_below (g := gb603) (o := .cells #[.slice A0_0 l0_0.length c0_0, .slice A0_1 l0_1.length c0_1, .int .i64 a0_2, .int .i64 a0_3] 28 (0, 0)) (by (with_reducible repeat (first | refine blk_drewN ?_ _ | refine blk_drew ?_ | refine blk_alloc ?_ _)); refine blk_far ?_ NB603_617.out _; (with_reducible repeat (first | refine blk_drewN ?_ _ | refine blk_drew ?_ | refine blk_alloc ?_ _)); refine blk_far ?_ NB603_617.out _; (with_reducible repeat (first | refine blk_drewN ?_ _ | refine blk_drew ?_ | refine blk_alloc ?_ _)); exact BK603.out) hb); replace BK617 := Aside0.mk (blk_below (g := gb617) (o := .cells #[.int .i64 t614, .int .i64 t615] 26 (0, 0)) (by (with_reducible repeat (first | refine blk_drewN ?_ _ | refine blk_drew ?_ | refine blk_alloc ?_ _)); refine blk_put (cs := #[.int .i64 t614, .int .i64 0]) ?_ 1 _ rfl; (with_reducible repeat (first | refine blk_drewN ?_ _ | refine blk_drew ?_ | refine blk_alloc ?_ _)); refine blk_put (cs := #[.int .i64 0, .int .i64 0]) ?_ 0 _ rfl; (with_reducible repeat (first | refine blk_drewN ?_ _ | refine blk_drew ?_ | refine blk_alloc ?_ _)); exact BK617.out) hb); replace HB := sb HB hb; (try clear hb)) | ((with_reducible refine gate_callee (f := 28) rfl ?_); refine gl (some 25) Tryd.func28 #[.int .i64 a1] ?_; (with_reducible refine (glidepathref02_ThresholdErr.calls a1 t619 _ A11.out).mono ?_); rintro e w' ⟨rfl, ⟨nd, rfl⟩⟩; refine ⟨_, rfl, ?_⟩))
      (try (rw [drewN_self w28]; generalize hq_ : World.drewN w28 _ = w28; have n0_ : Aside0 (Kd.R (Kd.int .i64) 3 w28 w.heap.size (fun k_ => some k_ ≠ (.slice Ao22 t609.length co22 : Value).ownBlock) (.slice Ao21 t606.length co21) t606) := ⟨by rw [← hq_]; exact (br HO608.out)⟩; have n1_ : Aside0 (Kd.R (Kd.int .i64) 3 w28 w.heap.size (fun k_ => some k_ ≠ (.slice Ao21 t606.length co21 : Value).ownBlock) (.slice Ao22 t609.length co22) t609) := ⟨by rw [← hq_]; exact (br HO611.out)⟩; have n2_ : Aside0 (w28.heap[gb603]? = some (.cells #[.slice A0_0 l0_0.length c0_0, .slice A0_1 l0_1.length c0_1, .int .i64 a0_2, .int .i64 a0_3] 28 (0, 0))) := ⟨by rw [← hq_]; exact (bk BK603.out)⟩; have n3_ : Aside0 (w28.heap[gb617]? = some (.cells #[.int .i64 t614, .int .i64 t615] 26 (0, 0))) := ⟨by rw [← hq_]; exact (bk BK617.out)⟩; have n4_ : Aside0 (Below w.heap.size w w28) := ⟨by rw [← hq_]; exact bz⟩; clear HO608 HO611 BK603 BK617 HB hq_; have HO608 := n0_; have HO611 := n1_; have BK603 := n2_; have BK617 := n3_; have HB := n4_; clear n0_ n1_ n2_ n3_ n4_))
      replace HO608 := Aside0.mk (Kd.R_drew HO608.out); replace HO611 := Aside0.mk (Kd.R_drew HO611.out); replace BK603 := Aside0.mk (blk_drew BK603.out); replace BK617 := Aside0.mk (blk_drew BK617.out); replace HB := Aside0.mk (below_drew1 HB.out)
      refine start_ (n := 13) (S := fun w' => w'.cell? ⟨gb617, 0, none⟩ = some (.int .i64 t614) ∧ w'.cell? ⟨gb617, 1, none⟩ = some (.int .i64 t615) ∧ w'.cell? ⟨gb603, 0, none⟩ = some (.slice A0_0 l0_0.length c0_0) ∧ w'.cell? ⟨gb603, 1, none⟩ = some (.slice A0_1 l0_1.length c0_1) ∧ w'.cell? ⟨gb603, 2, none⟩ = some (.int .i64 a0_2) ∧ w'.cell? ⟨gb603, 3, none⟩ = some (.int .i64 a0_3)) (ds := []) #[false, false, false, false, false, false, false, false, false, false, false, false, false] (by kernel_rfl) rfl rfl ⟨(blk_cell BK617.out 0).trans rfl, (blk_cell BK617.out 1).trans rfl, (blk_cell BK603.out 0).trans rfl, (blk_cell BK603.out 1).trans rfl, (blk_cell BK603.out 2).trans rfl, (blk_cell BK603.out 3).trans rfl⟩ (fun hHeld => ?_); refine with_tabW glidepathlaw02_LineDetected.tab11 glidepathlaw02_LineDetected.bits11 (fun HT_ HW_ => ?_)
      generalize w28.drew = w29 at HO608 HO611 BK603 BK617 HB hHeld ⊢
      refine pureZ (i := 0) (N := some 36) (bs 13 1) HT_ ?_
      refine pureZ (i := 1) (N := some 37) (bs 13 3) HT_ ?_
      refine pureZ (i := 2) (N := some 38) (bs 13 7) HT_ ?_
      refine pureZ (i := 4) (N := some 40) (bs 13 23) HT_ ?_
      refine pureZ (i := 6) (N := some 42) (bs 13 87) HT_ ?_
      refine pureZ (i := 8) (N := some 44) (bs 13 343) HT_ ?_
      refine take_ (i := 3) (N := some 39) (v := ?_) (a' := ?_) (bs 13 351) rfl rfl (take_ofW HT_.out HW_.out (by kernel_rfl)) (fun _ _ _ h => h) (Or.inl ⟨by rfl, ?_⟩) hHeld ?_ ?_
      rotate_left
      ·rintro w' ⟨s0, s1, s2, s3, s4, s5⟩
       go_simp
       with_reducible rfl
      rotate_left
      ·exact pz
      refine take_ (i := 5) (N := some 41) (v := ?_) (a' := ?_) (bs 13 383) rfl rfl (take_ofW HT_.out HW_.out (by kernel_rfl)) (fun _ _ _ h => h) (Or.inl ⟨by rfl, ?_⟩) hHeld ?_ ?_
      rotate_left
      ·rintro w' ⟨s0, s1, s2, s3, s4, s5⟩
       go_simp
       with_reducible rfl
      rotate_left
      ·exact pz
      refine take_ (i := 7) (N := some 43) (v := ?_) (a' := ?_) (bs 13 511) rfl rfl (take_ofW HT_.out HW_.out (by kernel_rfl)) (fun _ _ _ h => h) (Or.inl ⟨by rfl, ?_⟩) hHeld ?_ ?_
      rotate_left
      ·rintro w' ⟨s0, s1, s2, s3, s4, s5⟩
       go_simp
       with_reducible rfl
      rotate_left
      ·exact pz
      refine one_ (i := 9) (N := some 45) (bs 13 1023) rfl rfl (one_of HT_.out (by kernel_rfl)) (by decide) (fun K hK => ?_)
      refine goes_ Tryd.func29 (by kernel_rfl) rfl #[.slice A0_0 l0_0.length c0_0, .agg #[.slice A0_1 l0_1.length c0_1], .int .i64 a1] (by rfl) rfl rfl mz ?_
      with_reducible refine (glidepathref02_Rate.calls k _ _ l0_0 _ _ l0_1 a1 t620 t621 _ ?side1 ?side2 ?side3 ?side4 A14.out).mono ?_
      (case side1 => exact bc (Kd.C_below HR0_0.out HB.out))
      (case side2 => exact HC0_0.out)
      (case side3 => exact bc (Kd.C_below HR0_1.out HB.out))
      (case side4 => exact HC0_1.out)
      rintro e w30 ⟨rfl, hb⟩
      refine ⟨_, rfl, ?_⟩
      replace HO608 := rb HO608 hb; replace HO611 := rb HO611 hb; replace BK603 := bb BK603 hb; replace BK617 := bb BK617 hb; replace HB := sb HB hb
      (try clear hb)
      (try clear hb2)
      (try clear hk)
      (try clear hi)
      refine hK.out _ _ ⟨(blk_cell BK617.out 0).trans rfl, (blk_cell BK617.out 1).trans rfl, (blk_cell BK603.out 0).trans rfl, (blk_cell BK603.out 1).trans rfl, (blk_cell BK603.out 2).trans rfl, (blk_cell BK603.out 3).trans rfl⟩ (fun hHeld => ?_)
      clear hK K
      refine norm_ (a' := ?_) ?_ ?_
      rotate_left
      ·show Act.put _ (some 45) _ = _
       exact pz
      refine pureZ (i := 10) (N := some 46) (bs 13 2047) HT_ ?_
      refine pureZ (i := 11) (N := some 47) (bs 13 4095) HT_ ?_
      refine pureZ (i := 12) (N := some 4) (bs 13 8191) HT_ ?_
      refine done_ (done_of HT_.out (by kernel_rfl)) ?_
      try go_wp2
      go_ret
      exact ez
     ·rw [if_neg c13] at H
      have c13b0 := beq_eq_false_iff_ne.mpr c13
      have c13b1 := bne_iff_ne.mpr c13
      exact absurd H (by simp)
    ·rw [if_neg c12] at H
     have c12b0 := beq_eq_false_iff_ne.mpr c12
     have c12b1 := bne_iff_ne.mpr c12
     by_cases c31 : t616 = t619
     ·rw [if_pos c31] at H
      have c31b0 := beq_iff_eq.mpr c31
      have c31b1 := bne_eq_false_iff_eq.mpr c31
      clear c31
      obtain rfl := Option.some.inj H
      go_enter Tryd.func4, Tryd.ntmps4
      go_wp2_with (first | ((with_reducible refine gate_dst (N := 2) rfl ?_); refine be 2 28 #[.slice A0_0 l0_0.length c0_0, .slice A0_1 l0_1.length c0_1, .int .i64 a0_2, .int .i64 a0_3] ?_; intro gb603 hg w32 hbox hb; have BK603 := Aside0.mk hbox; have GW603 := Aside0.mk (bg (n := w.heap.size) hg); have GE603 := Aside0.mk (bg (n := w.heap.size) hg); replace HB := sb HB hb; clear hb hbox hg) | ((with_reducible refine gate_callee (f := 18) rfl ?_); refine gl (some 8) Tryd.func18 #[] ?_; (with_reducible refine (glidepathlaw02_awake.calls k  true _ ?side1 A3.out).mono ?_); (case side1 => exact EstG.below HG.out bz); rintro e w33 ⟨rfl, hb⟩; refine ⟨_, rfl, ?_⟩; replace BK603 := bb BK603 hb; replace HB := sb HB hb; (try clear hb); obtain ⟨_, _, _, _, _, _, _, _⟩ := b4 BK603) | ((with_reducible refine gate_callee (f := 19) rfl ?_); refine gl (some 11) Tryd.func19 #[.agg #[.slice A0_0 l0_0.length c0_0, .slice A0_1 l0_1.length c0_1, .int .i64 a0_2, .int .i64 a0_3]] ?_; (with_reducible refine (glidepathlaw02_light.calls k _ _ l0_0 _ _ l0_1 a0_2 a0_3 true _ ?side1 ?side2 ?side3 ?side4 A5.out).mono ?_); (case side1 => exact bc (Kd.C_below HR0_0.out HB.out)); (case side2 => exact HC0_0.out); (case side3 => exact bc (Kd.C_below HR0_1.out HB.out)); (case side4 => exact HC0_1.out); rintro e w35 ⟨rfl, hb⟩; refine ⟨_, rfl, ?_⟩; replace BK603 := bb BK603 hb; replace HB := sb HB hb; (try clear hb); obtain ⟨_, _, _, _, _, _, _, _⟩ := b4 BK603) | ((with_reducible refine gate_callee (f := 21) rfl ?_); refine gl (some 15) Tryd.func21 #[.agg #[.slice A0_0 l0_0.length c0_0, .slice A0_1 l0_1.length c0_1, .int .i64 a0_2, .int .i64 a0_3]] ?_; (with_reducible refine (glidepathref02_CopyCase.calls _ _ l0_0 _ _ l0_1 a0_2 a0_3 t606 t609 t612 t613 _ ?side1 ?side2 ?side3 ?side4 A7.out).mono ?_); (case side1 => exact bc (Kd.C_below HR0_0.out HB.out)); (case side2 => exact HC0_0.out); (case side3 => exact bc (Kd.C_below HR0_1.out HB.out)); (case side4 => exact HC0_1.out); rintro e w37 ⟨v607, v610, rfl, ho0, ho1, hb⟩; refine ⟨_, rfl, ?_⟩; have HO608 := Aside0.mk (Kd.R_lower ho0 (below_size bz)); have HO611 := Aside0.mk (Kd.R_lower ho1 (below_size bz)); replace BK603 := bb BK603 hb; replace HB := sb HB hb; (try clear hb); (try clear ho0); (try clear ho1); obtain ⟨Ao38, co38, eo38⟩ := Kd.R_slice HO608.out; subst eo38; obtain ⟨Ao39, co39, eo39⟩ := Kd.R_slice HO611.out; subst eo39) | ((with_reducible refine gate_callee (f := 27) rfl ?_); refine gl (some 17) Tryd.func27 #[.agg #[.slice Ao38 t606.length co38, .slice Ao39 t609.length co39, .int .i64 t612, .int .i64 t613], .int .i64 a1] ?_; (with_reducible refine (line_DetectedRate.calls k _ _ t606 _ _ t609 t612 t613 a1 t614 t615 t616 _ ?side1 ?side2 ?side3 ?side4 A8.out).mono ?_); (case side1 => exact bc (Kd.R_reads' HO608.out).2.2); (case side2 => exact (Kd.R_reads' HO608.out).2.1); (case side3 => exact bc (Kd.R_reads' HO611.out).2.2); (case side4 => exact (Kd.R_reads' HO611.out).2.1); rintro e w40 ⟨rfl, hb⟩; refine ⟨_, rfl, ?_⟩; replace HO608 := rb HO608 hb; replace HO611 := rb HO611 hb; replace BK603 := bb BK603 hb; replace HB := sb HB hb; (try clear hb)) | ((with_reducible refine gate_dst (N := 5) rfl ?_); refine be 5 26 #[.int .i64 0, .int .i64 0] ?_; intro gb617 hg w41 hbox hb; replace HO608 := rb HO608 hb; replace HO611 := rb HO611 hb; have BK617 := Aside0.mk hbox; have GW617 := Aside0.mk (bg (n := w.heap.size) hg); have GE617 := Aside0.mk (bg (n := w.heap.size) hg); replace HB := sb HB hb; have NB603_617 := nl BK603 hg; have NB617_603 := ng (nl BK603 hg); replace BK603 := bb BK603 hb; clear hb hbox hg; have hnb42 := NB617_603.out; have hnc42 := NB603_617.out; obtain ⟨_, _, _, _⟩ := b2 BK617; obtain ⟨_, _, _, _, _, _, _, _⟩ := b4 BK603) | ((with_reducible refine gate_callee (f := 23) rfl ?_); refine gl (some 21) Tryd.func23 #[.agg #[.slice A0_0 l0_0.length c0_0, .slice A0_1 l0_1.length c0_1, .int .i64 a0_2, .int .i64 a0_3]] ?_; (with_reducible refine (glidepathref02_CaseErr.calls k _ _ l0_0 _ _ l0_1 a0_2 a0_3 t618 _ ?side1 ?side2 ?side3 ?side4 A9.out).mono ?_); (case side1 => exact Kd.C_below HR0_0.out bz); (case side2 => exact HC0_0.out); (case side3 => exact Kd.C_below HR0_1.out bz); (case side4 => exact HC0_1.out); rintro e w45 ⟨rfl, hb⟩; refine ⟨_, rfl, ?_⟩; replace HO608 := Aside0.mk (Kd.R_below (by (with_reducible repeat (first | apply Kd.R_alloc | apply Kd.R_drewN | apply Kd.R_drew)); exact (Kd.R_mono (Kd.R_far (p := ⟨gb617, 1, none⟩) (Kd.R_far (p := ⟨gb617, 0, none⟩) (Kd.R_types HO608.out BK617.out (by decide)) (fun _ hk => hk.2) (.int .i64 t614)) (fun _ hk => hk.2) (.int .i64 t615)) (fun _ h_ => h_.1))) hb); replace HO611 := Aside0.mk (Kd.R_below (by (with_reducible repeat (first | apply Kd.R_alloc | apply Kd.R_drewN | apply Kd.R_drew)); exact (Kd.R_mono (Kd.R_far (p := ⟨gb617, 1, none⟩) (Kd.R_far (p := ⟨gb617, 0, none⟩) (Kd.R_types HO611.out BK617.out (by decide)) (fun _ hk => hk.2) (.int .i64 t614)) (fun _ hk => hk.2) (.int .i64 t615)) (fun _ h_ => h_.1))) hb); replace BK603 := Aside0.mk (blk_below (g := gb603) (o := .cells #[.slice A0_0 l0_0.length c0_0, .slice A0_1 l0_1.length c0_1, .int .i64 a0_2, .int .i64 a0_3] 28 (0, 0)) (by (with_reducible repeat (first | refine blk_drewN ?_ _ | refine blk_drew ?_ | refine blk_alloc ?_ _)); refine blk_far ?_ NB603_617.out _; (with_reducible repeat (first | refine blk_drewN ?_ _ | refine blk_drew ?_ | refine blk_alloc ?_ _)); refine blk_far ?_ NB603_617.out _; (with_reducible repeat (first | refine blk_drewN ?_ _ | refine blk_drew ?_ | refine blk_alloc ?_ _)); exact BK603.out) hb); replace BK617 := Aside0.mk (blk_below (g := gb617) (o := .cells #[.int .i64 t614, .int .i64 t615] 26 (0, 0)) (by (with_reducible repeat (first | refine blk_drewN ?_ _ | refine blk_drew ?_ | refine blk_alloc ?_ _)); refine blk_put (cs := #[.int .i64 t614, .int .i64 0]) ?_ 1 _ rfl; (with_reducible repeat (first | refine blk_drewN ?_ _ | refine blk_drew ?_ | refine blk_alloc ?_ _)); refine blk_put (cs := #[.int .i64 0, .int .i64 0]) ?_ 0 _ rfl; (with_reducible repeat (first | refine blk_drewN ?_ _ | refine blk_drew ?_ | refine blk_alloc ?_ _)); exact BK617.out) hb); replace HB := sb HB hb; (try clear hb)) | ((with_reducible refine gate_callee (f := 28) rfl ?_); refine gl (some 25) Tryd.func28 #[.int .i64 a1] ?_; (with_reducible refine (glidepathref02_ThresholdErr.calls a1 t619 _ A11.out).mono ?_); rintro e w' ⟨rfl, ⟨nd, rfl⟩⟩; refine ⟨_, rfl, ?_⟩; obtain ⟨_, _, _, _⟩ := b2 BK617))
      go_ret
      exact ez
     ·rw [if_neg c31] at H
      exact absurd H (by simp)
   ·rw [if_neg c10] at H
    have c10b0 := beq_eq_false_iff_ne.mpr c10
    have c10b1 := bne_iff_ne.mpr c10
    by_cases c47 : t616 = t618
    ·rw [if_pos c47] at H
     have c47b0 := beq_iff_eq.mpr c47
     have c47b1 := bne_eq_false_iff_eq.mpr c47
     clear c47
     obtain rfl := Option.some.inj H
     go_enter Tryd.func4, Tryd.ntmps4
     go_wp2_with (first | ((with_reducible refine gate_dst (N := 2) rfl ?_); refine be 2 28 #[.slice A0_0 l0_0.length c0_0, .slice A0_1 l0_1.length c0_1, .int .i64 a0_2, .int .i64 a0_3] ?_; intro gb603 hg w48 hbox hb; have BK603 := Aside0.mk hbox; have GW603 := Aside0.mk (bg (n := w.heap.size) hg); have GE603 := Aside0.mk (bg (n := w.heap.size) hg); replace HB := sb HB hb; clear hb hbox hg) | ((with_reducible refine gate_callee (f := 18) rfl ?_); refine gl (some 8) Tryd.func18 #[] ?_; (with_reducible refine (glidepathlaw02_awake.calls k  true _ ?side1 A3.out).mono ?_); (case side1 => exact EstG.below HG.out bz); rintro e w49 ⟨rfl, hb⟩; refine ⟨_, rfl, ?_⟩; replace BK603 := bb BK603 hb; replace HB := sb HB hb; (try clear hb); obtain ⟨_, _, _, _, _, _, _, _⟩ := b4 BK603) | ((with_reducible refine gate_callee (f := 19) rfl ?_); refine gl (some 11) Tryd.func19 #[.agg #[.slice A0_0 l0_0.length c0_0, .slice A0_1 l0_1.length c0_1, .int .i64 a0_2, .int .i64 a0_3]] ?_; (with_reducible refine (glidepathlaw02_light.calls k _ _ l0_0 _ _ l0_1 a0_2 a0_3 true _ ?side1 ?side2 ?side3 ?side4 A5.out).mono ?_); (case side1 => exact bc (Kd.C_below HR0_0.out HB.out)); (case side2 => exact HC0_0.out); (case side3 => exact bc (Kd.C_below HR0_1.out HB.out)); (case side4 => exact HC0_1.out); rintro e w51 ⟨rfl, hb⟩; refine ⟨_, rfl, ?_⟩; replace BK603 := bb BK603 hb; replace HB := sb HB hb; (try clear hb); obtain ⟨_, _, _, _, _, _, _, _⟩ := b4 BK603) | ((with_reducible refine gate_callee (f := 21) rfl ?_); refine gl (some 15) Tryd.func21 #[.agg #[.slice A0_0 l0_0.length c0_0, .slice A0_1 l0_1.length c0_1, .int .i64 a0_2, .int .i64 a0_3]] ?_; (with_reducible refine (glidepathref02_CopyCase.calls _ _ l0_0 _ _ l0_1 a0_2 a0_3 t606 t609 t612 t613 _ ?side1 ?side2 ?side3 ?side4 A7.out).mono ?_); (case side1 => exact bc (Kd.C_below HR0_0.out HB.out)); (case side2 => exact HC0_0.out); (case side3 => exact bc (Kd.C_below HR0_1.out HB.out)); (case side4 => exact HC0_1.out); rintro e w53 ⟨v607, v610, rfl, ho0, ho1, hb⟩; refine ⟨_, rfl, ?_⟩; have HO608 := Aside0.mk (Kd.R_lower ho0 (below_size bz)); have HO611 := Aside0.mk (Kd.R_lower ho1 (below_size bz)); replace BK603 := bb BK603 hb; replace HB := sb HB hb; (try clear hb); (try clear ho0); (try clear ho1); obtain ⟨Ao54, co54, eo54⟩ := Kd.R_slice HO608.out; subst eo54; obtain ⟨Ao55, co55, eo55⟩ := Kd.R_slice HO611.out; subst eo55) | ((with_reducible refine gate_callee (f := 27) rfl ?_); refine gl (some 17) Tryd.func27 #[.agg #[.slice Ao54 t606.length co54, .slice Ao55 t609.length co55, .int .i64 t612, .int .i64 t613], .int .i64 a1] ?_; (with_reducible refine (line_DetectedRate.calls k _ _ t606 _ _ t609 t612 t613 a1 t614 t615 t616 _ ?side1 ?side2 ?side3 ?side4 A8.out).mono ?_); (case side1 => exact bc (Kd.R_reads' HO608.out).2.2); (case side2 => exact (Kd.R_reads' HO608.out).2.1); (case side3 => exact bc (Kd.R_reads' HO611.out).2.2); (case side4 => exact (Kd.R_reads' HO611.out).2.1); rintro e w56 ⟨rfl, hb⟩; refine ⟨_, rfl, ?_⟩; replace HO608 := rb HO608 hb; replace HO611 := rb HO611 hb; replace BK603 := bb BK603 hb; replace HB := sb HB hb; (try clear hb)) | ((with_reducible refine gate_dst (N := 5) rfl ?_); refine be 5 26 #[.int .i64 0, .int .i64 0] ?_; intro gb617 hg w57 hbox hb; replace HO608 := rb HO608 hb; replace HO611 := rb HO611 hb; have BK617 := Aside0.mk hbox; have GW617 := Aside0.mk (bg (n := w.heap.size) hg); have GE617 := Aside0.mk (bg (n := w.heap.size) hg); replace HB := sb HB hb; have NB603_617 := nl BK603 hg; have NB617_603 := ng (nl BK603 hg); replace BK603 := bb BK603 hb; clear hb hbox hg; have hnb58 := NB617_603.out; have hnc58 := NB603_617.out; obtain ⟨_, _, _, _⟩ := b2 BK617; obtain ⟨_, _, _, _, _, _, _, _⟩ := b4 BK603) | ((with_reducible refine gate_callee (f := 23) rfl ?_); refine gl (some 21) Tryd.func23 #[.agg #[.slice A0_0 l0_0.length c0_0, .slice A0_1 l0_1.length c0_1, .int .i64 a0_2, .int .i64 a0_3]] ?_; (with_reducible refine (glidepathref02_CaseErr.calls k _ _ l0_0 _ _ l0_1 a0_2 a0_3 t618 _ ?side1 ?side2 ?side3 ?side4 A9.out).mono ?_); (case side1 => exact Kd.C_below HR0_0.out bz); (case side2 => exact HC0_0.out); (case side3 => exact Kd.C_below HR0_1.out bz); (case side4 => exact HC0_1.out); rintro e w61 ⟨rfl, hb⟩; refine ⟨_, rfl, ?_⟩; replace HO608 := Aside0.mk (Kd.R_below (by (with_reducible repeat (first | apply Kd.R_alloc | apply Kd.R_drewN | apply Kd.R_drew)); exact (Kd.R_mono (Kd.R_far (p := ⟨gb617, 1, none⟩) (Kd.R_far (p := ⟨gb617, 0, none⟩) (Kd.R_types HO608.out BK617.out (by decide)) (fun _ hk => hk.2) (.int .i64 t614)) (fun _ hk => hk.2) (.int .i64 t615)) (fun _ h_ => h_.1))) hb); replace HO611 := Aside0.mk (Kd.R_below (by (with_reducible repeat (first | apply Kd.R_alloc | apply Kd.R_drewN | apply Kd.R_drew)); exact (Kd.R_mono (Kd.R_far (p := ⟨gb617, 1, none⟩) (Kd.R_far (p := ⟨gb617, 0, none⟩) (Kd.R_types HO611.out BK617.out (by decide)) (fun _ hk => hk.2) (.int .i64 t614)) (fun _ hk => hk.2) (.int .i64 t615)) (fun _ h_ => h_.1))) hb); replace BK603 := Aside0.mk (blk_below (g := gb603) (o := .cells #[.slice A0_0 l0_0.length c0_0, .slice A0_1 l0_1.length c0_1, .int .i64 a0_2, .int .i64 a0_3] 28 (0, 0)) (by (with_reducible repeat (first | refine blk_drewN ?_ _ | refine blk_drew ?_ | refine blk_alloc ?_ _)); refine blk_far ?_ NB603_617.out _; (with_reducible repeat (first | refine blk_drewN ?_ _ | refine blk_drew ?_ | refine blk_alloc ?_ _)); refine blk_far ?_ NB603_617.out _; (with_reducible repeat (first | refine blk_drewN ?_ _ | refine blk_drew ?_ | refine blk_alloc ?_ _)); exact BK603.out) hb); replace BK617 := Aside0.mk (blk_below (g := gb617) (o := .cells #[.int .i64 t614, .int .i64 t615] 26 (0, 0)) (by (with_reducible repeat (first | refine blk_drewN ?_ _ | refine blk_drew ?_ | refine blk_alloc ?_ _)); refine blk_put (cs := #[.int .i64 t614, .int .i64 0]) ?_ 1 _ rfl; (with_reducible repeat (first | refine blk_drewN ?_ _ | refine blk_drew ?_ | refine blk_alloc ?_ _)); refine blk_put (cs := #[.int .i64 0, .int .i64 0]) ?_ 0 _ rfl; (with_reducible repeat (first | refine blk_drewN ?_ _ | refine blk_drew ?_ | refine blk_alloc ?_ _)); exact BK617.out) hb); replace HB := sb HB hb; (try clear hb); obtain ⟨_, _, _, _⟩ := b2 BK617))
     go_ret
     exact ez
    ·rw [if_neg c47] at H
     exact absurd H (by simp)
  ·replace c6 := Bool.eq_false_iff.mpr c6
   subst c6
   rw [if_neg (show ¬ (false = true) by decide)] at H
   obtain rfl := Option.some.inj H
   go_enter Tryd.func4, Tryd.ntmps4
   go_wp2_with (first | ((with_reducible refine gate_dst (N := 2) rfl ?_); refine be 2 28 #[.slice A0_0 l0_0.length c0_0, .slice A0_1 l0_1.length c0_1, .int .i64 a0_2, .int .i64 a0_3] ?_; intro gb603 hg w63 hbox hb; have BK603 := Aside0.mk hbox; have GW603 := Aside0.mk (bg (n := w.heap.size) hg); have GE603 := Aside0.mk (bg (n := w.heap.size) hg); replace HB := sb HB hb; clear hb hbox hg) | ((with_reducible refine gate_callee (f := 18) rfl ?_); refine gl (some 8) Tryd.func18 #[] ?_; (with_reducible refine (glidepathlaw02_awake.calls k  true _ ?side1 A3.out).mono ?_); (case side1 => exact EstG.below HG.out bz); rintro e w64 ⟨rfl, hb⟩; refine ⟨_, rfl, ?_⟩; replace BK603 := bb BK603 hb; replace HB := sb HB hb; (try clear hb); obtain ⟨_, _, _, _, _, _, _, _⟩ := b4 BK603) | ((with_reducible refine gate_callee (f := 19) rfl ?_); refine gl (some 11) Tryd.func19 #[.agg #[.slice A0_0 l0_0.length c0_0, .slice A0_1 l0_1.length c0_1, .int .i64 a0_2, .int .i64 a0_3]] ?_; (with_reducible refine (glidepathlaw02_light.calls k _ _ l0_0 _ _ l0_1 a0_2 a0_3 false _ ?side1 ?side2 ?side3 ?side4 A5.out).mono ?_); (case side1 => exact bc (Kd.C_below HR0_0.out HB.out)); (case side2 => exact HC0_0.out); (case side3 => exact bc (Kd.C_below HR0_1.out HB.out)); (case side4 => exact HC0_1.out); rintro e w66 ⟨rfl, hb⟩; refine ⟨_, rfl, ?_⟩; replace BK603 := bb BK603 hb; replace HB := sb HB hb; (try clear hb)))
   go_ret
   exact ez
 ·replace c4 := Bool.eq_false_iff.mpr c4
  subst c4
  rw [if_neg (show ¬ (false = true) by decide)] at H
  exact absurd H (by simp)
end
end Go.Proofs.YtjnkphmcndaijaaDoor.A
