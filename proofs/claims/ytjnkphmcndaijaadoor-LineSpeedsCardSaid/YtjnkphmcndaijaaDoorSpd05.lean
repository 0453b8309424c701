/- Walks of the program's functions (printed, made shorter), each with what it computes. -/
import Derived.Test.YtjnkphmcndaijaaDoorSpd04
import Derived.Test.YtjnkphmcndaijaaDoorSpd03
namespace Go.Proofs.YtjnkphmcndaijaaDoor.A
set_option maxHeartbeats 8000000
set_option maxRecDepth 100000
open Go.RowKit Go.Proofs.YtjnkphmcndaijaaDoorW.PrintWords Go.Proofs.YtjnkphmcndaijaaDoorW.PrintLast Go.Proofs.YtjnkphmcndaijaaDoorW.PrintMore
attribute [local go_sem] max2_int min2_int max_two min_two max_three min_three max_four min_four
set_option linter.unusedVariables false
set_option linter.unusedSimpArgs false
def L_noisy.l0 : Nat → Int → List Int → List Int → Int → Int → List Int → Option (List Int)
 | 0, _, _, _, _, _, _ => none
 | k + 1, x2, x7, x10, x11, x12, x137000 => if x12 < x11 then (if 0 ≤ x12 then (if x12 < (x10.length : Int) then (if (x137000.length : Int) = 0 then (none) else (if 0 ≤ (Int.tmod x2 (x137000.length : Int)) then (if (Int.tmod x2 (x137000.length : Int)) < (x137000.length : Int) then (if x7.length < 17592186044416 then (L_noisy.l0 k (wrap64 (Int.tdiv x2 (x137000.length : Int))) (x7 ++ [wrap64 ((rd x10 x12) + (rd x137000 (Int.tmod x2 (x137000.length : Int))))]) x10 x11 (wrap64 (x12 + 1)) x137000) else (none)) else (none)) else (none))) else (none)) else (none)) else (some x7)
def L_noisy.f (k : Nat) (l0 : List Int) (l1_0 : List Int) (a2 : Int) : Option (List Int) := L_noisy.l0 k a2 ([] : List Int) l0 (l0.length : Int) 0 l1_0
theorem L_noisy.mono_l : ∀ k, (∀ y0 y1 y2 y3 y4 y5, LeO (L_noisy.l0 k y0 y1 y2 y3 y4 y5) (L_noisy.l0 (k + 1) y0 y1 y2 y3 y4 y5))
 | 0 => fun _ _ _ _ _ _ r h => by simp [L_noisy.l0] at h
 | k + 1 => by
  have ih0 := L_noisy.mono_l k
  ·intro y0 y1 y2 y3 y4 y5
   unfold L_noisy.l0
   repeat' with_reducible first
    | exact ih0 ..
    | exact LeO.refl ..
    | exact LeO.none ..
    | refine LeO.ite ?_ ?_
    | refine LeO.bind ?_ (fun _ => ?_)
theorem L_noisy.mono : ∀ a0 a1 a2 k, LeO (L_noisy.f k a0 a1 a2) (L_noisy.f (k + 1) a0 a1 a2) := by
 intro a0 a1 a2 k
 have ih0 := L_noisy.mono_l k
 unfold L_noisy.f
 repeat' with_reducible first
  | exact ih0 ..
  | exact LeO.refl ..
  | exact LeO.none ..
  | refine LeO.ite ?_ ?_
  | refine LeO.bind ?_ (fun _ => ?_)
def L_noisy.T5 : Bool × List (List Nat × List Nat) := (true, [([], []), ([], []), ([], []), ([2], [2]), ([], []), ([], []), ([5], [5]), ([6], [6]), ([4, 7], [4, 7]), ([3, 8], [3, 8]), ([9], [9]), ([1, 10], [1, 10]), ([11], [11]), ([0, 12], [0, 12]), ([13, 13, 0, 1, 2, 3, 4, 5, 6, 7, 8, 9, 10, 11, 12, 13], [0, 13])])
def L_noisy.B5 : List Nat := [0, 0, 0, 4, 0, 0, 32, 96, 240, 508, 1020, 2046, 4094, 8191, 16383]
theorem L_noisy.tab5 : rtab .any (opsOf Tryd.f123 5) = L_noisy.T5 := by kernel_rfl
theorem L_noisy.bits5 : waitsOk L_noisy.T5.2 L_noisy.B5 = true := by kernel_rfl
theorem L_noisy.calls (k : Nat) (A0 : Option Addr) (c0 : Nat) (l0 : List Int) (A1_0 : Option Addr) (c1_0 : Nat) (l1_0 : List Int) (a2 : Int) (r : List Int) (w : World) (hr0 : Kd.C (Kd.int .i64) w A0 l0.length l0) (hc0 : l0.length ≤ c0) (hr1_0 : Kd.C (Kd.int .i64) w A1_0 l1_0.length l1_0) (hc1_0 : l1_0.length ≤ c1_0) (h : L_noisy.f k l0 l1_0 a2 = some r) :
  Calls Tryd.prog 123 #[.slice A0 l0.length c0, .agg #[.slice A1_0 l1_0.length c1_0], .int .i64 a2] w fun e w' => ∃ v0_ : Value, e = .returned (v0_) ∧ Kd.R (Kd.int .i64) 3 w' w.heap.size (fun _ => True) v0_ r ∧ Below w.heap.size w w' := by
 have hu24 := Tryd.underlying24
 have HR0 := m0 hr0
 have HC0 := m0 hc0
 clear hr0 hc0
 have HR1_0 := m0 hr1_0
 have HC1_0 := m0 hc1_0
 clear hr1_0 hc1_0
 have HB := m0 (Below.refl w.heap.size w)
 have H : (L_noisy.l0 k a2 ([] : List Int) l0 (l0.length : Int) 0 l1_0) = some r := h
 clear h
 have H' := m0 H
 clear H
 go_enter Tryd.func123, Tryd.ntmps123
 go_wp2_with (first | ((with_reducible refine gate_dst (N := 4) rfl ?_); refine be 4 24 #[.slice A1_0 l1_0.length c1_0] ?_; intro gb136 hg w4 hbox hb; have BK136 := m0 hbox; have GE136 := gw w hg; replace HB := sb HB hb; clear hb hbox hg))
 go_loopg [2, 7, 12] k (fun kq v2 v7 v12 w' => ∃ (x2_1 : Int) (x7_1 : List Int) (x12_1 : Int), v2 = .int .i64 x2_1 ∧ v12 = .int .i64 x12_1 ∧ Aside0 (L_noisy.l0 kq x2_1 x7_1 l0 (l0.length : Int) x12_1 l1_0 = some r) ∧ Aside0 (kq ≤ k) ∧ Aside0 (Kd.R (Kd.int .i64) 3 w' w.heap.size (fun _ => True) v7 x7_1) ∧ Aside0 (w'.heap[gb136]? = some (.cells #[(.slice A1_0 l1_0.length c1_0)] 24 (0, 0))) ∧ Aside0 (Below w.heap.size w w'))
 case atStart => exact ⟨(a2), (([] : List Int)), (0), (by first | rfl | (simp; done) | (simp [*]; done)), (by first | rfl | (simp; done) | (simp [*]; done)), H', ⟨Nat.le_refl _⟩, ⟨by first | exact Kd.R_nil _ _ _ _ _ | exact Kd.N_nil _ _ _ _ _ | exact Kd.V_nil _ _ _ _ _ | exact Kd.Q_nil _ _ _ _ _ | exact Kd.S_nil _ _ _ _ _⟩, ⟨bk BK136.out⟩, ⟨bz⟩⟩
 case round =>
  clear H'
  obtain ⟨x2_1, x7_1, x12_1, rfl, rfl, HA, HK1, HO_7, BK136, HB⟩ := hrel
  cases gk with
  | zero => exact absurd HA.out (by simp [L_noisy.l0])
  | succ k1 =>
   have H := HA.out
   clear HA
   simp only [L_noisy.l0] at H
   by_cases c5 : x12_1 < (l0.length : Int)
   ·rw [if_pos c5] at H
    have c5b0 := decide_eq_true c5
    clear c5
    by_cases c6 : 0 ≤ x12_1
    ·rw [if_pos c6] at H
     have c6b0 := decide_eq_true c6
     clear c6
     by_cases c7 : x12_1 < (l0.length : Int)
     ·rw [if_pos c7] at H
      have c7b0 := decide_eq_true c7
      clear c7
      by_cases c8 : (l1_0.length : Int) = 0
      ·rw [if_pos c8] at H
       exact absurd H (by simp)
      ·rw [if_neg c8] at H
       have c8b0 := beq_eq_false_iff_ne.mpr c8
       have c8b1 := bne_iff_ne.mpr c8
       have c8b2 : ¬ (l1_0 = []) := fun h_ => c8 (by rw [h_]; rfl)
       obtain ⟨ji9, hji9⟩ : ∃ j_ : Int, (Int.tmod x2_1 (l1_0.length : Int)) = j_ := ⟨_, rfl⟩
       replace H : (if 0 ≤ (ji9) then (if (ji9) < (l1_0.length : Int) then (if x7_1.length < 17592186044416 then (L_noisy.l0 k1 (wrap64 (Int.tdiv x2_1 (l1_0.length : Int))) (x7_1 ++ [wrap64 ((rd l0 x12_1) + (rd l1_0 (ji9)))]) l0 (l0.length : Int) (wrap64 (x12_1 + 1)) l1_0) else (none)) else (none)) else (none)) = some r := by first | (rw [hji9] at H; exact H) | (simp only [hji9] at H ⊢; exact H)
       by_cases c10 : 0 ≤ (ji9)
       ·rw [if_pos c10] at H
        have c10b0 := decide_eq_true c10
        clear c10
        by_cases c11 : (ji9) < (l1_0.length : Int)
        ·rw [if_pos c11] at H
         have c11b0 := decide_eq_true c11
         clear c11
         by_cases c12 : x7_1.length < 17592186044416
         ·rw [if_pos c12] at H
          have LMc12 := m0 c12
          clear c12
          obtain ⟨y139, hy139⟩ : ∃ y_ : List Int, y_ = (x7_1 ++ [wrap64 ((rd l0 x12_1) + (rd l1_0 (ji9)))]) := ⟨_, rfl⟩
          replace H : (L_noisy.l0 k1 (wrap64 (Int.tdiv x2_1 (l1_0.length : Int))) y139 l0 (l0.length : Int) (wrap64 (x12_1 + 1)) l1_0) = some r := by first | (rw [hy139]; with_reducible exact H) | (have H2_ := (Option.bind_some _ _).symm.trans H; rw [hy139]; with_reducible exact H2_) | (have H2_ := (Option.bind_some _ _).symm.trans H; with_reducible exact H2_) | with_reducible exact H | (rw [hy139]; exact H) | exact H
          have Ny139 := m0 hy139
          clear hy139
          have H' := m0 H
          clear H
          have p137 : 0 ≤ (x12_1 : Int) := od
          have q137 : x12_1 < (l0.length : Int) := od
          obtain ⟨ad137, e137, hx137_0⟩ := Kd.at_int HR0.out x12_1 p137 q137
          cases e137
          replace hx137_0 := (HB.out.cell (World.block_lt_of_cell? w _ hx137_0)).trans hx137_0
          replace p137 := eq_true p137
          replace q137 := eq_true q137
          try go_wp2
          replace HO_7 := m0 (Kd.R_drew HO_7.out); replace BK136 := bd BK136; replace HB := sd HB
          have p138 : 0 ≤ ((ji9) : Int) := od
          have q138 : (ji9) < (l1_0.length : Int) := od
          obtain ⟨ad138, e138, hx138_0⟩ := Kd.at_int HR1_0.out (ji9) p138 q138
          have hw138_0 := hx138_0
          cases e138
          replace hx138_0 := (HB.out.cell (World.block_lt_of_cell? w _ hx138_0)).trans hx138_0
          replace p138 := eq_true p138
          replace q138 := eq_true q138
          refine start_ (n := 15) (S := fun w' => w'.cell? ⟨gb136, 0, none⟩ = some (.slice (some ad138) l1_0.length c1_0) ∧ w'.cell? (ad138.add ((ji9)).toNat) = some (.int .i64 (rd l1_0 (ji9)))) (ds := []) #[false, false, false, false, false, false, false, false, false, false, false, false, false, false, false] (by kernel_rfl) rfl rfl ⟨(blk_cell BK136.out 0).trans rfl, ((HB.out.cell (World.block_lt_of_cell? w _ hw138_0)).trans hw138_0)⟩ (fun hH => ?_); refine with_tabW L_noisy.tab5 L_noisy.bits5 (fun HT_ HW_ => ?_)
          generalize wr.drew = w13 at HO_7 BK136 HB hx138_0 hH ⊢
          refine pZ 0 (some 16) (bs 15 1) HT_ ?_
          refine pZ 1 (some 17) (bs 15 3) HT_ ?_
          refine pZ 2 (some 18) (bs 15 7) HT_ ?_
          refine pZ 4 (some 20) (bs 15 23) HT_ ?_
          refine pZ 5 (some 21) (bs 15 55) HT_ ?_
          refine takeZ 3 (some 19) (bs 15 63) (take_ofW HT_.out HW_.out (by kernel_rfl)) hH ?_
          refine takeZ 6 (some 22) (bs 15 127) (take_ofW HT_.out HW_.out (by kernel_rfl)) hH ?_
          refine pZ 7 (some 23) (bs 15 255) HT_ ?_
          refine pZ 8 (some 24) (bs 15 511) HT_ ?_
          refine pZ 9 (some 25) (bs 15 1023) HT_ ?_
          refine takeZ 10 (some 26) (bs 15 2047) (take_ofW HT_.out HW_.out (by kernel_rfl)) hH ?_
          refine pZ 11 (some 27) (bs 15 4095) HT_ ?_
          refine oneZ 12 (some 28) (bs 15 8191) (one_of HT_.out (by kernel_rfl)) fun K hK => ?_
          refine value_ (w1 := ?_) (v := ?_) (by rfl) rfl ?_ ?_
          rotate_left 2
          ·go_simp
           constructor
           ·rfl
           ·rfl
          refine hK.out _ _ ⟨(blk_cell (blk_alloc BK136.out _) 0).trans rfl, (World.cell?_alloc_lt _ _ _ (World.block_lt_of_cell? _ _ (((HB.out.cell (World.block_lt_of_cell? w _ hw138_0)).trans hw138_0)))).trans (((HB.out.cell (World.block_lt_of_cell? w _ hw138_0)).trans hw138_0))⟩ (fun hH => ?_)
          clear hK K
          refine norm_ (a' := ?_) ?_ ?_
          rotate_left
          ·show Act.put _ (some 28) _ = _
           exact pz
          refine oneZ 13 (some 29) (bs 15 16383) (one_of HT_.out (by kernel_rfl)) fun K hK => ?_
          refine Kd.R_append_step (Kd.int .i64) (w0 := w) w.heap.size (by rfl) (.tmp 16) (.tmp 28) 120 3 (.int .i64 0) 8 rfl Tryd.underlying120 info3 rfl (by decide) (by omega) u7 x7_1 (wrap64 ((rd l0 x12_1) + (rd l1_0 (ji9)))) [.int .i64 (wrap64 ((rd l0 x12_1) + (rd l1_0 (ji9))))] (fun _ => True) (fun _ => False) rfl rfl ?aP (fun _ hk => hk.elim) ?aF ?aO ?aB ?aS ?aL ?_
          (case aP => exact rfl)
          (case aB => exact bz)
          (case aF => exact (fun _ _ => trivial))
          (case aO => exact (br HO_7.out))
          (case aS => exact (below_size bz))
          (case aL => have := LMc12.out; omega)
          intro v140 w14 ho hb hg hat
          rw [← Ny139.out] at ho
          have n0_ := m0 (blk_grown (g := gb136) (o := .cells #[.slice (some ad138) l1_0.length c1_0] 24 (0, 0)) (bk BK136.out) hg (Kd.R_ne HO_7.out BK136.out (by decide))); have n1_ := m0 (hb); have n2_ := m0 (ho); clear BK136; clear HB; clear HO_7; have BK136 := n0_; have HB := n1_; have HO141 := n2_; clear n0_ n1_ n2_
          clear ho hb hg hat
          refine hK.out _ _ ⟨(blk_cell BK136.out 0).trans rfl, ((HB.out.cell (World.block_lt_of_cell? w _ hw138_0)).trans hw138_0)⟩ (fun hH => ?_)
          clear hK K
          refine norm_ (a' := ?_) ?_ ?_
          rotate_left
          ·show Act.put _ (some 29) _ = _
           exact pz
          refine pZ 14 (some 7) (bs 15 32767) HT_ ?_
          refine done_ (done_of HT_.out (by kernel_rfl)) ?_
          obtain ⟨_, _⟩ := b1 BK136
          try go_wp2
          go_roundg k1
          case measure => have := HK1.out; omega
          case rel => exact ⟨(wrap64 (Int.tdiv x2_1 (l1_0.length : Int))), (y139), (wrap64 (x12_1 + 1)), (by first | rfl | (simp; done) | (simp [*]; done)), (by first | rfl | (simp; done) | (simp [*]; done)), H', ⟨by have := HK1.out; omega⟩, ⟨br HO141.out⟩, ⟨bk BK136.out⟩, ⟨bz⟩⟩
         ·rw [if_neg c12] at H
          exact absurd H (by simp)
        ·rw [if_neg c11] at H
         exact absurd H (by simp)
       ·rw [if_neg c10] at H
        exact absurd H (by simp)
     ·rw [if_neg c7] at H
      exact absurd H (by simp)
    ·rw [if_neg c6] at H
     exact absurd H (by simp)
   ·rw [if_neg c5] at H
    have c5b0 := decide_eq_false c5
    clear c5
    obtain rfl := Option.some.inj H
    go_wp2
    go_ret
    exact ⟨_, by first | rfl | (simp [errW_none, errW_some] <;> rfl) | (simp [*, errW_none, errW_some] <;> rfl), by (with_reducible repeat (first | apply Kd.R_alloc | apply Kd.R_drewN | apply Kd.R_drew)); exact HO_7.out, by repeat (first | (with_reducible first | exact HB.out | apply below_alloc | apply pw_below_drewN | apply below_drew1 | refine below_set ?_ GE136.out) | exact HB.out)⟩
end Go.Proofs.YtjnkphmcndaijaaDoor.A
