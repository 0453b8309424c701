/- Walks of the program's functions (printed, made shorter), each with what it computes. -/
import Derived.Shelf.RegionOpen
import Derived.Test.YtjnkphmcndaijaaDoorKep04
import Derived.Test.YtjnkphmcndaijaaDoorKep06
import Derived.Test.YtjnkphmcndaijaaDoorKep09
import Derived.Test.YtjnkphmcndaijaaDoorKep05
import Derived.Test.YtjnkphmcndaijaaDoorKep03
import Derived.Test.YtjnkphmcndaijaaDoorKep07
import Derived.Shelf.Abstract
namespace Go.Proofs.YtjnkphmcndaijaaDoor.A
set_option maxHeartbeats 8000000
set_option maxRecDepth 100000
open Go.RowKit Go.Proofs.YtjnkphmcndaijaaDoorW.PrintWords Go.Proofs.YtjnkphmcndaijaaDoorW.PrintLast Go.Proofs.YtjnkphmcndaijaaDoorW.PrintMore
attribute [local go_sem] max2_int min2_int max_two min_two max_three min_three max_four min_four
set_option linter.unusedVariables false
set_option linter.unusedSimpArgs false
section
def line_worst.step (k : Nat) (ls lv : List Int) (tn td kind : Int) (j : Nat) (s : Int × Int × Int) : Option (Int × Int × Int) :=
 (line_noisy.f k ls lv j).bind fun row => (line_miss.f k row kind tn td).bind fun m => (line_less.f s.1 s.2.1 m.1 m.2).bind fun b => some (if b = true then (m.1, m.2, (j : Int)) else s)
def line_worst.f (k : Nat) (l0_0 l0_1 : List Int) (a0_2 a0_3 a1 : Int) : Option (Int × Int × Int) :=
 (line_cases.f k l0_1 l0_0.length).bind fun c => if 0 ≤ c.1 then if c.1 ≤ 1000000 then iterN (line_worst.step k l0_0 l0_1 a0_2 a0_3 a1) c.1.toNat (-1, 1, 0) else none else none
theorem line_worst.mono : ∀ a0 a1 a2 a3 a4 k, LeO (line_worst.f k a0 a1 a2 a3 a4) (line_worst.f (k + 1) a0 a1 a2 a3 a4) := by
 intro a0 a1 a2 a3 a4 k
 unfold line_worst.f
 refine LeO.bind (line_cases.mono _ _ _) (fun c => ?_)
 refine LeO.ite (LeO.ite (iterN_mono (fun j s => ?_) _ _) (LeO.none _)) (LeO.none _)
 unfold line_worst.step
 exact LeO.bind (line_noisy.mono _ _ _ _) (fun row => LeO.bind (line_miss.mono _ _ _ _ _) (fun m => LeO.refl _))
attribute [local go_sem] Oper.semAt_some
theorem line_worst.calls (k : Nat) (A0_0 : Option Addr) (c0_0 : Nat) (l0_0 : List Int) (A0_1 : Option Addr) (c0_1 : Nat) (l0_1 : List Int) (a0_2 a0_3 a1 : Int) (r1 r2 r3 : Int) (w : World) (hr0_0 : Kd.C (Kd.int .i64) w A0_0 l0_0.length l0_0) (hc0_0 : l0_0.length ≤ c0_0) (hr0_1 : Kd.C (Kd.int .i64) w A0_1 l0_1.length l0_1) (hc0_1 : l0_1.length ≤ c0_1) (hG : EstG w) (h : line_worst.f k l0_0 l0_1 a0_2 a0_3 a1 = some (r1, r2, r3)) :
  Calls Tryd.prog 97 #[.agg #[.slice A0_0 l0_0.length c0_0, .slice A0_1 l0_1.length c0_1, .int .i64 a0_2, .int .i64 a0_3], .int .i64 a1] w fun e w' => e = .returned (.agg #[.int .i64 r1, .int .i64 r2, .int .i64 r3]) ∧ Below w.heap.size w w' := by
 unfold line_worst.f at h
 obtain ⟨⟨all, few⟩, hall, h⟩ := Option.bind_eq_some_iff.mp h
 by_cases h0 : 0 ≤ all
 case neg => rw [if_neg h0] at h; exact absurd h (by simp)
 rw [if_pos h0] at h
 by_cases hbig : all ≤ 1000000
 case neg => rw [if_neg hbig] at h; exact absurd h (by simp)
 rw [if_pos hbig] at h
 have hit : iterN (line_worst.step k l0_0 l0_1 a0_2 a0_3 a1) all.toNat (-1, 1, 0) = some (r1, r2, r3) := h
 clear h
 have hu26 := Tryd.underlying26
 have hu28 := Tryd.underlying28
 have hu36 := Tryd.underlying36
 refine (callsIn_wide (n := 9)).1 ?_
 refine callsIn_of_wp_marks Tryd.func97 rfl trivial ?_ rfl
 simp only [Tryd.ntmps97, List.size_toArray, List.length_cons, List.length_nil, Nat.reduceAdd, Nat.reduceSub, Array.replicate_succ, Array.replicate_zero, List.push_toArray, List.append_toArray, List.nil_append, List.cons_append]
 gi_wp2_with (first | (refine ⟨trivial, ?_⟩; gi_at_call 94; refine (callsIn_wide.2 (line_each.calls_own _ _ _ _ _ _ _)).mono ?_; rintro e w' ⟨rfl, rfl⟩))
 obtain ⟨W0, hW0⟩ : ∃ W0, ((((((w.alloc (.cells #[.slice A0_0 l0_0.length c0_0, .slice A0_1 l0_1.length c0_1, .int .i64 a0_2, .int .i64 a0_3] 28)).alloc (.cells #[.int .i64 a1] 3)).alloc (.cells #[.int .i64 0, .int .i64 0, .int .i64 0] 36)).alloc (.cells #[.int .i64 (-1), .int .i64 1, .int .i64 0] 36)).alloc (.cells #[.slice A0_0 l0_0.length c0_0] 22)).alloc (.cells #[.slice A0_1 l0_1.length c0_1] 24)) = W0 := ⟨_, rfl⟩
 have hz : W0.heap.size = w.heap.size + 6 := by rw [← hW0]; simp
 have hb0 : Below w.heap.size w W0 := by rw [← hW0]; repeat (first | exact Below.refl _ _ | apply below_alloc)
 have k0 : W0.heap[w.heap.size]? = some (.cells #[.slice A0_0 l0_0.length c0_0, .slice A0_1 l0_1.length c0_1, .int .i64 a0_2, .int .i64 a0_3] 28 (0, 0)) := by
  rw [← hW0]; iterate 5 apply blk_alloc
  have := blk_new w (.cells #[.slice A0_0 l0_0.length c0_0, .slice A0_1 l0_1.length c0_1, .int .i64 a0_2, .int .i64 a0_3] 28 (0, 0)); simpa using this
 have k1 : W0.heap[w.heap.size + 1]? = some (.cells #[.int .i64 a1] 3 (0, 0)) := by
  rw [← hW0]; iterate 4 apply blk_alloc
  have := blk_new (w.alloc (.cells #[.slice A0_0 l0_0.length c0_0, .slice A0_1 l0_1.length c0_1, .int .i64 a0_2, .int .i64 a0_3] 28)) (.cells #[.int .i64 a1] 3 (0, 0)); simpa using this
 have k2 : W0.heap[w.heap.size + 1 + 1]? = some (.cells #[.int .i64 0, .int .i64 0, .int .i64 0] 36 (0, 0)) := by
  rw [← hW0]; iterate 3 apply blk_alloc
  have := blk_new ((w.alloc (.cells #[.slice A0_0 l0_0.length c0_0, .slice A0_1 l0_1.length c0_1, .int .i64 a0_2, .int .i64 a0_3] 28)).alloc (.cells #[.int .i64 a1] 3)) (.cells #[.int .i64 0, .int .i64 0, .int .i64 0] 36 (0, 0)); simpa using this
 have k3 : W0.heap[w.heap.size + 1 + 1 + 1]? = some (.cells #[.int .i64 (-1), .int .i64 1, .int .i64 0] 36 (0, 0)) := by
  rw [← hW0]; iterate 2 apply blk_alloc
  have := blk_new (((w.alloc (.cells #[.slice A0_0 l0_0.length c0_0, .slice A0_1 l0_1.length c0_1, .int .i64 a0_2, .int .i64 a0_3] 28)).alloc (.cells #[.int .i64 a1] 3)).alloc (.cells #[.int .i64 0, .int .i64 0, .int .i64 0] 36)) (.cells #[.int .i64 (-1), .int .i64 1, .int .i64 0] 36 (0, 0)); simpa using this
 have k4 : W0.heap[w.heap.size + 1 + 1 + 1 + 1]? = some (.cells #[.slice A0_0 l0_0.length c0_0] 22 (0, 0)) := by
  rw [← hW0]; iterate 1 apply blk_alloc
  have := blk_new ((((w.alloc (.cells #[.slice A0_0 l0_0.length c0_0, .slice A0_1 l0_1.length c0_1, .int .i64 a0_2, .int .i64 a0_3] 28)).alloc (.cells #[.int .i64 a1] 3)).alloc (.cells #[.int .i64 0, .int .i64 0, .int .i64 0] 36)).alloc (.cells #[.int .i64 (-1), .int .i64 1, .int .i64 0] 36)) (.cells #[.slice A0_0 l0_0.length c0_0] 22 (0, 0)); simpa using this
 have k5 : W0.heap[w.heap.size + 1 + 1 + 1 + 1 + 1]? = some (.cells #[.slice A0_1 l0_1.length c0_1] 24 (0, 0)) := by
  rw [← hW0]; iterate 0 apply blk_alloc
  have := blk_new (((((w.alloc (.cells #[.slice A0_0 l0_0.length c0_0, .slice A0_1 l0_1.length c0_1, .int .i64 a0_2, .int .i64 a0_3] 28)).alloc (.cells #[.int .i64 a1] 3)).alloc (.cells #[.int .i64 0, .int .i64 0, .int .i64 0] 36)).alloc (.cells #[.int .i64 (-1), .int .i64 1, .int .i64 0] 36)).alloc (.cells #[.slice A0_0 l0_0.length c0_0] 22)) (.cells #[.slice A0_1 l0_1.length c0_1] 24 (0, 0)); simpa using this
 rw [hW0]
 clear hW0
 have hstep := fun (j : Nat) (hj : (j : Int) < all) => iterN_pre hit (show j ≤ all.toNat by omega)
 have hrow : ∀ j : Nat, (j : Int) < all → line_noisy.f k l0_0 l0_1 j = some ((line_noisy.f k l0_0 l0_1 j).getD []) := fun j hj => by
  obtain ⟨q, hq⟩ := hstep j hj
  obtain ⟨q', hq', _⟩ := iterN_at hit (show j < all.toNat by omega) hq
  obtain ⟨row, hr, _⟩ := Option.bind_eq_some_iff.mp hq'
  rw [hr]; rfl
 have hY := line_each.yields 8 k (by decide) A0_0 A0_1 c0_0 c0_1 l0_0 l0_1 all few (fun j => (line_noisy.f k l0_0 l0_1 j).getD []) w (w.heap.size + 1 + 1 + 1 + 1 + 1) (w.heap.size + 1 + 1 + 1 + 1) W0 hb0 ((blk_cell k5 0).trans rfl) ((blk_cell k4 0).trans rfl) hr0_0 hc0_0 hr0_1 hc0_1 hall h0 hbig hrow
 have HIT := m0 hit
 have HY := m0 hY
 have HG := m0 hG
 clear hit hstep hrow hY hG
 refine wpIn_rangeN rfl (by decide) (gf := 131) (lb := #[.pointer (some ⟨w.heap.size + 1 + 1 + 1 + 1 + 1, 0, none⟩), .pointer (some ⟨w.heap.size + 1 + 1 + 1 + 1, 0, none⟩)]) rfl trivial (enters_of Tryd.func131 (by kernel_rfl) rfl) HY.out
  (line_each.Rd_putObj) (fun h k => h.trans k) (fun W l o o' hl h hc hw => line_each.Kp_putObj (w := W0) (v1 := undef) (v2 := undef) (by omega) W l o o' hl h hc hw (by omega) (by omega)) (Below.refl _ _) (fun _ _ => rfl)
  (fun j W => (∃ s : Int × Int × Int, iterN (line_worst.step k l0_0 l0_1 a0_2 a0_3 a1) j (-1, 1, 0) = some s ∧ W.heap[w.heap.size + 1 + 1 + 1]? = some (.cells #[.int .i64 s.1, .int .i64 s.2.1, .int .i64 s.2.2] 36 (0, 0)) ∧ W.heap[w.heap.size]? = some (.cells #[.slice A0_0 l0_0.length c0_0, .slice A0_1 l0_1.length c0_1, .int .i64 a0_2, .int .i64 a0_3] 28 (0, 0)) ∧ W.heap[w.heap.size + 1]? = some (.cells #[.int .i64 a1] 3 (0, 0)) ∧ W.heap[w.heap.size + 1 + 1]? = some (.cells #[.int .i64 0, .int .i64 0, .int .i64 0] 36 (0, 0)) ∧ W0.heap.size ≤ W.heap.size) ∧ Below w.heap.size w W)
  (fun _ _ _ => False)
  (OwnFrom.and (fun j A B row hs hg hr => by
   obtain ⟨s, h1, h2, h3, h4, h5, h6⟩ := hs
   exact ⟨s, h1, blk_own h2 hg hr, blk_own h3 hg hr, blk_own h4 hg hr, blk_own h5 hg hr, Nat.le_trans h6 hg.size⟩) (ownFrom_below (Nat.le_refl _) (by omega)))
  (fun _ _ _ _ _ hs _ _ => hs)
  ⟨⟨(-1, 1, 0), rfl, k3, k0, k1, k2, Nat.le_refl _⟩, hb0⟩
  (fun j x => { tmps := #[.agg #[.slice A0_0 l0_0.length c0_0, .slice A0_1 l0_1.length c0_1, .int .i64 a0_2, .int .i64 a0_3], .int .i64 a1, .pointer (some ⟨w.heap.size, 0, none⟩), .pointer (some ⟨w.heap.size + 1, 0, none⟩), .pointer (some ⟨w.heap.size + 1 + 1, 0, none⟩), .pointer (some ⟨w.heap.size + 1 + 1 + 1, 0, none⟩), .int .i64 (j : Int), x, undef, .agg #[.int .i64 (-1), .int .i64 1], .agg #[.int .i64 (-1), .int .i64 1, .int .i64 0], .pointer (some ⟨w.heap.size, 0, none⟩), .slice A0_0 l0_0.length c0_0, .pointer (some ⟨w.heap.size, 1, none⟩), .agg #[.slice A0_1 l0_1.length c0_1], .func (.func 131) #[] #[.pointer (some ⟨w.heap.size + 1 + 1 + 1 + 1 + 1, 0, none⟩), .pointer (some ⟨w.heap.size + 1 + 1 + 1 + 1, 0, none⟩)], .int .i64 (j : Int), x, undef, undef, undef, undef, undef, undef, undef, undef, undef, undef, undef, undef, undef], defers := [] }) ?assign ?body ?done ?stop
 case assign =>
  intro l j x W K hK
  gi_wp2
  exact hK
 case stop =>
  rintro D c j W _ _ h _
  exact h.elim
 case body =>
  rintro l j x W ⟨⟨⟨s1, s2, s3⟩, hs, h3, hp0, h1, h2, h6⟩, hB⟩ ⟨A, c, hx, hc, hC, hm⟩ hj
  obtain ⟨q', hq', hq1⟩ := iterN_at HIT.out hj hs
  obtain ⟨row, hr, hq'⟩ := Option.bind_eq_some_iff.mp hq'
  obtain ⟨⟨m1, m2⟩, hmx, hq'⟩ := Option.bind_eq_some_iff.mp hq'
  obtain ⟨b, hls, hq'⟩ := Option.bind_eq_some_iff.mp hq'
  have er : (line_noisy.f k l0_0 l0_1 (j : Int)).getD [] = row := by rw [hr]; rfl
  simp only [er] at hx hc hC
  subst hx
  obtain rfl := Option.some.inj hq'
  replace hls : line_less.f s1 s2 m1 m2 = some b := hls
  have H3 := m0 h3
  have H0 := m0 hp0
  have H1 := m0 h1
  have H2 := m0 h2
  have HBB := m0 hB
  have H6 := m0 h6
  have HC := m0 hC
  have HCC := m0 hc
  have HM := m0 hm
  have HMX := m0 hmx
  have HLS := m0 hls
  have HQ1 := m0 hq1
  have HZ := m0 hz
  have HEST := m0 (EstG.below HG.out hB)
  have c1 : W.cell? ⟨w.heap.size + 1, 0, none⟩ = some (.int .i64 a1) := (blk_cell h1 0).trans rfl
  have c2 : W.cell? ⟨w.heap.size, 2, none⟩ = some (.int .i64 a0_2) := (blk_cell hp0 2).trans rfl
  have c3 : W.cell? ⟨w.heap.size, 3, none⟩ = some (.int .i64 a0_3) := (blk_cell hp0 3).trans rfl
  clear h1 h2 h3 hp0 hB h6 hC hc hm hmx hls hq1 hq' hs hr er hz k0 k1 k2 k3 k4 k5 hb0 hall HIT HY hr0_0 hr0_1 hc0_0 hc0_1 hj HG
  generalize hLEFT : leftN _ _ _ _ _ = LEFT
  have base : ∀ w7 : World, Below W.heap.size W w7 → w7.heap[w.heap.size]? = some (.cells #[.slice A0_0 l0_0.length c0_0, .slice A0_1 l0_1.length c0_1, .int .i64 a0_2, .int .i64 a0_3] 28 (0, 0)) ∧ w7.heap[w.heap.size + 1]? = some (.cells #[.int .i64 a1] 3 (0, 0)) ∧ w7.heap[w.heap.size + 1 + 1]? = some (.cells #[.int .i64 0, .int .i64 0, .int .i64 0] 36 (0, 0)) ∧ w7.heap[w.heap.size + 1 + 1 + 1]? = some (.cells #[.int .i64 s1, .int .i64 s2, .int .i64 s3] 36 (0, 0)) ∧ Below w.heap.size w w7 ∧ KeepsOthers W w7 ∧ line_each.Kp w.heap.size (w.heap.size + 1 + 1 + 1 + 1 + 1) (w.heap.size + 1 + 1 + 1 + 1) W w7 ∧ W0.heap.size ≤ w7.heap.size := fun w7 hb => by
   have ha := HZ.out
   have hb6 := H6.out
   have hsz := hb.size
   exact ⟨blk_below H0.out hb, blk_below H1.out hb, blk_below H2.out hb, blk_below H3.out hb, HBB.out.trans (hb.mono (by omega)), others_below hb, ⟨hb.mono (by omega), World.cell?_of_block (hb.block _ (by show w.heap.size + 1 + 1 + 1 + 1 + 1 < _; omega)), World.cell?_of_block (hb.block _ (by show w.heap.size + 1 + 1 + 1 + 1 < _; omega))⟩, by omega⟩
  have hyes : ∀ (w7 : World) (a : Act), Below W.heap.size W w7 → b = true → LEFT Exit.normal a (((w7.setCell ⟨w.heap.size + 1 + 1 + 1, 0, none⟩ (.int .i64 m1)).setCell ⟨w.heap.size + 1 + 1 + 1, 1, none⟩ (.int .i64 m2)).setCell ⟨w.heap.size + 1 + 1 + 1, 2, none⟩ (.int .i64 (j : Int))) := by
   intro w7 a hb ht
   obtain ⟨p0, p1, p2, p3, pB, pK, pKp, pz⟩ := base w7 hb
   rw [← hLEFT]
   refine ⟨((pK.trans (KeepsOthers.setCell _ _ _)).trans (KeepsOthers.setCell _ _ _)).trans (KeepsOthers.setCell _ _ _), ((pKp.setCell (by omega) (by omega) (by omega)).setCell (by omega) (by omega) (by omega)).setCell (by omega) (by omega) (by omega), ⟨_, HQ1.out, ?_, blk_ne_set (blk_ne_set (blk_ne_set p0 (by omega)) (by omega)) (by omega), blk_ne_set (blk_ne_set (blk_ne_set p1 (by omega)) (by omega)) (by omega), blk_ne_set (blk_ne_set (blk_ne_set p2 (by omega)) (by omega)) (by omega), ?_⟩, ((pB.setCell (p := ⟨w.heap.size + 1 + 1 + 1, 0, none⟩) (by show w.heap.size ≤ w.heap.size + 1 + 1 + 1; omega) _).setCell (p := ⟨w.heap.size + 1 + 1 + 1, 1, none⟩) (by show w.heap.size ≤ w.heap.size + 1 + 1 + 1; omega) _).setCell (p := ⟨w.heap.size + 1 + 1 + 1, 2, none⟩) (by show w.heap.size ≤ w.heap.size + 1 + 1 + 1; omega) _⟩
   ·rw [if_pos ht]; exact blk_put (blk_put (blk_put p3 0 _ rfl) 1 _ rfl) 2 _ rfl
   ·simpa [World.setCell] using pz
  have hno : ∀ (w7 : World) (a : Act), Below W.heap.size W w7 → b = false → LEFT Exit.normal a w7 := by
   intro w7 a hb ht
   obtain ⟨p0, p1, p2, p3, pB, pK, pKp, pz⟩ := base w7 hb
   rw [← hLEFT]
   refine ⟨pK, pKp, ⟨_, HQ1.out, ?_, p0, p1, p2, pz⟩, pB⟩
   rw [if_neg (by rw [ht]; decide)]; exact p3
  have HYES := m0 hyes
  have HNO := m0 hno
  clear hyes hno base hLEFT
  cases b
  all_goals
   gi_wp2_with (first | (refine ⟨trivial, ?_⟩; gi_at_call 128; refine (CallsIn.inRound l (callsIn_wide.2 (line_miss.calls k A c row a1 a0_2 a0_3 m1 m2 W HC.out HCC.out HEST.out HMX.out))).mono ?_; rintro e w5 ⟨rfl, hb5⟩; have g3 := blk_below H3.out hb5; have d0 : w5.cell? ⟨w.heap.size + 1 + 1 + 1, 0, none⟩ = some (.int .i64 s1) := (blk_cell g3 0).trans rfl; have d1 : w5.cell? ⟨w.heap.size + 1 + 1 + 1, 1, none⟩ = some (.int .i64 s2) := (blk_cell g3 1).trans rfl; have lt3 := blk_lt g3; have HB5 := m0 hb5; clear hb5 g3) | (refine ⟨trivial, ?_⟩; gi_at_call 126; refine (CallsIn.inRound l (callsIn_wide.2 (line_less.calls s1 s2 m1 m2 _ _ HLS.out))).mono ?_; rintro e w7 ⟨rfl, hb7⟩; have HB7 := m0 (below_then (below_alloc HB5.out _) (Nat.le_trans HB5.out.size (by simp)) hb7); have g8 := blk_below (blk_new w5 (.cells #[.int .i64 m1, .int .i64 m2] 26 (0, 0))) hb7; have e0 : w7.cell? ⟨w5.heap.size, 0, none⟩ = some (.int .i64 m1) := (blk_cell g8 0).trans rfl; have e1 : w7.cell? ⟨w5.heap.size, 1, none⟩ = some (.int .i64 m2) := (blk_cell g8 1).trans rfl; have g3 := blk_below H3.out HB7.out; have d20 : w7.cell? ⟨w.heap.size + 1 + 1 + 1, 0, none⟩ = some (.int .i64 s1) := (blk_cell g3 0).trans rfl; have d21 : w7.cell? ⟨w.heap.size + 1 + 1 + 1, 1, none⟩ = some (.int .i64 s2) := (blk_cell g3 1).trans rfl; have d22 : w7.cell? ⟨w.heap.size + 1 + 1 + 1, 2, none⟩ = some (.int .i64 s3) := (blk_cell g3 2).trans rfl; have f0 := blk_frozen g3 0; have f1 := blk_frozen g3 1; have f2 := blk_frozen g3 2; clear hb7 g8 g3))
   first | exact HYES.out _ _ HB7.out (by simp) | exact HNO.out _ _ HB7.out (by simp)
 case done =>
  rintro D W hD ⟨⟨s, hs, h3, hp0, h1, h2, h6⟩, hB⟩ hK
  rw [HIT.out] at hs
  cases hs
  have hZ := hz
  have c0 : W.cell? ⟨w.heap.size + 1 + 1 + 1, 0, none⟩ = some (.int .i64 r1) := (blk_cell h3 0).trans rfl
  have c1 : W.cell? ⟨w.heap.size + 1 + 1 + 1, 1, none⟩ = some (.int .i64 r2) := (blk_cell h3 1).trans rfl
  have c2 : W.cell? ⟨w.heap.size + 1 + 1 + 1, 2, none⟩ = some (.int .i64 r3) := (blk_cell h3 2).trans rfl
  have z0 : W.cell? ⟨w.heap.size + 1 + 1, 0, none⟩ = some (.int .i64 0) := (blk_cell h2 0).trans rfl
  have z1 : W.cell? ⟨w.heap.size + 1 + 1, 1, none⟩ = some (.int .i64 0) := (blk_cell h2 1).trans rfl
  have z2 : W.cell? ⟨w.heap.size + 1 + 1, 2, none⟩ = some (.int .i64 0) := (blk_cell h2 2).trans rfl
  have f0 := blk_frozen h2 0
  have f1 := blk_frozen h2 1
  have f2 := blk_frozen h2 2
  have H2 := m0 h2
  have HBB := m0 hB
  have HZ := m0 hz
  have HK := m0 hK
  have HD := m0 hD
  clear h1 h2 h3 hp0 hB h6 hz hZ k0 k1 k2 k3 k4 k5 hb0 hall HIT HY hr0_0 hr0_1 hc0_0 hc0_1 hK hD HG
  gi_wp2
  have hZ := HZ.out
  have hD := HD.out
  have hK6 : (((W.setCell ⟨w.heap.size + 1 + 1, 0, none⟩ (.int .i64 r1)).setCell ⟨w.heap.size + 1 + 1, 1, none⟩ (.int .i64 r2)).setCell ⟨w.heap.size + 1 + 1, 2, none⟩ (.int .i64 r3)).heap[D]? = some (.deferred (some [])) := blk_ne_set (blk_ne_set (blk_ne_set HK.out (by omega)) (by omega)) (by omega)
  refine ⟨by simp, .inl ⟨_, _, rfl, run_takeDeferred hK6, ?_⟩⟩
  have b1 : Below w.heap.size w (((W.setCell ⟨w.heap.size + 1 + 1, 0, none⟩ (.int .i64 r1)).setCell ⟨w.heap.size + 1 + 1, 1, none⟩ (.int .i64 r2)).setCell ⟨w.heap.size + 1 + 1, 2, none⟩ (.int .i64 r3)) :=
   ((HBB.out.setCell (p := ⟨w.heap.size + 1 + 1, 0, none⟩) (by show w.heap.size ≤ w.heap.size + 1 + 1; omega) _).setCell (p := ⟨w.heap.size + 1 + 1, 1, none⟩) (by show w.heap.size ≤ w.heap.size + 1 + 1; omega) _).setCell (p := ⟨w.heap.size + 1 + 1, 2, none⟩) (by show w.heap.size ≤ w.heap.size + 1 + 1; omega) _
  exact ⟨.agg #[.int .i64 r1, .int .i64 r2, .int .i64 r3], results_cell_row rfl _ _ (w.heap.size + 1 + 1) 36 #[.int .i64 r1, .int .i64 r2, .int .i64 r3] (0, 0) _ rfl ((World.putObj_heap_other (by omega)).trans (blk_put (blk_put (blk_put H2.out 0 _ rfl) 1 _ rfl) 2 _ rfl)) Tryd.underlying36 rfl (by kernel_rfl), rfl, b1.trans (belowK_b (w := w) (Nat.le_refl _) _ D _ _ (by omega) hK6 rfl rfl)⟩
end
section
def line_WorstOf.f (k : Nat) (l0_0 : List Int) (l0_1 : List Int) (a0_2 : Int) (a0_3 : Int) (a1 : Int) : Option (Int × Int × Int × Int) := (line_CheckCase.f k l0_0 l0_1 a0_2 a0_3).bind fun t215 => ((line_kindErr.f a1).bind fun t216 => ((line_first.f k (([t215, t216] : List Int))).bind fun t220 => (if t220 = 0 then ((line_worst.f k l0_0 l0_1 a0_2 a0_3 a1).bind fun bt221 => (some (bt221.1, bt221.2.1, bt221.2.2, 0))) else (some (0, 0, 0, t220)))))
theorem line_WorstOf.mono : ∀ a0 a1 a2 a3 a4 k, LeO (line_WorstOf.f k a0 a1 a2 a3 a4) (line_WorstOf.f (k + 1) a0 a1 a2 a3 a4) := by
 intro a0 a1 a2 a3 a4 k
 unfold line_WorstOf.f
 repeat' first
   | (with_reducible exact line_CheckCase.mono _ _ _ _ _)
   | (with_reducible exact line_first.mono _ _)
   | (with_reducible exact line_worst.mono _ _ _ _ _ _)
   | (with_reducible exact LeO.refl _)
   | (with_reducible exact LeO.none _)
   | (with_reducible refine LeO.ite ?_ ?_)
   | (with_reducible refine LeO.bind ?_ (fun _ => ?_))
   | exact line_CheckCase.mono _ _ _ _ _
   | exact line_first.mono _ _
   | exact line_worst.mono _ _ _ _ _ _
   | exact LeO.none _
   | refine LeO.ite ?_ ?_
   | refine LeO.bind ?_ (fun _ => ?_)
theorem line_WorstOf.calls (k : Nat) (A0_0 : Option Addr) (c0_0 : Nat) (l0_0 : List Int) (A0_1 : Option Addr) (c0_1 : Nat) (l0_1 : List Int) (a0_2 : Int) (a0_3 : Int) (a1 : Int) (r1 : Int) (r2 : Int) (r3 : Int) (r4 : Int) (w : World) (hr0_0 : Kd.C (Kd.int .i64) w A0_0 l0_0.length l0_0) (hc0_0 : l0_0.length ≤ c0_0) (hr0_1 : Kd.C (Kd.int .i64) w A0_1 l0_1.length l0_1) (hc0_1 : l0_1.length ≤ c0_1) (hG : EstG w) (h : line_WorstOf.f k l0_0 l0_1 a0_2 a0_3 a1 = some (r1, r2, r3, r4)) :
  Calls Tryd.prog 22 #[.agg #[.slice A0_0 l0_0.length c0_0, .slice A0_1 l0_1.length c0_1, .int .i64 a0_2, .int .i64 a0_3], .int .i64 a1] w fun e w' => e = .returned (.tuple #[.agg #[.int .i64 r1, .int .i64 r2, .int .i64 r3], .int .i64 r4]) ∧ Below w.heap.size w w' := by
 have hu28 := Tryd.underlying28
 have hu36 := Tryd.underlying36
 have HG := m0 hG
 clear hG
 have HR0_0 := m0 hr0_0
 have HC0_0 := m0 hc0_0
 clear hr0_0 hc0_0
 have HR0_1 := m0 hr0_1
 have HC0_1 := m0 hc0_1
 clear hr0_1 hc0_1
 have HB := m0 (Below.refl w.heap.size w)
 have H : ((line_CheckCase.f k l0_0 l0_1 a0_2 a0_3).bind fun t215 => ((line_kindErr.f a1).bind fun t216 => ((line_first.f k (([t215, t216] : List Int))).bind fun t220 => (if t220 = 0 then ((line_worst.f k l0_0 l0_1 a0_2 a0_3 a1).bind fun bt221 => (some (bt221.1, bt221.2.1, bt221.2.2, 0))) else (some (0, 0, 0, t220)))))) = some (r1, r2, r3, r4) := h
 clear h
 replace H := ob H
 obtain ⟨t215, A30, H⟩ := H
 (try dsimp only at H)
 have A3 := m0 A30
 clear A30
 replace H := ob H
 obtain ⟨t216, A40, H⟩ := H
 (try dsimp only at H)
 have A4 := m0 A40
 clear A40
 obtain ⟨y217, hy217⟩ : ∃ y_ : List Int, y_ = (([t215, t216] : List Int)) := ⟨_, rfl⟩
 replace H : ((line_first.f k y217).bind fun t220 => (if t220 = 0 then ((line_worst.f k l0_0 l0_1 a0_2 a0_3 a1).bind fun bt221 => (some (bt221.1, bt221.2.1, bt221.2.2, 0))) else (some (0, 0, 0, t220)))) = some (r1, r2, r3, r4) := by first | (rw [hy217]; with_reducible exact H) | (have H2_ := (Option.bind_some _ _).symm.trans H; rw [hy217]; with_reducible exact H2_) | (have H2_ := (Option.bind_some _ _).symm.trans H; with_reducible exact H2_) | with_reducible exact H | (rw [hy217]; exact H) | exact H
 have Ny217 := m0 hy217
 clear hy217
 replace H := ob H
 obtain ⟨t220, A50, H⟩ := H
 (try dsimp only at H)
 have A5 := m0 A50
 clear A50
 by_cases c6 : t220 = 0
 ·rw [if_pos c6] at H
  have c6b0 := beq_iff_eq.mpr c6
  have c6b1 := bne_eq_false_iff_eq.mpr c6
  clear c6
  replace H := ob H
  obtain ⟨⟨t221, t222, t223⟩, A70, H⟩ := H
  (try dsimp only at H)
  have A7 := m0 A70
  clear A70
  simp only [Option.some.injEq, Prod.mk.injEq] at H
  obtain ⟨rfl, rfl, rfl, rfl⟩ := H
  go_enter Tryd.func22, Tryd.ntmps22
  go_wp2_with (first | ((with_reducible refine gate_dst (N := 2) rfl ?_); refine be 2 28 #[.slice A0_0 l0_0.length c0_0, .slice A0_1 l0_1.length c0_1, .int .i64 a0_2, .int .i64 a0_3] ?_; intro gb213 hg w8 hbox hb; have BK213 := m0 hbox; have GW213 := m0 (bg (n := w.heap.size) hg); have GE213 := m0 (bg (n := w.heap.size) hg); replace HB := sb HB hb; clear hb hbox hg) | ((with_reducible refine gate_dst (N := 4) rfl ?_); refine be 4 36 #[.int .i64 0, .int .i64 0, .int .i64 0] ?_; intro gb214 hg w9 hbox hb; have BK214 := m0 hbox; have GW214 := m0 (bg (n := w.heap.size) hg); have GE214 := m0 (bg (n := w.heap.size) hg); replace HB := sb HB hb; have NB213_214 := nl BK213 hg; have NB214_213 := ng (nl BK213 hg); replace BK213 := bb BK213 hb; clear hb hbox hg; have hnb10 := NB213_214.out; have hnc10 := NB214_213.out; obtain ⟨_, _, _, _, _, _, _, _⟩ := b4 BK213) | ((with_reducible refine gate_callee (f := 53) rfl ?_); refine gl (some 8) Tryd.func53 #[.agg #[.slice A0_0 l0_0.length c0_0, .slice A0_1 l0_1.length c0_1, .int .i64 a0_2, .int .i64 a0_3]] ?_; (with_reducible refine (line_CheckCase.calls k _ _ l0_0 _ _ l0_1 a0_2 a0_3 t215 _ ?side1 ?side2 ?side3 ?side4 A3.out).mono ?_); (case side1 => exact cb HR0_0 HB); (case side2 => exact HC0_0.out); (case side3 => exact cb HR0_1 HB); (case side4 => exact HC0_1.out); rintro e w12 ⟨rfl, hb⟩; refine ⟨_, rfl, ?_⟩; replace BK213 := bb BK213 hb; replace BK214 := bb BK214 hb; replace HB := sb HB hb; (try clear hb)) | ((with_reducible refine gate_callee (f := 92) rfl ?_); refine gl (some 10) Tryd.func92 #[.int .i64 a1] ?_; (with_reducible refine (line_kindErr.calls a1 t216 _ A4.out).mono ?_); rintro e w' ⟨rfl, ⟨nd, rfl⟩⟩; refine ⟨_, rfl, ?_⟩; (try (rw [drewN_self w12]; generalize hq_ : World.drewN w12 _ = w12; replace BK213 := gd BK213 hq_; replace BK214 := gd BK214 hq_; replace HB := gs HB hq_; clear hq_))) | ((with_reducible refine gate_dst (N := 11) rfl ?_); refine Kd.R_lit (Kd.int .i64) _ 31 ?hg (N := 11) ?hd (xs := ([t215, t216] : List Int)) (inner := [.int .i64 t215, .int .i64 t216]) (ok := fun _ => True) (okp := fun _ => True) ?hr ?hp (fun _ hk => hk) trivial (Below.refl _ _) (Nat.le_refl _) (by simp) ?_; (case hd => rfl); (case hg => rfl); (case hr => first | (go_simp; done) | (go_simp; rfl)); (case hp => exact (Reps.one (show Kd.M (Kd.int .i64) _ _ _ t215 [.int .i64 t215] from rfl) (Reps.one (show Kd.M (Kd.int .i64) _ _ _ t216 [.int .i64 t216] from rfl) (Reps.none _ _)))); intro v218 w13 ho14 hb hg_ hnew_; clear hg_ hnew_; (first | rw [← Ny217.out] at ho14 | (simp only [Int.reduceToNat] at ho14; rw [← Ny217.out] at ho14)); have HO219 := m0 (Kd.R_lower ho14 (below_size bz)); replace BK213 := bb BK213 hb; replace BK214 := bb BK214 hb; replace HB := sb HB hb; clear hb ho14; obtain ⟨Ao15, co15, eo15⟩ := Kd.R_slice HO219.out; subst eo15) | ((with_reducible refine gate_callee (f := 91) rfl ?_); refine gl (some 12) Tryd.func91 #[.slice Ao15 y217.length co15] ?_; (with_reducible refine (line_first.calls k _ _ y217 t220 _ ?side1 ?side2 A5.out).mono ?_); (case side1 => exact bc (Kd.R_reads' HO219.out).2.2); (case side2 => exact (Kd.R_reads' HO219.out).2.1); rintro e w' ⟨rfl, ⟨nd, rfl⟩⟩; refine ⟨_, rfl, ?_⟩; (try (rw [drewN_self w13]; generalize hq_ : World.drewN w13 _ = w13; replace HO219 := gr HO219 hq_; replace BK213 := gd BK213 hq_; replace BK214 := gd BK214 hq_; replace HB := gs HB hq_; clear hq_)); obtain ⟨_, _, _, _, _, _, _, _⟩ := b4 BK213) | ((with_reducible refine gate_callee (f := 97) rfl ?_); refine gl (some 19) Tryd.func97 #[.agg #[.slice A0_0 l0_0.length c0_0, .slice A0_1 l0_1.length c0_1, .int .i64 a0_2, .int .i64 a0_3], .int .i64 a1] ?_; (with_reducible refine (line_worst.calls k _ _ l0_0 _ _ l0_1 a0_2 a0_3 a1 t221 t222 t223 _ ?side1 ?side2 ?side3 ?side4 ?side5 A7.out).mono ?_); (case side1 => exact cb HR0_0 HB); (case side2 => exact HC0_0.out); (case side3 => exact cb HR0_1 HB); (case side4 => exact HC0_1.out); (case side5 => exact EstG.below HG.out bz); rintro e w17 ⟨rfl, hb⟩; refine ⟨_, rfl, ?_⟩; replace HO219 := rb HO219 hb; replace BK213 := bb BK213 hb; replace BK214 := bb BK214 hb; replace HB := sb HB hb; (try clear hb); obtain ⟨_, _, _, _, _, _⟩ := b3 BK214))
  refine bodyPost_ret (results_ct rfl _ _ gb214 36 #[.int .i64 t221, .int .i64 t222, .int .i64 t223] (0, 0) _ rfl (bq BK214.out) Tryd.underlying36 rfl (by kernel_rfl)) rfl ?_
  exact ez
 ·rw [if_neg c6] at H
  have c6b0 := beq_eq_false_iff_ne.mpr c6
  have c6b1 := bne_iff_ne.mpr c6
  simp only [Option.some.injEq, Prod.mk.injEq] at H
  obtain ⟨rfl, rfl, rfl, rfl⟩ := H
  go_enter Tryd.func22, Tryd.ntmps22
  go_wp2_with (first | ((with_reducible refine gate_dst (N := 2) rfl ?_); refine be 2 28 #[.slice A0_0 l0_0.length c0_0, .slice A0_1 l0_1.length c0_1, .int .i64 a0_2, .int .i64 a0_3] ?_; intro gb213 hg w19 hbox hb; have BK213 := m0 hbox; have GW213 := m0 (bg (n := w.heap.size) hg); have GE213 := m0 (bg (n := w.heap.size) hg); replace HB := sb HB hb; clear hb hbox hg) | ((with_reducible refine gate_dst (N := 4) rfl ?_); refine be 4 36 #[.int .i64 0, .int .i64 0, .int .i64 0] ?_; intro gb214 hg w20 hbox hb; have BK214 := m0 hbox; have GW214 := m0 (bg (n := w.heap.size) hg); have GE214 := m0 (bg (n := w.heap.size) hg); replace HB := sb HB hb; have NB213_214 := nl BK213 hg; have NB214_213 := ng (nl BK213 hg); replace BK213 := bb BK213 hb; clear hb hbox hg; have hnb21 := NB213_214.out; have hnc21 := NB214_213.out; obtain ⟨_, _, _, _, _, _, _, _⟩ := b4 BK213) | ((with_reducible refine gate_callee (f := 53) rfl ?_); refine gl (some 8) Tryd.func53 #[.agg #[.slice A0_0 l0_0.length c0_0, .slice A0_1 l0_1.length c0_1, .int .i64 a0_2, .int .i64 a0_3]] ?_; (with_reducible refine (line_CheckCase.calls k _ _ l0_0 _ _ l0_1 a0_2 a0_3 t215 _ ?side1 ?side2 ?side3 ?side4 A3.out).mono ?_); (case side1 => exact cb HR0_0 HB); (case side2 => exact HC0_0.out); (case side3 => exact cb HR0_1 HB); (case side4 => exact HC0_1.out); rintro e w23 ⟨rfl, hb⟩; refine ⟨_, rfl, ?_⟩; replace BK213 := bb BK213 hb; replace BK214 := bb BK214 hb; replace HB := sb HB hb; (try clear hb)) | ((with_reducible refine gate_callee (f := 92) rfl ?_); refine gl (some 10) Tryd.func92 #[.int .i64 a1] ?_; (with_reducible refine (line_kindErr.calls a1 t216 _ A4.out).mono ?_); rintro e w' ⟨rfl, ⟨nd, rfl⟩⟩; refine ⟨_, rfl, ?_⟩; (try (rw [drewN_self w23]; generalize hq_ : World.drewN w23 _ = w23; replace BK213 := gd BK213 hq_; replace BK214 := gd BK214 hq_; replace HB := gs HB hq_; clear hq_))) | ((with_reducible refine gate_dst (N := 11) rfl ?_); refine Kd.R_lit (Kd.int .i64) _ 31 ?hg (N := 11) ?hd (xs := ([t215, t216] : List Int)) (inner := [.int .i64 t215, .int .i64 t216]) (ok := fun _ => True) (okp := fun _ => True) ?hr ?hp (fun _ hk => hk) trivial (Below.refl _ _) (Nat.le_refl _) (by simp) ?_; (case hd => rfl); (case hg => rfl); (case hr => first | (go_simp; done) | (go_simp; rfl)); (case hp => exact (Reps.one (show Kd.M (Kd.int .i64) _ _ _ t215 [.int .i64 t215] from rfl) (Reps.one (show Kd.M (Kd.int .i64) _ _ _ t216 [.int .i64 t216] from rfl) (Reps.none _ _)))); intro v218 w24 ho25 hb hg_ hnew_; clear hg_ hnew_; (first | rw [← Ny217.out] at ho25 | (simp only [Int.reduceToNat] at ho25; rw [← Ny217.out] at ho25)); have HO219 := m0 (Kd.R_lower ho25 (below_size bz)); replace BK213 := bb BK213 hb; replace BK214 := bb BK214 hb; replace HB := sb HB hb; clear hb ho25; obtain ⟨Ao26, co26, eo26⟩ := Kd.R_slice HO219.out; subst eo26) | ((with_reducible refine gate_callee (f := 91) rfl ?_); refine gl (some 12) Tryd.func91 #[.slice Ao26 y217.length co26] ?_; (with_reducible refine (line_first.calls k _ _ y217 t220 _ ?side1 ?side2 A5.out).mono ?_); (case side1 => exact bc (Kd.R_reads' HO219.out).2.2); (case side2 => exact (Kd.R_reads' HO219.out).2.1); rintro e w' ⟨rfl, ⟨nd, rfl⟩⟩; refine ⟨_, rfl, ?_⟩; (try (rw [drewN_self w24]; generalize hq_ : World.drewN w24 _ = w24; replace HO219 := gr HO219 hq_; replace BK213 := gd BK213 hq_; replace BK214 := gd BK214 hq_; replace HB := gs HB hq_; clear hq_)); obtain ⟨_, _, _, _, _, _⟩ := b3 BK214))
  refine bodyPost_ret (results_ct rfl _ _ gb214 36 #[.int .i64 0, .int .i64 0, .int .i64 0] (0, 0) _ rfl (bq BK214.out) Tryd.underlying36 rfl (by kernel_rfl)) rfl ?_
  exact ez
end
section
def line_open.f (l0 : List Int) : Option (List Int × Int) := (line_CheckSpectrum.f l0).bind fun bt224 => (some (l0, bt224.2))
theorem line_open.calls (P0_ : Nat → Prop) (A0 : Option Addr) (c0 : Nat) (l0 : List Int) (r1 : List Int) (r2 : Int) (w : World) (hs0 : Kd.V (Kd.int .i64) 3 w w.heap.size (fun k_ => P0_ k_) (.slice A0 l0.length c0) l0) (h : line_open.f l0 = some (r1, r2)) :
  Calls Tryd.prog 102 #[.slice A0 l0.length c0] w fun e w' => ∃ v0_ : Value, e = .returned (.tuple #[v0_, .int .i64 r2]) ∧ Kd.V (Kd.int .i64) 3 w' w.heap.size (fun k_ => (P0_ k_ ∨ w.heap.size ≤ k_)) v0_ r1 ∧ Below w.heap.size w w' := by
 have HO0 := m0 (show Kd.V (Kd.int .i64) 3 w w.heap.size (fun k_ => (P0_ k_ ∨ w.heap.size ≤ k_)) (.slice A0 l0.length c0) l0 from Kd.V_mono hs0 (fun k_ hk => .inl hk))
 have HB := m0 (Below.refl w.heap.size w)
 have H : ((line_CheckSpectrum.f l0).bind fun bt224 => (some (l0, bt224.2))) = some (r1, r2) := h
 clear h
 replace H := ob H
 obtain ⟨⟨t224, t225⟩, A20, H⟩ := H
 (try dsimp only at H)
 have A2 := m0 A20
 clear A20
 simp only [Option.some.injEq, Prod.mk.injEq] at H
 obtain ⟨rfl, rfl⟩ := H
 go_enter Tryd.func102, Tryd.ntmps102
 go_wp2_with (first | ((with_reducible refine gate_callee (f := 75) rfl ?_); refine gl (some 8) Tryd.func75 #[.slice A0 l0.length c0] ?_; (with_reducible refine (line_CheckSpectrum.calls _ _ l0 t224 t225 _ ?side1 ?side2 A2.out).mono ?_); (case side1 => repeat (first | exact (Kd.V_reads' HO0.out).2.2 | (with_reducible refine Kd.C_alloc ?_ _) | (with_reducible refine Kd.C_drewN ?_ _) | (with_reducible refine Kd.C_drew ?_))); (case side2 => exact (Kd.V_reads' HO0.out).2.1); rintro e w3 ⟨rfl, hb⟩; refine ⟨_, rfl, ?_⟩; replace HO0 := m0 (Kd.V_below (by (with_reducible repeat (first | apply Kd.V_alloc | apply Kd.V_drewN | apply Kd.V_drew)); exact HO0.out) hb); replace HB := sb HB hb; (try clear hb)))
 go_ret2
 exact ⟨_, by first | rfl | (simp [errW_none, errW_some] <;> rfl) | (simp [*, errW_none, errW_some] <;> rfl), by (with_reducible repeat (first | apply Kd.V_alloc | apply Kd.V_drewN | apply Kd.V_drew)); exact HO0.out, by repeat (first | (with_reducible first | exact HB.out | apply below_alloc | apply pw_below_drewN | apply below_drew1) | exact HB.out)⟩
end
section
def line_Estimated.f (k : Nat) (l0 : List Int) (a1 : Int) : Option (Int × Int × Int) := (line_open.f l0).bind fun bt227 => ((line_kindErr.f a1).bind fun t231 => ((line_first.f k (([bt227.2, t231] : List Int))).bind fun t235 => (if t235 = 0 then ((Sp_estimate.f k bt227.1 a1).bind fun bt236 => (some (bt236.1, bt236.2, 0))) else (some (0, 0, t235)))))
theorem line_Estimated.mono : ∀ a0 a1 k, LeO (line_Estimated.f k a0 a1) (line_Estimated.f (k + 1) a0 a1) := by
 intro a0 a1 k
 unfold line_Estimated.f
 repeat' first
   | (with_reducible exact line_first.mono _ _)
   | (with_reducible exact Sp_estimate.mono _ _ _)
   | (with_reducible exact LeO.refl _)
   | (with_reducible exact LeO.none _)
   | (with_reducible refine LeO.ite ?_ ?_)
   | (with_reducible refine LeO.bind ?_ (fun _ => ?_))
   | exact line_first.mono _ _
   | exact Sp_estimate.mono _ _ _
   | exact LeO.none _
   | refine LeO.ite ?_ ?_
   | refine LeO.bind ?_ (fun _ => ?_)
theorem line_Estimated.calls (k : Nat) (A0 : Option Addr) (c0 : Nat) (l0 : List Int) (a1 : Int) (r1 : Int) (r2 : Int) (r3 : Int) (w : World) (hr0 : Kd.C (Kd.int .i64) w A0 l0.length l0) (hc0 : l0.length ≤ c0) (hG : EstG w) (h : line_Estimated.f k l0 a1 = some (r1, r2, r3)) :
  Calls Tryd.prog 34 #[.slice A0 l0.length c0, .int .i64 a1] w fun e w' => e = .returned (.tuple #[.agg #[.int .i64 r1, .int .i64 r2], .int .i64 r3]) ∧ Below w.heap.size w w' := by
 have hu26 := Tryd.underlying26
 have HG := m0 hG
 clear hG
 have HR0 := m0 hr0
 have HC0 := m0 hc0
 clear hr0 hc0
 have HB := m0 (Below.refl w.heap.size w)
 have H : ((line_open.f l0).bind fun bt227 => ((line_kindErr.f a1).bind fun t231 => ((line_first.f k (([bt227.2, t231] : List Int))).bind fun t235 => (if t235 = 0 then ((Sp_estimate.f k bt227.1 a1).bind fun bt236 => (some (bt236.1, bt236.2, 0))) else (some (0, 0, t235)))))) = some (r1, r2, r3) := h
 clear h
 replace H := ob H
 obtain ⟨⟨t227, t230⟩, A30, H⟩ := H
 (try dsimp only at H)
 have A3 := m0 A30
 clear A30
 replace H := ob H
 obtain ⟨t231, A40, H⟩ := H
 (try dsimp only at H)
 have A4 := m0 A40
 clear A40
 obtain ⟨y232, hy232⟩ : ∃ y_ : List Int, y_ = (([t230, t231] : List Int)) := ⟨_, rfl⟩
 replace H : ((line_first.f k y232).bind fun t235 => (if t235 = 0 then ((Sp_estimate.f k t227 a1).bind fun bt236 => (some (bt236.1, bt236.2, 0))) else (some (0, 0, t235)))) = some (r1, r2, r3) := by first | (rw [hy232]; with_reducible exact H) | (have H2_ := (Option.bind_some _ _).symm.trans H; rw [hy232]; with_reducible exact H2_) | (have H2_ := (Option.bind_some _ _).symm.trans H; with_reducible exact H2_) | with_reducible exact H | (rw [hy232]; exact H) | exact H
 have Ny232 := m0 hy232
 clear hy232
 replace H := ob H
 obtain ⟨t235, A50, H⟩ := H
 (try dsimp only at H)
 have A5 := m0 A50
 clear A50
 by_cases c6 : t235 = 0
 ·rw [if_pos c6] at H
  have c6b0 := beq_iff_eq.mpr c6
  have c6b1 := bne_eq_false_iff_eq.mpr c6
  clear c6
  replace H := ob H
  obtain ⟨⟨t236, t237⟩, A70, H⟩ := H
  (try dsimp only at H)
  have A7 := m0 A70
  clear A70
  simp only [Option.some.injEq, Prod.mk.injEq] at H
  obtain ⟨rfl, rfl, rfl⟩ := H
  go_enter Tryd.func34, Tryd.ntmps34
  go_wp2_with (first | ((with_reducible refine gate_dst (N := 4) rfl ?_); refine be 4 26 #[.int .i64 0, .int .i64 0] ?_; intro gb226 hg w8 hbox hb; have BK226 := m0 hbox; have GW226 := m0 (bg (n := w.heap.size) hg); have GE226 := m0 (bg (n := w.heap.size) hg); replace HB := sb HB hb; clear hb hbox hg) | ((with_reducible refine gate_callee (f := 102) rfl ?_); refine gl (some 10) Tryd.func102 #[.slice A0 l0.length c0] ?_; (with_reducible refine (line_open.calls (fun k_ => k_ < w.heap.size) _ _ l0 t227 t230 _ ?side1 A3.out).mono ?_); (case side1 => exact Kd.V_mk HC0.out (Kd.F_below (Kd.C_F (Kd.heap_int .i64) HR0.out) bz)); rintro e w9 ⟨v228, rfl, ho0, hb⟩; refine ⟨_, rfl, ?_⟩; have HO229 := m0 (Kd.V_lower (Kd.V_mono (ok' := fun k_ => k_ ≠ gb226) ho0 (fun k_ hk_ => Or.elim hk_ (fun hs_ => fun e_ => Nat.not_le.2 hs_ (by rw [e_]; exact GW226.out)) (fun hn_ => (Kd.freshB (g := gb226) (o := .cells #[.int .i64 0, .int .i64 0] 26 (0, 0)) (bk BK226.out) k_ hn_)))) (below_size bz)); replace BK226 := bb BK226 hb; replace HB := sb HB hb; (try clear hb); (try clear ho0)) | ((with_reducible refine gate_callee (f := 92) rfl ?_); refine gl (some 15) Tryd.func92 #[.int .i64 a1] ?_; (with_reducible refine (line_kindErr.calls a1 t231 _ A4.out).mono ?_); rintro e w' ⟨rfl, ⟨nd, rfl⟩⟩; refine ⟨_, rfl, ?_⟩; (try (rw [drewN_self w9]; generalize hq_ : World.drewN w9 _ = w9; have n0_ : Aside0 (Kd.V (Kd.int .i64) 3 w9 w.heap.size (fun k_ => k_ ≠ gb226) v228 t227) := ⟨by rw [← hq_]; exact (by (with_reducible repeat (first | apply Kd.V_alloc | apply Kd.V_drewN | apply Kd.V_drew)); exact HO229.out)⟩; have n1_ := gd BK226 hq_; have n2_ := gs HB hq_; clear HO229 BK226 HB hq_; have HO229 := n0_; have BK226 := n1_; have HB := n2_; clear n0_ n1_ n2_))) | ((with_reducible refine gate_dst (N := 16) rfl ?_); refine Kd.R_lit (Kd.int .i64) _ 31 ?hg (N := 16) ?hd (xs := ([t230, t231] : List Int)) (inner := [.int .i64 t230, .int .i64 t231]) (ok := fun _ => True) (okp := fun _ => True) ?hr ?hp (fun _ hk => hk) trivial (Below.refl _ _) (Nat.le_refl _) (by simp) ?_; (case hd => rfl); (case hg => rfl); (case hr => first | (go_simp; done) | (go_simp; rfl)); (case hp => exact (Reps.one (show Kd.M (Kd.int .i64) _ _ _ t230 [.int .i64 t230] from rfl) (Reps.one (show Kd.M (Kd.int .i64) _ _ _ t231 [.int .i64 t231] from rfl) (Reps.none _ _)))); intro v233 w10 ho11 hb hg_ hnew_; clear hg_ hnew_; (first | rw [← Ny232.out] at ho11 | (simp only [Int.reduceToNat] at ho11; rw [← Ny232.out] at ho11)); replace HO229 := m0 (Kd.V_elder' (by (with_reducible repeat (first | apply Kd.V_alloc | apply Kd.V_drewN | apply Kd.V_drew)); exact HO229.out) (Kd.R_base ho11) hb); have HO234 := m0 (Kd.R_lower ho11 (below_size bz)); replace BK226 := bb BK226 hb; replace HB := sb HB hb; clear hb ho11; obtain ⟨Ao12, co12, eo12⟩ := Kd.R_slice HO234.out; subst eo12) | ((with_reducible refine gate_callee (f := 91) rfl ?_); refine gl (some 17) Tryd.func91 #[.slice Ao12 y232.length co12] ?_; (with_reducible refine (line_first.calls k _ _ y232 t235 _ ?side1 ?side2 A5.out).mono ?_); (case side1 => exact bc (Kd.R_reads' HO234.out).2.2); (case side2 => exact (Kd.R_reads' HO234.out).2.1); rintro e w' ⟨rfl, ⟨nd, rfl⟩⟩; refine ⟨_, rfl, ?_⟩; (try (rw [drewN_self w10]; generalize hq_ : World.drewN w10 _ = w10; have n0_ : Aside0 (Kd.V (Kd.int .i64) 3 w10 w.heap.size (fun k_ => some k_ ≠ (.slice Ao12 y232.length co12 : Value).ownBlock ∧ k_ ≠ gb226) v228 t227) := ⟨by rw [← hq_]; exact (by (with_reducible repeat (first | apply Kd.V_alloc | apply Kd.V_drewN | apply Kd.V_drew)); exact Kd.V_mono HO229.out (fun _ hk => ⟨hk.2, hk.1⟩))⟩; have n1_ := gr HO234 hq_; have n2_ := gd BK226 hq_; have n3_ := gs HB hq_; clear HO229 HO234 BK226 HB hq_; have HO229 := n0_; have HO234 := n1_; have BK226 := n2_; have HB := n3_; clear n0_ n1_ n2_ n3_)); obtain ⟨Ao13, co13, eo13⟩ := Kd.V_slice HO229.out; subst eo13) | ((with_reducible refine gate_callee (f := 95) rfl ?_); refine gl (some 24) Tryd.func95 #[.slice Ao13 t227.length co13, .int .i64 a1] ?_; (with_reducible refine (Sp_estimate.calls k _ _ t227 a1 t236 t237 _ ?side1 ?side2 ?side3 A7.out).mono ?_); (case side1 => repeat (first | exact (Kd.V_reads' HO229.out).2.2 | (with_reducible refine Kd.C_alloc ?_ _) | (with_reducible refine Kd.C_drewN ?_ _) | (with_reducible refine Kd.C_drew ?_))); (case side2 => exact (Kd.V_reads' HO229.out).2.1); (case side3 => exact EstG.below HG.out bz); rintro e w14 ⟨rfl, hb⟩; refine ⟨_, rfl, ?_⟩; replace HO229 := m0 (Kd.V_below (by (with_reducible repeat (first | apply Kd.V_alloc | apply Kd.V_drewN | apply Kd.V_drew)); exact HO229.out) hb); replace HO234 := rb HO234 hb; replace BK226 := bb BK226 hb; replace HB := sb HB hb; (try clear hb); obtain ⟨_, _, _, _⟩ := b2 BK226))
  refine bodyPost_ret (results_ct rfl _ _ gb226 26 #[.int .i64 t236, .int .i64 t237] (0, 0) _ rfl (bq BK226.out) Tryd.underlying26 rfl (by kernel_rfl)) rfl ?_
  exact ez
 ·rw [if_neg c6] at H
  have c6b0 := beq_eq_false_iff_ne.mpr c6
  have c6b1 := bne_iff_ne.mpr c6
  simp only [Option.some.injEq, Prod.mk.injEq] at H
  obtain ⟨rfl, rfl, rfl⟩ := H
  go_enter Tryd.func34, Tryd.ntmps34
  go_wp2_with (first | ((with_reducible refine gate_dst (N := 4) rfl ?_); refine be 4 26 #[.int .i64 0, .int .i64 0] ?_; intro gb226 hg w16 hbox hb; have BK226 := m0 hbox; have GW226 := m0 (bg (n := w.heap.size) hg); have GE226 := m0 (bg (n := w.heap.size) hg); replace HB := sb HB hb; clear hb hbox hg) | ((with_reducible refine gate_callee (f := 102) rfl ?_); refine gl (some 10) Tryd.func102 #[.slice A0 l0.length c0] ?_; (with_reducible refine (line_open.calls (fun k_ => k_ < w.heap.size) _ _ l0 t227 t230 _ ?side1 A3.out).mono ?_); (case side1 => exact Kd.V_mk HC0.out (Kd.F_below (Kd.C_F (Kd.heap_int .i64) HR0.out) bz)); rintro e w17 ⟨v228, rfl, ho0, hb⟩; refine ⟨_, rfl, ?_⟩; have HO229 := m0 (Kd.V_lower (Kd.V_mono (ok' := fun k_ => k_ ≠ gb226) ho0 (fun k_ hk_ => Or.elim hk_ (fun hs_ => fun e_ => Nat.not_le.2 hs_ (by rw [e_]; exact GW226.out)) (fun hn_ => (Kd.freshB (g := gb226) (o := .cells #[.int .i64 0, .int .i64 0] 26 (0, 0)) (bk BK226.out) k_ hn_)))) (below_size bz)); replace BK226 := bb BK226 hb; replace HB := sb HB hb; (try clear hb); (try clear ho0)) | ((with_reducible refine gate_callee (f := 92) rfl ?_); refine gl (some 15) Tryd.func92 #[.int .i64 a1] ?_; (with_reducible refine (line_kindErr.calls a1 t231 _ A4.out).mono ?_); rintro e w' ⟨rfl, ⟨nd, rfl⟩⟩; refine ⟨_, rfl, ?_⟩; (try (rw [drewN_self w17]; generalize hq_ : World.drewN w17 _ = w17; have n0_ : Aside0 (Kd.V (Kd.int .i64) 3 w17 w.heap.size (fun k_ => k_ ≠ gb226) v228 t227) := ⟨by rw [← hq_]; exact (by (with_reducible repeat (first | apply Kd.V_alloc | apply Kd.V_drewN | apply Kd.V_drew)); exact HO229.out)⟩; have n1_ := gd BK226 hq_; have n2_ := gs HB hq_; clear HO229 BK226 HB hq_; have HO229 := n0_; have BK226 := n1_; have HB := n2_; clear n0_ n1_ n2_))) | ((with_reducible refine gate_dst (N := 16) rfl ?_); refine Kd.R_lit (Kd.int .i64) _ 31 ?hg (N := 16) ?hd (xs := ([t230, t231] : List Int)) (inner := [.int .i64 t230, .int .i64 t231]) (ok := fun _ => True) (okp := fun _ => True) ?hr ?hp (fun _ hk => hk) trivial (Below.refl _ _) (Nat.le_refl _) (by simp) ?_; (case hd => rfl); (case hg => rfl); (case hr => first | (go_simp; done) | (go_simp; rfl)); (case hp => exact (Reps.one (show Kd.M (Kd.int .i64) _ _ _ t230 [.int .i64 t230] from rfl) (Reps.one (show Kd.M (Kd.int .i64) _ _ _ t231 [.int .i64 t231] from rfl) (Reps.none _ _)))); intro v233 w18 ho19 hb hg_ hnew_; clear hg_ hnew_; (first | rw [← Ny232.out] at ho19 | (simp only [Int.reduceToNat] at ho19; rw [← Ny232.out] at ho19)); replace HO229 := m0 (Kd.V_elder' (by (with_reducible repeat (first | apply Kd.V_alloc | apply Kd.V_drewN | apply Kd.V_drew)); exact HO229.out) (Kd.R_base ho19) hb); have HO234 := m0 (Kd.R_lower ho19 (below_size bz)); replace BK226 := bb BK226 hb; replace HB := sb HB hb; clear hb ho19; obtain ⟨Ao20, co20, eo20⟩ := Kd.R_slice HO234.out; subst eo20) | ((with_reducible refine gate_callee (f := 91) rfl ?_); refine gl (some 17) Tryd.func91 #[.slice Ao20 y232.length co20] ?_; (with_reducible refine (line_first.calls k _ _ y232 t235 _ ?side1 ?side2 A5.out).mono ?_); (case side1 => exact bc (Kd.R_reads' HO234.out).2.2); (case side2 => exact (Kd.R_reads' HO234.out).2.1); rintro e w' ⟨rfl, ⟨nd, rfl⟩⟩; refine ⟨_, rfl, ?_⟩; (try (rw [drewN_self w18]; generalize hq_ : World.drewN w18 _ = w18; have n0_ : Aside0 (Kd.V (Kd.int .i64) 3 w18 w.heap.size (fun k_ => some k_ ≠ (.slice Ao20 y232.length co20 : Value).ownBlock ∧ k_ ≠ gb226) v228 t227) := ⟨by rw [← hq_]; exact (by (with_reducible repeat (first | apply Kd.V_alloc | apply Kd.V_drewN | apply Kd.V_drew)); exact Kd.V_mono HO229.out (fun _ hk => ⟨hk.2, hk.1⟩))⟩; have n1_ := gr HO234 hq_; have n2_ := gd BK226 hq_; have n3_ := gs HB hq_; clear HO229 HO234 BK226 HB hq_; have HO229 := n0_; have HO234 := n1_; have BK226 := n2_; have HB := n3_; clear n0_ n1_ n2_ n3_)); obtain ⟨_, _, _, _⟩ := b2 BK226))
  refine bodyPost_ret (results_ct rfl _ _ gb226 26 #[.int .i64 0, .int .i64 0] (0, 0) _ rfl (bq BK226.out) Tryd.underlying26 rfl (by kernel_rfl)) rfl ?_
  exact ez
end
section
def Bs_Whole.f (a0 : Int) : Option (Int × Int) := some (a0, 1)
theorem Bs_Whole.calls (a0 : Int) (r1 : Int) (r2 : Int) (w : World) (h : Bs_Whole.f a0 = some (r1, r2)) :
  Calls Tryd.prog 38 #[.int .i64 a0] w fun e w' => e = .returned (.agg #[.int .i64 r1, .int .i64 r2]) ∧ Below w.heap.size w w' := by
 have hu26 := Tryd.underlying26
 have HB := m0 (Below.refl w.heap.size w)
 have H : (some (a0, 1)) = some (r1, r2) := h
 clear h
 simp only [Option.some.injEq, Prod.mk.injEq] at H
 obtain ⟨rfl, rfl⟩ := H
 go_enter Tryd.func38, Tryd.ntmps38
 go_wp2_with (first | ((with_reducible refine gate_dst (N := 2) rfl ?_); refine be 2 26 #[.int .i64 0, .int .i64 0] ?_; intro gb238 hg w2 hbox hb; have BK238 := m0 hbox; have GW238 := m0 (bg (n := w.heap.size) hg); have GE238 := m0 (bg (n := w.heap.size) hg); replace HB := sb HB hb; clear hb hbox hg; obtain ⟨_, _, _, _⟩ := b2 BK238))
 refine bodyPost_ret (results_cell_row rfl _ _ gb238 26 #[.int .i64 a0, .int .i64 1] (0, 0) _ rfl (bq BK238.out) Tryd.underlying26 rfl (by kernel_rfl)) rfl ?_
 exact ez
end
section
theorem Sp_int_133.own (g : Nat) (lb : Array Value) (eg : ∀ args w, (callFunc g args).run Tryd.prog w = .ok (.enter g args) w) (p : Int → Bool) (A0 : Option Addr) (c0 : Nat) (l0 : List Int) (w : World) (hp : PredI g lb p w) (hr0 : Kd.C (Kd.int .i64) w A0 l0.length l0) :
  Calls Tryd.prog 133 #[.slice A0 l0.length c0, .func (.func g) #[] lb] w fun e w' => e = .returned (.int .i64 (idxF p l0)) ∧ Drawn0 w w' := by
 have HR0 := m0 hr0
 have HL := m0 (show (l0.length : Int) ≤ 9223372036854775807 from by have := hr0.2.1; omega)
 clear hr0
 have hpAt : ∀ (x : Int) (q : Nat), Calls Tryd.prog g (#[.int .i64 x] ++ lb) (w.drewN q) fun e w' => e = .returned (.bool (p x)) ∧ ∃ q', w' = (w.drewN q).drewN q' := fun x q => hp _ x (pw_below_drewN (Below.refl _ w) q)
 have HP := m0 hpAt
 clear hpAt hp
 go_enter Tryd.func133, Tryd.ntmps133
 go_wp2
 go_loopg [5, 8] l0.length (fun gg _ s8 wr => ∃ x : Int, s8 = .int .i64 x ∧ Aside0 (0 ≤ x ∧ x ≤ l0.length ∧ (l0.length : Int) - x ≤ gg ∧ ∀ j : Nat, (j : Int) < x → p (rd l0 j) = false) ∧ Drawn0 w wr)
 case atStart => exact ⟨0, rfl, ⟨by omega, by omega, by omega, fun j hj => by omega⟩, Drawn0.refl _⟩
 case round =>
  obtain ⟨x, rfl, HA, ⟨q, rfl⟩⟩ := hrel
  by_cases hlt : x < (l0.length : Int)
  ·obtain ⟨ad, e, hx⟩ := Kd.at_int HR0.out x HA.out.1 hlt
   cases e
   have c1 : decide (x < (l0.length : Int)) = true := decide_eq_true hlt
   have p1 := eq_true HA.out.1
   have q1 := eq_true hlt
   clear hlt
   have hcall := HP.out (rd l0 x)
   cases hq : p (rd l0 x) with
   | true =>
    rw [hq] at hcall
    have HQ := m0 hq
    have HC := m0 hcall
    clear hq hcall
    go_wp2_with (go_at_fn g; refine (HC.out _).mono ?_; rintro e w' ⟨rfl, q', rfl⟩)
    go_ret
    refine ⟨?_, ⟨⟨_, rfl⟩⟩⟩
    obtain ⟨h0, h1, h2, h3⟩ := HA.out
    have hc := of_decide_eq_true c1
    have hn : ((x.toNat : Nat) : Int) = x := by omega
    exact ret_int (by rw [idxF_hit p l0 x.toNat (by omega) (by rw [hn]; exact HQ.out) (fun j hj => h3 j (by omega)), hn])
   | false =>
    rw [hq] at hcall
    have HQ := m0 hq
    have HC := m0 hcall
    clear hq hcall
    go_wp2_with (go_at_fn g; refine (HC.out _).mono ?_; rintro e w' ⟨rfl, q', rfl⟩)
    obtain ⟨h0, h1, h2, h3⟩ := HA.out
    have hc := of_decide_eq_true c1
    have hL := HL.out
    go_roundg (l0.length - (x + 1)).toNat
    case measure => omega
    case rel =>
     refine ⟨wrap64 (x + 1), rfl, ⟨?_⟩, ⟨⟨_, rfl⟩⟩⟩
     have e1 : wrap64 (x + 1) = x + 1 := by unfold wrap64; omega
     rw [e1]
     refine ⟨by omega, by omega, by omega, fun j hj => ?_⟩
     by_cases e : (j : Int) = x
     ·rw [e]; exact HQ.out
     ·exact h3 j (by omega)
  ·have c1 : decide (x < (l0.length : Int)) = false := decide_eq_false hlt
   have HN := m0 hlt
   clear hlt
   go_wp2
   go_ret
   refine ⟨?_, ⟨⟨q, rfl⟩⟩⟩
   obtain ⟨h0, h1, h2, h3⟩ := HA.out
   have := HN.out
   exact ret_int (idxF_miss p l0 (fun j hj => h3 j (by omega))).symm
end
section
theorem Sp_int_107.own (g : Nat) (lb : Array Value) (eg : ∀ args w, (callFunc g args).run Tryd.prog w = .ok (.enter g args) w) (p : Int → Bool) (A0 : Option Addr) (c0 : Nat) (l0 : List Int) (w : World) (hp : PredI g lb p w) (hr0 : Kd.C (Kd.int .i64) w A0 l0.length l0) :
  Calls Tryd.prog 107 #[.slice A0 l0.length c0, .func (.func g) #[] lb] w fun e w' => e = .returned (.bool (l0.any p)) ∧ Drawn0 w w' := by
 have HC := m0 ((Sp_int_133.own g lb eg p A0 c0 l0 w hp hr0).mono fun e w' h => (⟨h.1, h.2.out⟩ : e = .returned (.int .i64 (idxF p l0)) ∧ ∃ q, w' = w.drewN q))
 rw [← idxF_any]
 clear hp hr0
 go_enter Tryd.func107, Tryd.ntmps107
 go_wp2_with (first | (go_at_call 133; refine HC.out.mono ?_; rintro e w' ⟨rfl, q, rfl⟩))
 go_ret
 exact ⟨rfl, ⟨⟨q, rfl⟩⟩⟩
theorem detections_pred {B : Nat} {n : Int} {w : World} (hc : w.cell? ⟨B, 0, none⟩ = some (.int .i64 n)) : PredI 108 #[.pointer (some ⟨B, 0, none⟩)] (fun m => decide (n ≤ m)) w := by
 intro W x hb
 have hc' := pw_cell_below hb hc
 clear hc hb
 go_enter Tryd.func108, Tryd.ntmps108
 go_wp2
 go_ret
 exact ⟨rfl, 0, rfl⟩
def line_ContainsFunc_ge.f (l0 : List Int) (n : Int) : Option Bool := some (l0.any fun m => decide (n ≤ m))
theorem line_ContainsFunc_ge.calls (A0 : Option Addr) (c0 : Nat) (l0 : List Int) (B : Nat) (n : Int) (r : Bool) (w : World) (hr0 : Kd.C (Kd.int .i64) w A0 l0.length l0) (hc0 : l0.length ≤ c0) (hb : w.heap[B]? = some (.cells #[.int .i64 n] 3 (0, 0))) (h : line_ContainsFunc_ge.f l0 n = some r) :
  Calls Tryd.prog 107 #[.slice A0 l0.length c0, .func (.func 108) #[] #[.pointer (some ⟨B, 0, none⟩)]] w fun e w' => e = .returned (.bool r) ∧ Drawn0 w w' := by
 obtain rfl := Option.some.inj h
 exact Sp_int_107.own _ _ (enters_of Tryd.func108 (by kernel_rfl) rfl) _ A0 c0 l0 w (detections_pred ((blk_cell hb 0).trans rfl)) hr0
end
end Go.Proofs.YtjnkphmcndaijaaDoor.A
