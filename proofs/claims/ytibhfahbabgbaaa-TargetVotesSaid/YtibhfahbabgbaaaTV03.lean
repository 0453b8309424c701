/- Walks of the program's functions (printed, made shorter), each with what it computes. -/
import Derived.Test.YtibhfahbabgbaaaB05
import Derived.Test.YtibhfahbabgbaaaTV02
import Derived.Test.YtibhfahbabgbaaaB04
namespace Go.Proofs.Ytibhfahbabgbaaa.A
set_option maxHeartbeats 8000000
set_option maxRecDepth 100000
open Go.RowKit Go.Proofs.YtibhfahbabgbaaaW.PrintWords Go.Proofs.YtibhfahbabgbaaaW.PrintLast Go.Proofs.YtibhfahbabgbaaaW.PrintMore
attribute [local go_sem] max2_int min2_int max_two min_two max_three min_three max_four min_four
set_option linter.unusedVariables false
set_option linter.unusedSimpArgs false
section
def Rf_votes.l0 : Nat → List (S85) → Int → List Int → Int → Option (List Int)
 | 0, _, _, _, _ => none
 | k + 1, x0, x1, x5, x6 => if x6 < (x0.length : Int) then (if 0 ≤ x6 then ((Rf_offsets.f ((rd_T85 x0 x6).f0) ((rd_T85 x0 x6).f1) ((rd_T85 x0 x6).f2)).bind fun bt1339 => (if bt1339.1 ≤ x1 then (if x1 ≤ bt1339.2 then (if x5.length < 17592186044416 then (Rf_votes.l0 k x0 x1 (x5 ++ [x6]) (wrap64 (x6 + 1))) else (none)) else (Rf_votes.l0 k x0 x1 x5 (wrap64 (x6 + 1)))) else (Rf_votes.l0 k x0 x1 x5 (wrap64 (x6 + 1))))) else (none)) else (some x5)
def Rf_votes.f (k : Nat) (l0 : List (S85)) (a1 : Int) : Option (List Int) := Rf_votes.l0 k l0 a1 ([] : List Int) 0
theorem Rf_votes.mono_l : ∀ k, (∀ y0 y1 y2 y3, LeO (Rf_votes.l0 k y0 y1 y2 y3) (Rf_votes.l0 (k + 1) y0 y1 y2 y3))
 | 0 => fun _ _ _ _ r h => by simp [Rf_votes.l0] at h
 | k + 1 => by
  have ih0 := Rf_votes.mono_l k
  ·intro y0 y1 y2 y3
   unfold Rf_votes.l0
   repeat' with_reducible first
    | exact ih0 ..
    | exact LeO.refl ..
    | exact LeO.none ..
    | refine LeO.ite ?_ ?_
    | refine LeO.bind ?_ (fun _ => ?_)
theorem Rf_votes.mono : ∀ a0 a1 k, LeO (Rf_votes.f k a0 a1) (Rf_votes.f (k + 1) a0 a1) := by
 intro a0 a1 k
 have ih0 := Rf_votes.mono_l k
 unfold Rf_votes.f
 repeat' with_reducible first
  | exact ih0 ..
  | exact LeO.refl ..
  | exact LeO.none ..
  | refine LeO.ite ?_ ?_
  | refine LeO.bind ?_ (fun _ => ?_)
theorem Rf_votes.calls (k : Nat) (A0 : Option Addr) (c0 : Nat) (l0 : List (S85)) (a1 : Int) (r : List Int) (w : World) (hr0 : Kd.C k85 w A0 l0.length l0) (hc0 : l0.length ≤ c0) (h : Rf_votes.f k l0 a1 = some r) :
  Calls Try.prog 121 #[.slice A0 l0.length c0, .int .i64 a1] w fun e w' => ∃ v0_ : Value, e = .returned (v0_) ∧ Kd.R (Kd.int .i64) 3 w' w.heap.size (fun _ => True) v0_ r ∧ Below w.heap.size w w' := by
 have hu85 := Try.underlying85
 have hu58 := Try.underlying58
 have HR0 := m0 hr0
 have HC0 := m0 hc0
 clear hr0 hc0
 have HB := m0 (Below.refl w.heap.size w)
 have H : (Rf_votes.l0 k l0 a1 ([] : List Int) 0) = some r := h
 clear h
 have H' := m0 H
 clear H
 go_enter Try.func121, Try.ntmps121
 go_wp2
 go_loopg [5, 6] k (fun kq v5 v6 w' => ∃ (x5_1 : List Int) (x6_1 : Int), v6 = .int .i64 x6_1 ∧ Aside0 (Rf_votes.l0 kq l0 a1 x5_1 x6_1 = some r) ∧ Aside0 (kq ≤ k) ∧ Aside0 (Kd.R (Kd.int .i64) 3 w' w.heap.size (fun _ => True) v5 x5_1) ∧ Aside0 (Below w.heap.size w w'))
 case atStart => exact ⟨(([] : List Int)), (0), (by first | rfl | (simp; done) | (simp [*]; done)), H', ⟨Nat.le_refl _⟩, ⟨by first | exact Kd.R_nil _ _ _ _ _ | exact Kd.N_nil _ _ _ _ _ | exact Kd.V_nil _ _ _ _ _ | exact Kd.Q_nil _ _ _ _ _ | exact Kd.S_nil _ _ _ _ _⟩, ⟨bz⟩⟩
 case round =>
  clear H'
  obtain ⟨x5_1, x6_1, rfl, HA, HK1, HO_5, HB⟩ := hrel
  cases gk with
  | zero => exact absurd HA.out (by simp [Rf_votes.l0])
  | succ k1 =>
   have H := HA.out
   clear HA
   simp only [Rf_votes.l0] at H
   by_cases c3 : x6_1 < (l0.length : Int)
   ·rw [if_pos c3] at H
    have c3b0 := decide_eq_true c3
    clear c3
    by_cases c4 : 0 ≤ x6_1
    ·rw [if_pos c4] at H
     have c4b0 := decide_eq_true c4
     clear c4
     replace H := ob H
     obtain ⟨⟨t1339, t1340⟩, A5, H⟩ := H
     (try dsimp only at H)
     replace A5 := m0 A5
     by_cases c6 : t1339 ≤ a1
     ·rw [if_pos c6] at H
      have c6b0 := decide_eq_true c6
      clear c6
      by_cases c7 : a1 ≤ t1340
      ·rw [if_pos c7] at H
       have c7b0 := decide_eq_true c7
       clear c7
       by_cases c8 : x5_1.length < 17592186044416
       ·rw [if_pos c8] at H
        have LMc8 := m0 c8
        clear c8
        obtain ⟨y1342, hy1342⟩ : ∃ y_ : List Int, y_ = (x5_1 ++ [x6_1]) := ⟨_, rfl⟩
        replace H : (Rf_votes.l0 k1 l0 a1 y1342 (wrap64 (x6_1 + 1))) = some r := by first | (rw [hy1342]; with_reducible exact H) | (have H2_ := (Option.bind_some _ _).symm.trans H; rw [hy1342]; with_reducible exact H2_) | (have H2_ := (Option.bind_some _ _).symm.trans H; with_reducible exact H2_) | with_reducible exact H | (rw [hy1342]; exact H) | exact H
        have Ny1342 := m0 hy1342
        clear hy1342
        have H' := m0 H
        clear H
        have p1338 : 0 ≤ (x6_1 : Int) := od
        have q1338 : x6_1 < (l0.length : Int) := od
        obtain ⟨ad1338, e1338, hx1338_0, hx1338_1, hx1338_2⟩ := at_T85 HR0.out x6_1 p1338 q1338
        cases e1338
        replace hx1338_0 := (HB.out.cell (World.block_lt_of_cell? w _ hx1338_0)).trans hx1338_0
        replace hx1338_1 := (HB.out.cell (World.block_lt_of_cell? w _ hx1338_1)).trans hx1338_1
        replace hx1338_2 := (HB.out.cell (World.block_lt_of_cell? w _ hx1338_2)).trans hx1338_2
        replace p1338 := eq_true p1338
        replace q1338 := eq_true q1338
        go_wp2_with (first | ((with_reducible refine gate_callee (f := 120) rfl ?_); refine gl (some 18) Try.func120 #[.agg #[.int .i64 ((rd_T85 l0 x6_1).f0), .int .i64 ((rd_T85 l0 x6_1).f1), .int .i64 ((rd_T85 l0 x6_1).f2)]] ?_; (with_reducible refine (Rf_offsets.calls ((rd_T85 l0 x6_1).f0) ((rd_T85 l0 x6_1).f1) ((rd_T85 l0 x6_1).f2) t1339 t1340 _ A5.out).mono ?_); rintro e w9 ⟨rfl, hb⟩; refine ⟨_, rfl, ?_⟩; replace HO_5 := rb HO_5 hb; replace HB := sb HB hb; (try clear hb)) | ((with_reducible refine gate_dst (N := 7) rfl ?_); refine be 7 58 #[.int .i64 0, .int .i64 0] ?_; intro gb1341 hg w10 hbox hb; replace HO_5 := rb HO_5 hb; have BK1341 := m0 hbox; have GE1341 := gw w hg; replace HB := sb HB hb; clear hb hbox hg; obtain ⟨_, _, _, _⟩ := b2 BK1341) | ((with_reducible refine gate_builtin (b := .append) (xs := #[.tmp 29, .tmp 31]) rfl ?_); at_builtin; refine Kd.R_append (Kd.int .i64) (w0 := w) w.heap.size rfl (.tmp 29) (.tmp 31) 28 3 (.int .i64 0) 8 rfl Try.underlying28 info3 rfl (by decide) (by omega) u5 x5_1 x6_1 [.int .i64 x6_1] (fun _ => True) (fun _ => False) rfl (by first | (go_simp; done) | (go_simp; rfl)) ?aP (fun _ hk => hk.elim) ?aF ?aO ?aB ?aS ?aL ?_; (case aP => exact rfl); (case aB => exact bz); (case aF => exact (fun _ _ => trivial)); (case aO => exact (by (with_reducible repeat (first | apply Kd.R_alloc | apply Kd.R_drewN | apply Kd.R_drew)); exact Kd.R_mono (Kd.R_far (p := ⟨gb1341, 1, none⟩) (Kd.R_far (p := ⟨gb1341, 0, none⟩) (Kd.R_types HO_5.out BK1341.out (by decide)) (fun _ hk => hk.2) (.int .i64 t1339)) (fun _ hk => hk.2) (.int .i64 t1340)) (fun _ hk => trivial))); (case aS => exact (below_size bz)); (case aL => have := LMc8.out; omega); intro v1343 w12 ho hb hg hat; rw [← Ny1342.out] at ho; have n0_ := m0 (blk_grown (g := gb1341) (o := .cells #[.int .i64 t1339, .int .i64 t1340] 58 (0, 0)) (bq BK1341.out) hg (Kd.R_ne HO_5.out BK1341.out (by decide))); have n1_ := m0 (hb); have n2_ := m0 (ho); clear BK1341; clear HB; clear HO_5; have BK1341 := n0_; have HB := n1_; have HO1344 := n2_; clear n0_ n1_ n2_; clear ho hb hg hat))
        go_roundg k1
        case measure => have := HK1.out; omega
        case rel => exact ⟨(y1342), (wrap64 (x6_1 + 1)), (by first | rfl | (simp; done) | (simp [*]; done)), H', ⟨by have := HK1.out; omega⟩, ⟨br HO1344.out⟩, ⟨bz⟩⟩
       ·rw [if_neg c8] at H
        exact absurd H (by simp)
      ·rw [if_neg c7] at H
       have c7b0 := decide_eq_false c7
       clear c7
       have H' := m0 H
       clear H
       have p1338 : 0 ≤ (x6_1 : Int) := od
       have q1338 : x6_1 < (l0.length : Int) := od
       obtain ⟨ad1338, e1338, hx1338_0, hx1338_1, hx1338_2⟩ := at_T85 HR0.out x6_1 p1338 q1338
       cases e1338
       replace hx1338_0 := (HB.out.cell (World.block_lt_of_cell? w _ hx1338_0)).trans hx1338_0
       replace hx1338_1 := (HB.out.cell (World.block_lt_of_cell? w _ hx1338_1)).trans hx1338_1
       replace hx1338_2 := (HB.out.cell (World.block_lt_of_cell? w _ hx1338_2)).trans hx1338_2
       replace p1338 := eq_true p1338
       replace q1338 := eq_true q1338
       go_wp2_with (first | ((with_reducible refine gate_callee (f := 120) rfl ?_); refine gl (some 18) Try.func120 #[.agg #[.int .i64 ((rd_T85 l0 x6_1).f0), .int .i64 ((rd_T85 l0 x6_1).f1), .int .i64 ((rd_T85 l0 x6_1).f2)]] ?_; (with_reducible refine (Rf_offsets.calls ((rd_T85 l0 x6_1).f0) ((rd_T85 l0 x6_1).f1) ((rd_T85 l0 x6_1).f2) t1339 t1340 _ A5.out).mono ?_); rintro e w13 ⟨rfl, hb⟩; refine ⟨_, rfl, ?_⟩; replace HO_5 := rb HO_5 hb; replace HB := sb HB hb; (try clear hb)) | ((with_reducible refine gate_dst (N := 7) rfl ?_); refine be 7 58 #[.int .i64 0, .int .i64 0] ?_; intro gb1341 hg w14 hbox hb; replace HO_5 := rb HO_5 hb; have BK1341 := m0 hbox; have GE1341 := gw w hg; replace HB := sb HB hb; clear hb hbox hg; obtain ⟨_, _, _, _⟩ := b2 BK1341))
       go_roundg k1
       case measure => have := HK1.out; omega
       case rel => exact ⟨(x5_1), (wrap64 (x6_1 + 1)), (by first | rfl | (simp; done) | (simp [*]; done)), H', ⟨by have := HK1.out; omega⟩, ⟨by (with_reducible repeat (first | apply Kd.R_alloc | apply Kd.R_drewN | apply Kd.R_drew)); exact Kd.R_mono (Kd.R_far (p := ⟨gb1341, 1, none⟩) (Kd.R_far (p := ⟨gb1341, 0, none⟩) (Kd.R_types HO_5.out BK1341.out (by decide)) (fun _ hk => hk.2) (.int .i64 t1339)) (fun _ hk => hk.2) (.int .i64 t1340)) (fun _ hk => trivial)⟩, ⟨bz⟩⟩
     ·rw [if_neg c6] at H
      have c6b0 := decide_eq_false c6
      clear c6
      have H' := m0 H
      clear H
      have p1338 : 0 ≤ (x6_1 : Int) := od
      have q1338 : x6_1 < (l0.length : Int) := od
      obtain ⟨ad1338, e1338, hx1338_0, hx1338_1, hx1338_2⟩ := at_T85 HR0.out x6_1 p1338 q1338
      cases e1338
      replace hx1338_0 := (HB.out.cell (World.block_lt_of_cell? w _ hx1338_0)).trans hx1338_0
      replace hx1338_1 := (HB.out.cell (World.block_lt_of_cell? w _ hx1338_1)).trans hx1338_1
      replace hx1338_2 := (HB.out.cell (World.block_lt_of_cell? w _ hx1338_2)).trans hx1338_2
      replace p1338 := eq_true p1338
      replace q1338 := eq_true q1338
      go_wp2_with (first | ((with_reducible refine gate_callee (f := 120) rfl ?_); refine gl (some 18) Try.func120 #[.agg #[.int .i64 ((rd_T85 l0 x6_1).f0), .int .i64 ((rd_T85 l0 x6_1).f1), .int .i64 ((rd_T85 l0 x6_1).f2)]] ?_; (with_reducible refine (Rf_offsets.calls ((rd_T85 l0 x6_1).f0) ((rd_T85 l0 x6_1).f1) ((rd_T85 l0 x6_1).f2) t1339 t1340 _ A5.out).mono ?_); rintro e w16 ⟨rfl, hb⟩; refine ⟨_, rfl, ?_⟩; replace HO_5 := rb HO_5 hb; replace HB := sb HB hb; (try clear hb)) | ((with_reducible refine gate_dst (N := 7) rfl ?_); refine be 7 58 #[.int .i64 0, .int .i64 0] ?_; intro gb1341 hg w17 hbox hb; replace HO_5 := rb HO_5 hb; have BK1341 := m0 hbox; have GE1341 := gw w hg; replace HB := sb HB hb; clear hb hbox hg; obtain ⟨_, _, _, _⟩ := b2 BK1341))
      go_roundg k1
      case measure => have := HK1.out; omega
      case rel => exact ⟨(x5_1), (wrap64 (x6_1 + 1)), (by first | rfl | (simp; done) | (simp [*]; done)), H', ⟨by have := HK1.out; omega⟩, ⟨by (with_reducible repeat (first | apply Kd.R_alloc | apply Kd.R_drewN | apply Kd.R_drew)); exact Kd.R_mono (Kd.R_far (p := ⟨gb1341, 1, none⟩) (Kd.R_far (p := ⟨gb1341, 0, none⟩) (Kd.R_types HO_5.out BK1341.out (by decide)) (fun _ hk => hk.2) (.int .i64 t1339)) (fun _ hk => hk.2) (.int .i64 t1340)) (fun _ hk => trivial)⟩, ⟨bz⟩⟩
    ·rw [if_neg c4] at H
     exact absurd H (by simp)
   ·rw [if_neg c3] at H
    have c3b0 := decide_eq_false c3
    clear c3
    obtain rfl := Option.some.inj H
    go_wp2
    go_ret
    exact ⟨_, by first | rfl | (simp [errW_none, errW_some] <;> rfl) | (simp [*, errW_none, errW_some] <;> rfl), by (with_reducible repeat (first | apply Kd.R_alloc | apply Kd.R_drewN | apply Kd.R_drew)); exact HO_5.out, by repeat (first | (with_reducible first | exact HB.out | apply below_alloc | apply pw_below_drewN | apply below_drew1) | exact HB.out)⟩
end
section
mutual
def Rf_Voted.l0 : Nat → List (S85) → Int → Int → Int → Option (Int × Int × Int)
  | 0, _, _, _, _ => none
  | k + 1, x0, x4, x5, x6 => if x6 < (x0.length : Int) then (if 0 ≤ x6 then ((Rf_offsets.f ((rd_T85 x0 x6).f0) ((rd_T85 x0 x6).f1) ((rd_T85 x0 x6).f2)).bind fun bt1347 => ((Rf_votes.f k x0 bt1347.1).bind fun t1349 => (if (t1349.length : Int) > x4 then (Rf_Voted.l0 k x0 (t1349.length : Int) bt1347.1 (wrap64 (x6 + 1))) else (if (t1349.length : Int) = x4 then (if bt1347.1 < x5 then (Rf_Voted.l0 k x0 (t1349.length : Int) bt1347.1 (wrap64 (x6 + 1))) else (Rf_Voted.l0 k x0 x4 x5 (wrap64 (x6 + 1)))) else (Rf_Voted.l0 k x0 x4 x5 (wrap64 (x6 + 1))))))) else (none)) else ((Rf_votes.f k x0 x5).bind fun t1352 => (Rf_Voted.l1 k x0 x4 t1352 ([] : List Int) 0))
def Rf_Voted.l1 : Nat → List (S85) → Int → List Int → List Int → Int → Option (Int × Int × Int)
  | 0, _, _, _, _, _ => none
  | k + 1, x0, x4, x9, x10, x11 => if x11 < (x0.length : Int) then ((Bs_Has.f k x9 x11).bind fun t1355 => (if t1355 = true then (Rf_Voted.l1 k x0 x4 x9 x10 (wrap64 (x11 + 1))) else (if x10.length < 17592186044416 then (Rf_Voted.l1 k x0 x4 x9 (x10 ++ [x11]) (wrap64 (x11 + 1))) else (none)))) else ((Rf_Common.f k x0 x10).bind fun bt1359 => (some (bt1359.1, bt1359.2.1, x4)))
end
def Rf_Voted.f (k : Nat) (l0 : List (S85)) : Option (Int × Int × Int) := Rf_Voted.l0 k l0 0 0 0
theorem Rf_Voted.mono_l : ∀ k, (∀ y0 y1 y2 y3, LeO (Rf_Voted.l0 k y0 y1 y2 y3) (Rf_Voted.l0 (k + 1) y0 y1 y2 y3)) ∧ (∀ y0 y1 y2 y3 y4, LeO (Rf_Voted.l1 k y0 y1 y2 y3 y4) (Rf_Voted.l1 (k + 1) y0 y1 y2 y3 y4))
  | 0 => ⟨fun _ _ _ _ r h => by simp [Rf_Voted.l0] at h, fun _ _ _ _ _ r h => by simp [Rf_Voted.l1] at h⟩
  | k + 1 => by
    obtain ⟨ih0, ih1⟩ := Rf_Voted.mono_l k
    refine ⟨?_, ?_⟩
    · intro y0 y1 y2 y3
      unfold Rf_Voted.l0
      repeat' with_reducible first
        | exact ih0 ..
        | exact ih1 ..
        | exact Bs_Has.mono ..
        | exact Rf_Common.mono ..
        | exact Rf_votes.mono ..
        | exact LeO.refl ..
        | exact LeO.none ..
        | refine LeO.ite ?_ ?_
        | refine LeO.bind ?_ (fun _ => ?_)
    · intro y0 y1 y2 y3 y4
      unfold Rf_Voted.l1
      repeat' with_reducible first
        | exact ih0 ..
        | exact ih1 ..
        | exact Bs_Has.mono ..
        | exact Rf_Common.mono ..
        | exact Rf_votes.mono ..
        | exact LeO.refl ..
        | exact LeO.none ..
        | refine LeO.ite ?_ ?_
        | refine LeO.bind ?_ (fun _ => ?_)
theorem Rf_Voted.mono : ∀ a0 k, LeO (Rf_Voted.f k a0) (Rf_Voted.f (k + 1) a0) := by
  intro a0 k
  obtain ⟨ih0, ih1⟩ := Rf_Voted.mono_l k
  unfold Rf_Voted.f
  repeat' with_reducible first
    | exact ih0 ..
    | exact ih1 ..
    | exact Bs_Has.mono ..
    | exact Rf_Common.mono ..
    | exact Rf_votes.mono ..
    | exact LeO.refl ..
    | exact LeO.none ..
    | refine LeO.ite ?_ ?_
    | refine LeO.bind ?_ (fun _ => ?_)
theorem Rf_Voted.calls (k : Nat) (A0 : Option Addr) (c0 : Nat) (l0 : List (S85)) (r1 : Int) (r2 : Int) (r3 : Int) (w : World) (hr0 : Kd.C k85 w A0 l0.length l0) (hc0 : l0.length ≤ c0) (h : Rf_Voted.f k l0 = some (r1, r2, r3)) :
    Calls Try.prog 60 #[.slice A0 l0.length c0] w fun e w' => e = .returned (.tuple #[.agg #[.int .i64 r1, .int .i64 r2], .int .i64 r3]) ∧ Below w.heap.size w w' := by
  have hu58 := Try.underlying58
  have hu85 := Try.underlying85
  have hfd58_0 : ∀ (x0_ x1_ : Value) (W_ : World), (Instr.field 58 (.agg #[x0_, x1_]) 0).run Try.prog W_ = .ok (x0_) W_ := fun _ _ _ => by kernel_rfl
  have HR0 := m0 hr0
  have HC0 := m0 hc0
  clear hr0 hc0
  have HB := m0 (Below.refl w.heap.size w)
  have H : (Rf_Voted.l0 k l0 0 0 0) = some (r1, r2, r3) := h
  clear h
  have H' := m0 H
  clear H
  go_enter Try.func60, Try.ntmps60
  go_wp2_with (first | ((with_reducible refine gate_dst (N := 2) rfl ?_); refine be 2 58 #[.int .i64 0, .int .i64 0] ?_; intro gb1345 hg w2 hbox hb; have BK1345 := m0 hbox; have GE1345 := gw w hg; replace HB := sb HB hb; clear hb hbox hg))
  go_loopg [4, 5, 6] k (fun kq v4 v5 v6 w' => ∃ (x4_1 : Int) (x5_1 : Int) (x6_1 : Int), v4 = .int .i64 x4_1 ∧ v5 = .int .i64 x5_1 ∧ v6 = .int .i64 x6_1 ∧ Aside0 (Rf_Voted.l0 kq l0 x4_1 x5_1 x6_1 = some (r1, r2, r3)) ∧ Aside0 (kq ≤ k) ∧ Aside0 (w'.heap[gb1345]? = some (.cells #[.int .i64 0, .int .i64 0] 58 (0, 0))) ∧ Aside0 (Below w.heap.size w w'))
  case atStart => exact ⟨(0), (0), (0), (by first | rfl | (simp; done) | (simp [*]; done)), (by first | rfl | (simp; done) | (simp [*]; done)), (by first | rfl | (simp; done) | (simp [*]; done)), H', ⟨Nat.le_refl _⟩, ⟨bk BK1345.out⟩, ⟨bz⟩⟩
  case round =>
    clear H'
    obtain ⟨x4_1, x5_1, x6_1, rfl, rfl, rfl, HA, HK1, BK1345, HB⟩ := hrel
    cases gk with
    | zero => exact absurd HA.out (by simp [Rf_Voted.l0])
    | succ k1 =>
      have H := HA.out
      clear HA
      simp only [Rf_Voted.l0] at H
      by_cases c3 : x6_1 < (l0.length : Int)
      · rw [if_pos c3] at H
        have c3b0 := decide_eq_true c3
        clear c3
        by_cases c4 : 0 ≤ x6_1
        · rw [if_pos c4] at H
          have c4b0 := decide_eq_true c4
          clear c4
          replace H := ob H
          obtain ⟨⟨t1347, t1348⟩, A5, H⟩ := H
          (try dsimp only at H)
          replace A5 := m0 A5
          replace H := ob H
          obtain ⟨t1349, A6, H⟩ := H
          (try dsimp only at H)
          replace A6 := m0 A6
          by_cases c7 : (t1349.length : Int) > x4_1
          · rw [if_pos c7] at H
            have c7b0 := decide_eq_true c7
            clear c7
            have H' := m0 H
            clear H
            have p1346 : 0 ≤ (x6_1 : Int) := od
            have q1346 : x6_1 < (l0.length : Int) := od
            obtain ⟨ad1346, e1346, hx1346_0, hx1346_1, hx1346_2⟩ := at_T85 HR0.out x6_1 p1346 q1346
            cases e1346
            replace hx1346_0 := (HB.out.cell (World.block_lt_of_cell? w _ hx1346_0)).trans hx1346_0
            replace hx1346_1 := (HB.out.cell (World.block_lt_of_cell? w _ hx1346_1)).trans hx1346_1
            replace hx1346_2 := (HB.out.cell (World.block_lt_of_cell? w _ hx1346_2)).trans hx1346_2
            replace p1346 := eq_true p1346
            replace q1346 := eq_true q1346
            go_wp2_with (first | ((with_reducible refine gate_callee (f := 120) rfl ?_); refine gl (some 24) Try.func120 #[.agg #[.int .i64 ((rd_T85 l0 x6_1).f0), .int .i64 ((rd_T85 l0 x6_1).f1), .int .i64 ((rd_T85 l0 x6_1).f2)]] ?_; (with_reducible refine (Rf_offsets.calls ((rd_T85 l0 x6_1).f0) ((rd_T85 l0 x6_1).f1) ((rd_T85 l0 x6_1).f2) t1347 t1348 _ A5.out).mono ?_); rintro e w8 ⟨rfl, hb⟩; refine ⟨_, rfl, ?_⟩; replace BK1345 := bb BK1345 hb; replace HB := sb HB hb; (try clear hb)) | ((with_reducible refine gate_callee (f := 121) rfl ?_); refine gl (some 28) Try.func121 #[.slice (some ad1346) l0.length c0, .int .i64 t1347] ?_; (with_reducible refine (Rf_votes.calls k1 _ _ l0 t1347 t1349 _ ?side1 ?side2 A6.out).mono ?_); (case side1 => exact cb HR0 HB); (case side2 => exact HC0.out); rintro e w9 ⟨v1350, rfl, ho0, hb⟩; refine ⟨_, rfl, ?_⟩; have HO1351 := m0 (Kd.R_lower ho0 (below_size bz)); replace BK1345 := bb BK1345 hb; replace HB := sb HB hb; (try clear hb); (try clear ho0); obtain ⟨Ao10, co10, eo10⟩ := Kd.R_slice HO1351.out; subst eo10))
            go_roundg k1
            case measure => have := HK1.out; omega
            case rel => exact ⟨((t1349.length : Int)), (t1347), (wrap64 (x6_1 + 1)), (by first | rfl | (simp; done) | (simp [*]; done)), (by first | rfl | (simp; done) | (simp [*]; done)), (by first | rfl | (simp; done) | (simp [*]; done)), H', ⟨by have := HK1.out; omega⟩, ⟨bk BK1345.out⟩, ⟨bz⟩⟩
          · rw [if_neg c7] at H
            have c7b0 := decide_eq_false c7
            clear c7
            by_cases c11 : (t1349.length : Int) = x4_1
            · rw [if_pos c11] at H
              have c11b0 := beq_iff_eq.mpr c11
              have c11b1 := bne_eq_false_iff_eq.mpr c11
              clear c11
              by_cases c12 : t1347 < x5_1
              · rw [if_pos c12] at H
                have c12b0 := decide_eq_true c12
                clear c12
                have H' := m0 H
                clear H
                have p1346 : 0 ≤ (x6_1 : Int) := od
                have q1346 : x6_1 < (l0.length : Int) := od
                obtain ⟨ad1346, e1346, hx1346_0, hx1346_1, hx1346_2⟩ := at_T85 HR0.out x6_1 p1346 q1346
                cases e1346
                replace hx1346_0 := (HB.out.cell (World.block_lt_of_cell? w _ hx1346_0)).trans hx1346_0
                replace hx1346_1 := (HB.out.cell (World.block_lt_of_cell? w _ hx1346_1)).trans hx1346_1
                replace hx1346_2 := (HB.out.cell (World.block_lt_of_cell? w _ hx1346_2)).trans hx1346_2
                replace p1346 := eq_true p1346
                replace q1346 := eq_true q1346
                go_wp2_with (first | ((with_reducible refine gate_callee (f := 120) rfl ?_); refine gl (some 24) Try.func120 #[.agg #[.int .i64 ((rd_T85 l0 x6_1).f0), .int .i64 ((rd_T85 l0 x6_1).f1), .int .i64 ((rd_T85 l0 x6_1).f2)]] ?_; (with_reducible refine (Rf_offsets.calls ((rd_T85 l0 x6_1).f0) ((rd_T85 l0 x6_1).f1) ((rd_T85 l0 x6_1).f2) t1347 t1348 _ A5.out).mono ?_); rintro e w13 ⟨rfl, hb⟩; refine ⟨_, rfl, ?_⟩; replace BK1345 := bb BK1345 hb; replace HB := sb HB hb; (try clear hb)) | ((with_reducible refine gate_callee (f := 121) rfl ?_); refine gl (some 28) Try.func121 #[.slice (some ad1346) l0.length c0, .int .i64 t1347] ?_; (with_reducible refine (Rf_votes.calls k1 _ _ l0 t1347 t1349 _ ?side1 ?side2 A6.out).mono ?_); (case side1 => exact cb HR0 HB); (case side2 => exact HC0.out); rintro e w14 ⟨v1350, rfl, ho0, hb⟩; refine ⟨_, rfl, ?_⟩; have HO1351 := m0 (Kd.R_lower ho0 (below_size bz)); replace BK1345 := bb BK1345 hb; replace HB := sb HB hb; (try clear hb); (try clear ho0); obtain ⟨Ao15, co15, eo15⟩ := Kd.R_slice HO1351.out; subst eo15))
                go_roundg k1
                case measure => have := HK1.out; omega
                case rel => exact ⟨((t1349.length : Int)), (t1347), (wrap64 (x6_1 + 1)), (by first | rfl | (simp; done) | (simp [*]; done)), (by first | rfl | (simp; done) | (simp [*]; done)), (by first | rfl | (simp; done) | (simp [*]; done)), H', ⟨by have := HK1.out; omega⟩, ⟨bk BK1345.out⟩, ⟨bz⟩⟩
              · rw [if_neg c12] at H
                have c12b0 := decide_eq_false c12
                clear c12
                have H' := m0 H
                clear H
                have p1346 : 0 ≤ (x6_1 : Int) := od
                have q1346 : x6_1 < (l0.length : Int) := od
                obtain ⟨ad1346, e1346, hx1346_0, hx1346_1, hx1346_2⟩ := at_T85 HR0.out x6_1 p1346 q1346
                cases e1346
                replace hx1346_0 := (HB.out.cell (World.block_lt_of_cell? w _ hx1346_0)).trans hx1346_0
                replace hx1346_1 := (HB.out.cell (World.block_lt_of_cell? w _ hx1346_1)).trans hx1346_1
                replace hx1346_2 := (HB.out.cell (World.block_lt_of_cell? w _ hx1346_2)).trans hx1346_2
                replace p1346 := eq_true p1346
                replace q1346 := eq_true q1346
                go_wp2_with (first | ((with_reducible refine gate_callee (f := 120) rfl ?_); refine gl (some 24) Try.func120 #[.agg #[.int .i64 ((rd_T85 l0 x6_1).f0), .int .i64 ((rd_T85 l0 x6_1).f1), .int .i64 ((rd_T85 l0 x6_1).f2)]] ?_; (with_reducible refine (Rf_offsets.calls ((rd_T85 l0 x6_1).f0) ((rd_T85 l0 x6_1).f1) ((rd_T85 l0 x6_1).f2) t1347 t1348 _ A5.out).mono ?_); rintro e w16 ⟨rfl, hb⟩; refine ⟨_, rfl, ?_⟩; replace BK1345 := bb BK1345 hb; replace HB := sb HB hb; (try clear hb)) | ((with_reducible refine gate_callee (f := 121) rfl ?_); refine gl (some 28) Try.func121 #[.slice (some ad1346) l0.length c0, .int .i64 t1347] ?_; (with_reducible refine (Rf_votes.calls k1 _ _ l0 t1347 t1349 _ ?side1 ?side2 A6.out).mono ?_); (case side1 => exact cb HR0 HB); (case side2 => exact HC0.out); rintro e w17 ⟨v1350, rfl, ho0, hb⟩; refine ⟨_, rfl, ?_⟩; have HO1351 := m0 (Kd.R_lower ho0 (below_size bz)); replace BK1345 := bb BK1345 hb; replace HB := sb HB hb; (try clear hb); (try clear ho0); obtain ⟨Ao18, co18, eo18⟩ := Kd.R_slice HO1351.out; subst eo18))
                go_roundg k1
                case measure => have := HK1.out; omega
                case rel => exact ⟨(x4_1), (x5_1), (wrap64 (x6_1 + 1)), (by first | rfl | (simp; done) | (simp [*]; done)), (by first | rfl | (simp; done) | (simp [*]; done)), (by first | rfl | (simp; done) | (simp [*]; done)), H', ⟨by have := HK1.out; omega⟩, ⟨bk BK1345.out⟩, ⟨bz⟩⟩
            · rw [if_neg c11] at H
              have c11b0 := beq_eq_false_iff_ne.mpr c11
              have c11b1 := bne_iff_ne.mpr c11
              have H' := m0 H
              clear H
              have p1346 : 0 ≤ (x6_1 : Int) := od
              have q1346 : x6_1 < (l0.length : Int) := od
              obtain ⟨ad1346, e1346, hx1346_0, hx1346_1, hx1346_2⟩ := at_T85 HR0.out x6_1 p1346 q1346
              cases e1346
              replace hx1346_0 := (HB.out.cell (World.block_lt_of_cell? w _ hx1346_0)).trans hx1346_0
              replace hx1346_1 := (HB.out.cell (World.block_lt_of_cell? w _ hx1346_1)).trans hx1346_1
              replace hx1346_2 := (HB.out.cell (World.block_lt_of_cell? w _ hx1346_2)).trans hx1346_2
              replace p1346 := eq_true p1346
              replace q1346 := eq_true q1346
              go_wp2_with (first | ((with_reducible refine gate_callee (f := 120) rfl ?_); refine gl (some 24) Try.func120 #[.agg #[.int .i64 ((rd_T85 l0 x6_1).f0), .int .i64 ((rd_T85 l0 x6_1).f1), .int .i64 ((rd_T85 l0 x6_1).f2)]] ?_; (with_reducible refine (Rf_offsets.calls ((rd_T85 l0 x6_1).f0) ((rd_T85 l0 x6_1).f1) ((rd_T85 l0 x6_1).f2) t1347 t1348 _ A5.out).mono ?_); rintro e w19 ⟨rfl, hb⟩; refine ⟨_, rfl, ?_⟩; replace BK1345 := bb BK1345 hb; replace HB := sb HB hb; (try clear hb)) | ((with_reducible refine gate_callee (f := 121) rfl ?_); refine gl (some 28) Try.func121 #[.slice (some ad1346) l0.length c0, .int .i64 t1347] ?_; (with_reducible refine (Rf_votes.calls k1 _ _ l0 t1347 t1349 _ ?side1 ?side2 A6.out).mono ?_); (case side1 => exact cb HR0 HB); (case side2 => exact HC0.out); rintro e w20 ⟨v1350, rfl, ho0, hb⟩; refine ⟨_, rfl, ?_⟩; have HO1351 := m0 (Kd.R_lower ho0 (below_size bz)); replace BK1345 := bb BK1345 hb; replace HB := sb HB hb; (try clear hb); (try clear ho0); obtain ⟨Ao21, co21, eo21⟩ := Kd.R_slice HO1351.out; subst eo21))
              go_roundg k1
              case measure => have := HK1.out; omega
              case rel => exact ⟨(x4_1), (x5_1), (wrap64 (x6_1 + 1)), (by first | rfl | (simp; done) | (simp [*]; done)), (by first | rfl | (simp; done) | (simp [*]; done)), (by first | rfl | (simp; done) | (simp [*]; done)), H', ⟨by have := HK1.out; omega⟩, ⟨bk BK1345.out⟩, ⟨bz⟩⟩
        · rw [if_neg c4] at H
          exact absurd H (by simp)
      · rw [if_neg c3] at H
        have c3b0 := decide_eq_false c3
        clear c3
        replace H := ob H
        obtain ⟨t1352, A22, H⟩ := H
        (try dsimp only at H)
        replace A22 := m0 A22
        have H' := m0 H
        clear H
        go_wp2_with (first | ((with_reducible refine gate_callee (f := 121) rfl ?_); refine gl (some 47) Try.func121 #[.slice A0 l0.length c0, .int .i64 x5_1] ?_; (with_reducible refine (Rf_votes.calls k1 _ _ l0 x5_1 t1352 _ ?side1 ?side2 A22.out).mono ?_); (case side1 => exact cb HR0 HB); (case side2 => exact HC0.out); rintro e w23 ⟨v1353, rfl, ho0, hb⟩; refine ⟨_, rfl, ?_⟩; have HO1354 := m0 (Kd.R_lower ho0 (below_size bz)); replace BK1345 := bb BK1345 hb; replace HB := sb HB hb; (try clear hb); (try clear ho0)))
        go_loopg [10, 11] k1 (fun kq v10 v11 w' => ∃ (x10_2 : List Int) (x11_2 : Int), v11 = .int .i64 x11_2 ∧ Aside0 (Rf_Voted.l1 kq l0 x4_1 t1352 x10_2 x11_2 = some (r1, r2, r3)) ∧ Aside0 (kq ≤ k1) ∧ Aside0 (Kd.R (Kd.int .i64) 3 w' w.heap.size (fun k_ => some k_ ≠ (v10 : Value).ownBlock) v1353 t1352) ∧ Aside0 (Kd.R (Kd.int .i64) 3 w' w.heap.size (fun k_ => some k_ ≠ (v1353 : Value).ownBlock) v10 x10_2) ∧ Aside0 (w'.heap[gb1345]? = some (.cells #[.int .i64 0, .int .i64 0] 58 (0, 0))) ∧ Aside0 (Below w.heap.size w w'))
        case atStart => exact ⟨(([] : List Int)), (0), (by first | rfl | (simp; done) | (simp [*]; done)), H', ⟨Nat.le_refl _⟩, ⟨by (with_reducible repeat (first | apply Kd.R_alloc | apply Kd.R_drewN | apply Kd.R_drew)); exact Kd.R_mono HO1354.out (fun _ hk => (by simp [Value.ownBlock]))⟩, ⟨by first | exact Kd.R_nil _ _ _ _ _ | exact Kd.N_nil _ _ _ _ _ | exact Kd.V_nil _ _ _ _ _ | exact Kd.Q_nil _ _ _ _ _ | exact Kd.S_nil _ _ _ _ _⟩, ⟨bk BK1345.out⟩, ⟨bz⟩⟩
        case round =>
          clear H'
          try clear hx1
          try clear hx13
          try clear hx1346_0
          try clear hx1346_1
          try clear hx1346_2
          obtain ⟨x10_2, x11_2, rfl, HA, HK2, HO_9, HO_10, BK1345, HB⟩ := hrel
          cases gk with
          | zero => exact absurd HA.out (by simp [Rf_Voted.l1])
          | succ k2 =>
            have H := HA.out
            clear HA
            simp only [Rf_Voted.l1] at H
            by_cases c24 : x11_2 < (l0.length : Int)
            · rw [if_pos c24] at H
              have c24b0 := decide_eq_true c24
              clear c24
              replace H := ob H
              obtain ⟨t1355, A25, H⟩ := H
              (try dsimp only at H)
              replace A25 := m0 A25
              by_cases c26 : t1355 = true
              · subst c26
                rw [if_pos rfl] at H
                have H' := m0 H
                clear H
                obtain ⟨Ao27, co27, eo27⟩ := Kd.R_slice HO_9.out
                subst eo27
                go_wp2_with (first | ((with_reducible refine gate_callee (f := 119) rfl ?_); refine gl (some 56) Try.func119 #[.slice Ao27 t1352.length co27, .int .i64 x11_2] ?_; (with_reducible refine (Bs_Has.calls k2 _ _ t1352 x11_2 true _ ?side1 ?side2 A25.out).mono ?_); (case side1 => exact bc (Kd.R_reads' HO_9.out).2.2); (case side2 => exact (Kd.R_reads' HO_9.out).2.1); rintro e w' ⟨rfl, ⟨nd, rfl⟩⟩; refine ⟨_, rfl, ?_⟩))
                go_roundg k2
                case measure => have := HK1.out; have := HK2.out; omega
                case rel => exact ⟨(x10_2), (wrap64 (x11_2 + 1)), (by first | rfl | (simp; done) | (simp [*]; done)), H', ⟨by have := HK1.out; have := HK2.out; omega⟩, ⟨br HO_9.out⟩, ⟨br HO_10.out⟩, ⟨bk BK1345.out⟩, ⟨bz⟩⟩
              · replace c26 := Bool.eq_false_iff.mpr c26
                subst c26
                rw [if_neg (show ¬ (false = true) by decide)] at H
                by_cases c28 : x10_2.length < 17592186044416
                · rw [if_pos c28] at H
                  have LMc28 := m0 c28
                  clear c28
                  obtain ⟨y1356, hy1356⟩ : ∃ y_ : List Int, y_ = (x10_2 ++ [x11_2]) := ⟨_, rfl⟩
                  replace H : (Rf_Voted.l1 k2 l0 x4_1 t1352 y1356 (wrap64 (x11_2 + 1))) = some (r1, r2, r3) := by first | (rw [hy1356]; with_reducible exact H) | (have H2_ := (Option.bind_some _ _).symm.trans H; rw [hy1356]; with_reducible exact H2_) | (have H2_ := (Option.bind_some _ _).symm.trans H; with_reducible exact H2_) | with_reducible exact H | (rw [hy1356]; exact H) | exact H
                  have Ny1356 := m0 hy1356
                  clear hy1356
                  have H' := m0 H
                  clear H
                  obtain ⟨Ao29, co29, eo29⟩ := Kd.R_slice HO_9.out
                  subst eo29
                  go_wp2_with (first | ((with_reducible refine gate_callee (f := 119) rfl ?_); refine gl (some 56) Try.func119 #[.slice Ao29 t1352.length co29, .int .i64 x11_2] ?_; (with_reducible refine (Bs_Has.calls k2 _ _ t1352 x11_2 false _ ?side1 ?side2 A25.out).mono ?_); (case side1 => exact bc (Kd.R_reads' HO_9.out).2.2); (case side2 => exact (Kd.R_reads' HO_9.out).2.1); rintro e w' ⟨rfl, ⟨nd, rfl⟩⟩; refine ⟨_, rfl, ?_⟩) | ((with_reducible refine gate_builtin (b := .append) (xs := #[.tmp 58, .tmp 60]) rfl ?_); at_builtin; refine Kd.R_append (Kd.int .i64) (w0 := w) w.heap.size rfl (.tmp 58) (.tmp 60) 28 3 (.int .i64 0) 8 rfl Try.underlying28 info3 rfl (by decide) (by omega) u10 x10_2 x11_2 [.int .i64 x11_2] (fun k_ => some k_ ≠ (.slice Ao29 t1352.length co29 : Value).ownBlock) (fun _ => False) rfl rfl ?aP (fun _ hk => hk.elim) ?aF ?aO ?aB ?aS ?aL ?_; (case aP => exact rfl); (case aB => exact bz); (case aF => exact (fun k_ hk => Kd.fresh' (Kd.R_lt (br HO_9.out)) k_ hk)); (case aO => exact (br HO_10.out)); (case aS => exact (below_size bz)); (case aL => have := LMc28.out; omega); intro v1357 w30 ho hb hg hat; rw [← Ny1356.out] at ho; have n0_ := m0 (Kd.R_after (ok := (fun _ => True)) (by (with_reducible repeat (first | apply Kd.R_alloc | apply Kd.R_drewN | apply Kd.R_drew)); exact Kd.R_mono HO_9.out (fun _ hk => ⟨trivial, hk⟩)) hg hat); have n1_ := m0 (blk_grown (g := gb1345) (o := .cells #[.int .i64 0, .int .i64 0] 58 (0, 0)) (bk BK1345.out) hg (Kd.R_ne HO_10.out BK1345.out (by decide))); have n2_ := m0 (hb); have n3_ := m0 (ho); clear HO_9; clear BK1345; clear HB; clear HO_10; have HO_9 := n0_; have BK1345 := n1_; have HB := n2_; have HO1358 := n3_; clear n0_ n1_ n2_ n3_; clear ho hb hg hat))
                  go_roundg k2
                  case measure => have := HK1.out; have := HK2.out; omega
                  case rel => exact ⟨(y1356), (wrap64 (x11_2 + 1)), (by first | rfl | (simp; done) | (simp [*]; done)), H', ⟨by have := HK1.out; have := HK2.out; omega⟩, ⟨by (with_reducible repeat (first | apply Kd.R_alloc | apply Kd.R_drewN | apply Kd.R_drew)); exact Kd.R_mono HO_9.out (fun _ hk => hk.2)⟩, ⟨br HO1358.out⟩, ⟨bk BK1345.out⟩, ⟨bz⟩⟩
                · rw [if_neg c28] at H
                  exact absurd H (by simp)
            · rw [if_neg c24] at H
              have c24b0 := decide_eq_false c24
              clear c24
              replace H := ob H
              obtain ⟨⟨t1359, t1360, t1361⟩, A31, H⟩ := H
              (try dsimp only at H)
              replace A31 := m0 A31
              simp only [Option.some.injEq, Prod.mk.injEq] at H
              obtain ⟨rfl, rfl, rfl⟩ := H
              obtain ⟨Ao32, co32, eo32⟩ := Kd.R_slice HO_10.out
              subst eo32
              go_wp2_with (first | ((with_reducible refine gate_callee (f := 59) rfl ?_); refine gl (some 65) Try.func59 #[.slice A0 l0.length c0, .slice Ao32 x10_2.length co32] ?_; (with_reducible refine (Rf_Common.calls k2 _ _ l0 _ _ x10_2 t1359 t1360 t1361 _ ?side1 ?side2 ?side3 ?side4 A31.out).mono ?_); (case side1 => exact cb HR0 HB); (case side2 => exact HC0.out); (case side3 => exact bc (Kd.R_reads' HO_10.out).2.2); (case side4 => exact (Kd.R_reads' HO_10.out).2.1); rintro e w33 ⟨rfl, hb⟩; refine ⟨_, rfl, ?_⟩; replace HO_9 := rb HO_9 hb; replace HO_10 := rb HO_10 hb; replace BK1345 := bb BK1345 hb; replace HB := sb HB hb; (try clear hb)) | ((with_reducible refine gate_dst (N := 12) rfl ?_); refine be 12 58 #[.int .i64 0, .int .i64 0] ?_; intro gb1362 hg w34 hbox hb; replace HO_9 := rb HO_9 hb; replace HO_10 := rb HO_10 hb; have BK1362 := m0 hbox; have GE1362 := gw w hg; replace HB := sb HB hb; have NB1345_1362 := nl BK1345 hg; have NB1362_1345 := ng (nl BK1345 hg); replace BK1345 := bb BK1345 hb; clear hb hbox hg; have hnb35 := NB1362_1345.out; have hnc35 := NB1345_1362.out; obtain ⟨_, _, _, _⟩ := b2 BK1362; obtain ⟨_, _, _, _⟩ := b2 BK1345))
              refine bodyPost_ret (results_ct rfl _ _ gb1345 58 #[.int .i64 t1359, .int .i64 t1360] (0, 0) _ rfl (by (with_reducible repeat (first | refine blk_drewN ?_ _ | refine blk_drew ?_ | refine blk_alloc ?_ _)); refine blk_put (cs := #[.int .i64 t1359, .int .i64 0]) ?_ 1 _ rfl; (with_reducible repeat (first | refine blk_drewN ?_ _ | refine blk_drew ?_ | refine blk_alloc ?_ _)); refine blk_put (cs := #[.int .i64 0, .int .i64 0]) ?_ 0 _ rfl; (with_reducible repeat (first | refine blk_drewN ?_ _ | refine blk_drew ?_ | refine blk_alloc ?_ _)); refine blk_far ?_ NB1345_1362.out _; (with_reducible repeat (first | refine blk_drewN ?_ _ | refine blk_drew ?_ | refine blk_alloc ?_ _)); refine blk_far ?_ NB1345_1362.out _; (with_reducible repeat (first | refine blk_drewN ?_ _ | refine blk_drew ?_ | refine blk_alloc ?_ _)); exact BK1345.out) Try.underlying58 rfl (by kernel_rfl)) rfl ?_
              exact ez
end
end Go.Proofs.Ytibhfahbabgbaaa.A
