/- Walks of the program's functions (printed, made shorter), each with what it computes. -/
import Derived.Test.YteiafijbgjgiaaaB10
namespace Go.Proofs.Yteiafijbgjgiaaa.A
set_option maxHeartbeats 8000000
set_option maxRecDepth 100000
open Go.RowKit Go.Proofs.YteiafijbgjgiaaaW.PrintWords Go.Proofs.YteiafijbgjgiaaaW.PrintLast Go.Proofs.YteiafijbgjgiaaaW.PrintMore
attribute [local go_sem] max2_int min2_int max_two min_two max_three min_three max_four min_four
set_option linter.unusedVariables false
set_option linter.unusedSimpArgs false
section
mutual
def api_CloudLayer_CeilingOf_1_175.l0 : Nat → List (S112) → Int → Int → Int → Option ((List (S112)))
  | 0, _, _, _, _ => none
  | k + 1, x0, x1, x2, x8 => if x8 < x2 then (api_CloudLayer_CeilingOf_1_175.l1 k x0 x1 x2 x8 x8) else (some x0)
def api_CloudLayer_CeilingOf_1_175.l1 : Nat → List (S112) → Int → Int → Int → Int → Option ((List (S112)))
  | 0, _, _, _, _, _ => none
  | k + 1, x0, x1, x2, x8, x9 => if x9 > x1 then (if 0 ≤ x9 then (if x9 < (x0.length : Int) then (if 0 ≤ (wrap64 (x9 - 1)) then (if (wrap64 (x9 - 1)) < (x0.length : Int) then ((L_CeilingOf_1.f ((rd_T112 x0 x9).f0) ((rd_T112 x0 x9).f1) ((rd_T112 x0 x9).f2) ((rd_T112 x0 (wrap64 (x9 - 1))).f0) ((rd_T112 x0 (wrap64 (x9 - 1))).f1) ((rd_T112 x0 (wrap64 (x9 - 1))).f2)).bind fun t216 => (if t216 < 0 then (api_CloudLayer_CeilingOf_1_175.l1 k ((x0.set (x9 : Int).toNat (⟨(rd_T112 x0 (wrap64 (x9 - 1))).f0, (rd_T112 x0 (wrap64 (x9 - 1))).f1, (rd_T112 x0 (wrap64 (x9 - 1))).f2⟩ : S112)).set ((wrap64 (x9 - 1)) : Int).toNat (⟨(rd_T112 x0 x9).f0, (rd_T112 x0 x9).f1, (rd_T112 x0 x9).f2⟩ : S112)) x1 x2 x8 (wrap64 (x9 - 1))) else (api_CloudLayer_CeilingOf_1_175.l0 k x0 x1 x2 (wrap64 (x8 + 1))))) else (none)) else (none)) else (none)) else (none)) else (api_CloudLayer_CeilingOf_1_175.l0 k x0 x1 x2 (wrap64 (x8 + 1)))
end
def api_CloudLayer_CeilingOf_1_175.f (k : Nat) (l0 : List (S112)) (a1 : Int) (a2 : Int)  : Option ((List (S112))) := api_CloudLayer_CeilingOf_1_175.l0 k l0 a1 a2 (wrap64 (a1 + 1))
theorem api_CloudLayer_CeilingOf_1_175.mono_l : ∀ k, (∀ y0 y1 y2 y3, LeO (api_CloudLayer_CeilingOf_1_175.l0 k y0 y1 y2 y3) (api_CloudLayer_CeilingOf_1_175.l0 (k + 1) y0 y1 y2 y3)) ∧ (∀ y0 y1 y2 y3 y4, LeO (api_CloudLayer_CeilingOf_1_175.l1 k y0 y1 y2 y3 y4) (api_CloudLayer_CeilingOf_1_175.l1 (k + 1) y0 y1 y2 y3 y4))
  | 0 => ⟨fun _ _ _ _ r h => by simp [api_CloudLayer_CeilingOf_1_175.l0] at h, fun _ _ _ _ _ r h => by simp [api_CloudLayer_CeilingOf_1_175.l1] at h⟩
  | k + 1 => by
    obtain ⟨ih0, ih1⟩ := api_CloudLayer_CeilingOf_1_175.mono_l k; refine ⟨?_, ?_⟩
    · intro y0 y1 y2 y3; unfold api_CloudLayer_CeilingOf_1_175.l0
      repeat' with_reducible first
        | exact ih0 ..
        | exact ih1 ..
        | exact LeO.refl ..
        | exact LeO.none ..
        | refine LeO.ite ?_ ?_
        | refine LeO.bind ?_ (fun _ => ?_)
    · intro y0 y1 y2 y3 y4; unfold api_CloudLayer_CeilingOf_1_175.l1
      repeat' with_reducible first
        | exact ih0 ..
        | exact ih1 ..
        | exact LeO.refl ..
        | exact LeO.none ..
        | refine LeO.ite ?_ ?_
        | refine LeO.bind ?_ (fun _ => ?_)
theorem api_CloudLayer_CeilingOf_1_175.mono : ∀ a0 a1 a2 k, LeO (api_CloudLayer_CeilingOf_1_175.f k a0 a1 a2) (api_CloudLayer_CeilingOf_1_175.f (k + 1) a0 a1 a2) := by
  intro a0 a1 a2 k; obtain ⟨ih0, ih1⟩ := api_CloudLayer_CeilingOf_1_175.mono_l k; unfold api_CloudLayer_CeilingOf_1_175.f
  repeat' with_reducible first
    | exact ih0 ..
    | exact ih1 ..
    | exact LeO.refl ..
    | exact LeO.none ..
    | refine LeO.ite ?_ ?_
    | refine LeO.bind ?_ (fun _ => ?_)
def api_CloudLayer_CeilingOf_1_175.T4 : Bool × List (List Nat × List Nat) := (true, [([], []), ([], []), ([0, 1], [0, 1]), ([2], [2]), ([3], [3]), ([3], [3]), ([3], [3]), ([5, 6, 3], [3, 5, 6]), ([7, 3], [3, 7]), ([3], [3]), ([3], [3]), ([10, 3], [3, 10]), ([9, 11, 3], [3, 9, 11]), ([12, 3], [3, 12]), ([4, 8, 13, 3, 3], [3, 4, 8, 13]), ([14, 3], [3, 14]), ([3, 15], [3, 15])])
def api_CloudLayer_CeilingOf_1_175.B4 : List Nat := [0, 0, 3, 7, 15, 15, 15, 111, 239, 15, 15, 1039, 3599, 7695, 16383, 32767, 65535]
theorem api_CloudLayer_CeilingOf_1_175.tab4 : rtab .any (opsOf Try.f142 4) = api_CloudLayer_CeilingOf_1_175.T4 := by kernel_rfl
theorem api_CloudLayer_CeilingOf_1_175.bits4 : waitsOk api_CloudLayer_CeilingOf_1_175.T4.2 api_CloudLayer_CeilingOf_1_175.B4 = true := by kernel_rfl
def api_CloudLayer_CeilingOf_1_175.T6 : Bool × List (List Nat × List Nat) := (true, [([], []), ([], []), ([], []), ([], []), ([3], [3]), ([], []), ([], []), ([6], [6]), ([5, 7], [5, 7]), ([8], [8]), ([], []), ([], []), ([10, 11], [10, 11]), ([12], [12]), ([0, 1, 0, 1, 5, 6, 7, 8, 9, 13], [0, 1]), ([14, 9, 0, 1, 5, 6, 7, 8, 9, 13], [9, 14]), ([2, 4, 0, 1, 2, 3, 4, 5, 6, 7, 8, 9, 10, 11, 12, 13, 14, 15], [2, 4]), ([16, 13, 15, 0, 1, 2, 3, 4, 5, 6, 7, 8, 9, 10, 11, 12, 13, 14, 15], [13, 16])])
def api_CloudLayer_CeilingOf_1_175.B6 : List Nat := [0, 0, 0, 0, 8, 0, 0, 64, 224, 480, 0, 0, 3072, 7168, 16355, 32739, 65535, 131071]
theorem api_CloudLayer_CeilingOf_1_175.tab6 : rtab .any (opsOf Try.f142 6) = api_CloudLayer_CeilingOf_1_175.T6 := by kernel_rfl
theorem api_CloudLayer_CeilingOf_1_175.bits6 : waitsOk api_CloudLayer_CeilingOf_1_175.T6.2 api_CloudLayer_CeilingOf_1_175.B6 = true := by kernel_rfl
theorem api_CloudLayer_CeilingOf_1_175.calls (k : Nat) (P0_ : Nat → Prop) (u9000_ : Value) (l0 : List (S112)) (a1 : Int) (a2 : Int)  (r : List (S112)) (w0 w : World) (hB : Below w0.heap.size w0 w) (ho0 : Kd.R k112 112 w w0.heap.size P0_ u9000_ l0) (H : api_CloudLayer_CeilingOf_1_175.f k l0 a1 a2 = some r) :
    Calls Try.prog 142 #[u9000_, .int .i64 a1, .int .i64 a2, .func (.func 78) #[] #[]] w fun e w' => e = .returned (.tuple #[]) ∧ Kd.R k112 112 w' w0.heap.size (fun k_ => (P0_ k_ ∨ w.heap.size ≤ k_)) u9000_ r ∧ Below w0.heap.size w0 w' ∧ Kept w w' (fun k_ => P0_ k_) := by
  have hu112 := Try.underlying112; have HO0 := m0 (show Kd.R k112 112 w w0.heap.size (fun k_ => (P0_ k_ ∨ w.heap.size ≤ k_)) u9000_ l0 from Kd.R_mono ho0 (fun k_ hk => (.inl hk))); have HK := m0 (Kept.refl w (fun k_ => P0_ k_)); have HW0 := m0 hB.size; have HB := m0 hB; clear hB; unfold api_CloudLayer_CeilingOf_1_175.f at H; have H' := m0 H; clear H; go_enter Try.func142, Try.ntmps142
  go_wp2
  (try simp only [Act.put, List.setIfInBounds_toArray, List.set_cons_zero, List.set_cons_succ])
  go_loopg [8] k (fun kq v8 w' => ∃ (x0_1 : List (S112)) (x8_1 : Int), v8 = .int .i64 x8_1 ∧ Aside0 (api_CloudLayer_CeilingOf_1_175.l0 kq x0_1 a1 a2 x8_1 = some r) ∧ Aside0 (kq ≤ k) ∧ Aside0 (Kd.R k112 112 w' w0.heap.size (fun k_ => (P0_ k_ ∨ w.heap.size ≤ k_)) u9000_ x0_1) ∧ Aside0 (Kept w w' (fun k_ => P0_ k_)) ∧ Aside0 (Below w0.heap.size w0 w'))
  case atStart => exact ⟨(l0), (wrap64 (a1 + 1)), rz, H', ⟨Nat.le_refl _⟩, ⟨br HO0.out⟩, ⟨by repeat (first | (with_reducible first | exact HK.out | apply Kept.alloc | apply Kept.drewN | apply Kept.drew) | exact HK.out)⟩, ⟨bz⟩⟩
  case round =>
    clear H'; obtain ⟨x0_1, x8_1, rfl, HA, HK1, HO_0, HK, HB⟩ := hrel
    cases gk with
    | zero => exact absurd HA.out (by simp [api_CloudLayer_CeilingOf_1_175.l0])
    | succ k1 =>
      have H := HA.out; clear HA; simp only [api_CloudLayer_CeilingOf_1_175.l0] at H
      by_cases c5 : x8_1 < a2
      · rw [if_pos c5] at H; have c5b0 := decide_eq_true c5; clear c5; have H' := m0 H; clear H
        go_wp2
        (try simp only [Act.put, List.setIfInBounds_toArray, List.set_cons_zero, List.set_cons_succ])
        go_loopg [9] k1 (fun kq v9 w' => ∃ (x0_2 : List (S112)) (x9_2 : Int), v9 = .int .i64 x9_2 ∧ Aside0 (api_CloudLayer_CeilingOf_1_175.l1 kq x0_2 a1 a2 x8_1 x9_2 = some r) ∧ Aside0 (kq ≤ k1) ∧ Aside0 (Kd.R k112 112 w' w0.heap.size (fun k_ => (P0_ k_ ∨ w.heap.size ≤ k_)) u9000_ x0_2) ∧ Aside0 (Kept w w' (fun k_ => P0_ k_)) ∧ Aside0 (Below w0.heap.size w0 w'))
        case atStart => exact ⟨(x0_1), (x8_1), rz, H', ⟨Nat.le_refl _⟩, ⟨br HO_0.out⟩, ⟨by repeat (first | (with_reducible first | exact HK.out | apply Kept.alloc | apply Kept.drewN | apply Kept.drew) | exact HK.out)⟩, ⟨bz⟩⟩
        case round =>
          clear H'; obtain ⟨x0_2, x9_2, rfl, HA, HK2, HO_0, HK, HB⟩ := hrel
          cases gk with
          | zero => exact absurd HA.out (by simp [api_CloudLayer_CeilingOf_1_175.l1])
          | succ k2 =>
            have H := HA.out; clear HA; simp only [api_CloudLayer_CeilingOf_1_175.l1] at H
            by_cases c6 : x9_2 > a1
            · rw [if_pos c6] at H; have c6b0 := decide_eq_true c6; clear c6
              by_cases c7 : 0 ≤ x9_2
              · rw [if_pos c7] at H; have c7b0 := decide_eq_true c7; clear c7
                by_cases c8 : x9_2 < (x0_2.length : Int)
                · rw [if_pos c8] at H; have c8b0 := decide_eq_true c8; clear c8; obtain ⟨ji9, hji9⟩ : ∃ j_ : Int, (wrap64 (x9_2 - 1)) = j_ := ⟨_, rfl⟩; replace H : (if 0 ≤ (ji9) then (if (ji9) < (x0_2.length : Int) then ((L_CeilingOf_1.f ((rd_T112 x0_2 x9_2).f0) ((rd_T112 x0_2 x9_2).f1) ((rd_T112 x0_2 x9_2).f2) ((rd_T112 x0_2 (ji9)).f0) ((rd_T112 x0_2 (ji9)).f1) ((rd_T112 x0_2 (ji9)).f2)).bind fun t216 => (if t216 < 0 then (api_CloudLayer_CeilingOf_1_175.l1 k2 ((x0_2.set (x9_2 : Int).toNat (⟨(rd_T112 x0_2 (ji9)).f0, (rd_T112 x0_2 (ji9)).f1, (rd_T112 x0_2 (ji9)).f2⟩ : S112)).set ((ji9) : Int).toNat (⟨(rd_T112 x0_2 x9_2).f0, (rd_T112 x0_2 x9_2).f1, (rd_T112 x0_2 x9_2).f2⟩ : S112)) a1 a2 x8_1 ji9) else (api_CloudLayer_CeilingOf_1_175.l0 k2 x0_2 a1 a2 (wrap64 (x8_1 + 1))))) else (none)) else (none)) = some r := by first | (rw [hji9] at H; exact H) | (simp only [hji9] at H ⊢; exact H)
                  have hji9w : (IntKind.i64.wrap (x9_2 - 1)) = ji9 := (i64_w _).trans hji9
                  by_cases c10 : 0 ≤ (ji9)
                  · rw [if_pos c10] at H; have c10b0 := decide_eq_true c10; clear c10
                    by_cases c11 : (ji9) < (x0_2.length : Int)
                    · rw [if_pos c11] at H; have c11b0 := decide_eq_true c11; clear c11; replace H := oa H; obtain ⟨t216, A12, H⟩ := H; (try dsimp only at H)
                      by_cases c13 : t216 < 0
                      · rw [if_pos c13] at H; have c13b0 := decide_eq_true c13; clear c13; obtain ⟨y219, hy219⟩ : ∃ y_ : List (S112), y_ = (x0_2.set (x9_2 : Int).toNat (⟨(rd_T112 x0_2 (ji9)).f0, (rd_T112 x0_2 (ji9)).f1, (rd_T112 x0_2 (ji9)).f2⟩ : S112)) := ⟨_, rfl⟩; replace H : (api_CloudLayer_CeilingOf_1_175.l1 k2 (y219.set ((ji9) : Int).toNat (⟨(rd_T112 x0_2 x9_2).f0, (rd_T112 x0_2 x9_2).f1, (rd_T112 x0_2 x9_2).f2⟩ : S112)) a1 a2 x8_1 ji9) = some r := by first | (rw [hy219]; with_reducible exact H) | (have H2_ := (Option.bind_some _ _).symm.trans H; rw [hy219]; with_reducible exact H2_) | (have H2_ := (Option.bind_some _ _).symm.trans H; with_reducible exact H2_) | with_reducible exact H | (rw [hy219]; exact H) | exact H
                        have Ny219 := m0 hy219; clear hy219; obtain ⟨y220, hy220⟩ : ∃ y_ : List (S112), y_ = (y219.set ((ji9) : Int).toNat (⟨(rd_T112 x0_2 x9_2).f0, (rd_T112 x0_2 x9_2).f1, (rd_T112 x0_2 x9_2).f2⟩ : S112)) := ⟨_, rfl⟩; replace H : (api_CloudLayer_CeilingOf_1_175.l1 k2 y220 a1 a2 x8_1 ji9) = some r := by first | (rw [hy220]; with_reducible exact H) | (have H2_ := (Option.bind_some _ _).symm.trans H; rw [hy220]; with_reducible exact H2_) | (have H2_ := (Option.bind_some _ _).symm.trans H; with_reducible exact H2_) | with_reducible exact H | (rw [hy220]; exact H) | exact H
                        have Ny220 := m0 hy220; clear hy220; have H' := m0 H; clear H
                        try go_wp2
                        replace HO_0 := m0 (Kd.R_drew HO_0.out); replace HK := m0 (Kept.drew HK.out); replace HB := sd HB; obtain ⟨Ao17, co17, eo17⟩ := Kd.R_slice HO_0.out; subst eo17; have p214 : 0 ≤ (x9_2 : Int) := od; have q214 : x9_2 < (x0_2.length : Int) := od; obtain ⟨ad214, e214, hx214_0, hx214_1, hx214_2⟩ := at_T112 (Kd.R_reads' HO_0.out).2.2 x9_2 p214 q214
                        cases e214
                        replace p214 := eq_true p214; replace q214 := eq_true q214; have p215 : 0 ≤ ((ji9) : Int) := od; have q215 : (ji9) < (x0_2.length : Int) := od; obtain ⟨ad215, e215, hx215_0, hx215_1, hx215_2⟩ := at_T112 (Kd.R_reads' HO_0.out).2.2 (ji9) p215 q215; obtain rfl : ad214 = ad215 := (by injection e215); replace p215 := eq_true p215; replace q215 := eq_true q215; refine start_ (n := 17) (S := fun w' => w'.cell? (ad214.add ((x9_2).toNat * 3)) = some (.int .i64 ((rd_T112 x0_2 x9_2).f0)) ∧ w'.cell? ⟨(ad214.add ((x9_2).toNat * 3)).block, (ad214.add ((x9_2).toNat * 3)).off + 1, none⟩ = some (.int .i64 ((rd_T112 x0_2 x9_2).f1)) ∧ w'.cell? ⟨(ad214.add ((x9_2).toNat * 3)).block, (ad214.add ((x9_2).toNat * 3)).off + 2, none⟩ = some (.int .i64 ((rd_T112 x0_2 x9_2).f2)) ∧ w'.cell? (ad214.add (((ji9)).toNat * 3)) = some (.int .i64 ((rd_T112 x0_2 (ji9)).f0)) ∧ w'.cell? ⟨(ad214.add (((ji9)).toNat * 3)).block, (ad214.add (((ji9)).toNat * 3)).off + 1, none⟩ = some (.int .i64 ((rd_T112 x0_2 (ji9)).f1)) ∧ w'.cell? ⟨(ad214.add (((ji9)).toNat * 3)).block, (ad214.add (((ji9)).toNat * 3)).off + 2, none⟩ = some (.int .i64 ((rd_T112 x0_2 (ji9)).f2))) (ds := []) _ (by kernel_rfl) rfl rfl ⟨hx214_0, hx214_1, hx214_2, hx215_0, hx215_1, hx215_2⟩ (fun hH => ?_); refine with_tabW api_CloudLayer_CeilingOf_1_175.tab4 api_CloudLayer_CeilingOf_1_175.bits4 (fun HT_ HW_ => ?_); generalize wr.drew = w16 at HO_0 HK HB hx214_0 hx214_1 hx214_2 hx215_0 hx215_1 hx215_2 hH ⊢; refine pZ 0 (some 18) (bs 17 1) HT_ ?_; refine pZ 1 (some 19) (bs 17 3) HT_ ?_; refine pZ 2 (some 20) (bs 17 7) HT_ ?_; refine pZ 3 (some 21) (bs 17 15) HT_ ?_; refine pZ 4 (some 22) (bs 17 31) HT_ ?_; refine pZ 5 (some 23) (bs 17 63) HT_ ?_; refine pZ 6 (some 24) (bs 17 127) HT_ ?_; refine pZ 7 (some 25) (bs 17 255) HT_ ?_; refine pZ 9 (some 27) (bs 17 767) HT_ ?_; refine pZ 10 (some 28) (bs 17 1791) HT_ ?_; refine pZ 11 (some 29) (bs 17 3839) HT_ ?_; refine pZ 12 (some 30) (bs 17 7935) HT_ ?_; refine takeZ 8 (some 26) (bs 17 8191) (tw HT_ HW_) hH ?_; refine takeZ 13 (some 31) (bs 17 16383) (tw HT_ HW_) hH ?_; refine oneZ 14 (some 32) (bs 17 32767) (o1 HT_) fun K hK => ?_; refine goesV_ 22 Try.func78 (by kernel_rfl) rfl #[.agg #[.int .i64 ((rd_T112 x0_2 x9_2).f0), .int .i64 ((rd_T112 x0_2 x9_2).f1), .int .i64 ((rd_T112 x0_2 x9_2).f2)], .agg #[.int .i64 ((rd_T112 x0_2 (ji9)).f0), .int .i64 ((rd_T112 x0_2 (ji9)).f1), .int .i64 ((rd_T112 x0_2 (ji9)).f2)]] (by rfl) rfl rfl (by rfl) (by (try simp only [List.map_toArray, List.map_cons, List.map_nil]); first | done | (simp only [hji9]; rfl) | rfl | (simp only [List.length_drop, List.length_take]; rfl)) ?_
                        with_reducible refine (L_CeilingOf_1.calls ((rd_T112 x0_2 x9_2).f0) ((rd_T112 x0_2 x9_2).f1) ((rd_T112 x0_2 x9_2).f2) ((rd_T112 x0_2 (ji9)).f0) ((rd_T112 x0_2 (ji9)).f1) ((rd_T112 x0_2 (ji9)).f2) t216 _ A12.out).mono ?_
                        rintro e w18 ⟨rfl, hb⟩; have HS0_ := (hb.cell (World.block_lt_of_cell? _ _ (hH.1))).trans (hH.1); have HS1_ := (hb.cell (World.block_lt_of_cell? _ _ (hH.2.1))).trans (hH.2.1); have HS2_ := (hb.cell (World.block_lt_of_cell? _ _ (hH.2.2.1))).trans (hH.2.2.1); have HS3_ := (hb.cell (World.block_lt_of_cell? _ _ (hH.2.2.2.1))).trans (hH.2.2.2.1); have HS4_ := (hb.cell (World.block_lt_of_cell? _ _ (hH.2.2.2.2.1))).trans (hH.2.2.2.2.1); have HS5_ := (hb.cell (World.block_lt_of_cell? _ _ (hH.2.2.2.2.2))).trans (hH.2.2.2.2.2); refine ⟨_, rfl, ?_⟩; replace HO_0 := rb HO_0 hb; replace HK := m0 (Kept.below (S := (fun k_ => P0_ k_)) (by repeat (first | (with_reducible first | exact HK.out | apply Kept.alloc | apply Kept.drewN | apply Kept.drew) | exact HK.out)) hb); replace HB := sb HB hb
                        (try clear hb); refine hK.out _ _ ⟨HS0_, HS1_, HS2_, HS3_, HS4_, HS5_⟩ (fun hH => ?_); clear hK K; refine nz 32 ?_; refine pZ 15 (some 33) (bs 17 65535) HT_ ?_; refine pZ 16 (some 34) (bs 17 131071) HT_ ?_; refine done_ (done_of HT_.out (by kernel_rfl)) ?_
                        try go_wp2
                        replace HO_0 := m0 (Kd.R_drew HO_0.out); replace HK := m0 (Kept.drew HK.out); replace HB := sd HB; have p217 : 0 ≤ ((ji9) : Int) := od; have q217 : (ji9) < (x0_2.length : Int) := od; obtain ⟨ad217, e217, hx217_0, hx217_1, hx217_2⟩ := at_T112 (Kd.R_reads' HO_0.out).2.2 (ji9) p217 q217; obtain rfl : ad214 = ad217 := (by injection e217); replace p217 := eq_true p217; replace q217 := eq_true q217; have p218 : 0 ≤ (x9_2 : Int) := od; have q218 : x9_2 < (x0_2.length : Int) := od; obtain ⟨ad218, e218, hx218_0, hx218_1, hx218_2⟩ := at_T112 (Kd.R_reads' HO_0.out).2.2 x9_2 p218 q218; obtain rfl : ad214 = ad218 := (by injection e218); replace p218 := eq_true p218; replace q218 := eq_true q218; have p14 : 0 ≤ (x9_2 : Int) := od; have q14 : (x9_2 : Int) < ((x0_2.length : Int) : Int) := od; obtain ⟨go14, co14, eo14, gb14, gl14, cl14, HG14⟩ := Kd.R_form HO_0.out (by omega)
                        (first | cases eo14 | (injection eo14 with ea_ en_ ec_; (first | subst ea_ | (injection ea_ with ea_; subst ea_)); subst ec_; clear en_))
                        have GB14 := m0 gb14; have GG14 := m0 HG14; clear gb14 gl14 HG14; have HMgo14 := m0 (show (P0_ go14 ∨ w.heap.size ≤ go14) from (HO_0.out.1 _ rfl))
                        (first | simp only [add_plain] at hx214_0 | skip)
                        (first | simp only [add_plain] at hx214_1 | skip)
                        (first | simp only [add_plain] at hx214_2 | skip)
                        (first | simp only [add_plain] at hx215_0 | skip)
                        (first | simp only [add_plain] at hx215_1 | skip)
                        (first | simp only [add_plain] at hx215_2 | skip)
                        (first | simp only [add_plain] at hx217_0 | skip)
                        (first | simp only [add_plain] at hx217_1 | skip)
                        (first | simp only [add_plain] at hx217_2 | skip)
                        (first | simp only [add_plain] at hx218_0 | skip)
                        (first | simp only [add_plain] at hx218_1 | skip)
                        (first | simp only [add_plain] at hx218_2 | skip)
                        obtain ⟨ce14, hcl14, hM14, hcc14, hfr14⟩ := Kd.R_elem HO_0.out z112 (x9_2 : Int) p14 q14; obtain rfl := k112_openM hM14; have hx14_0 : World.cell? _ ⟨go14, (x9_2 : Int).toNat * 3, none⟩ = some (.int .i64 ((rd_T112 x0_2 x9_2).f0)) := hcc14 0 _ rfl; have hx14_1 : World.cell? _ ⟨go14, (x9_2 : Int).toNat * 3 + 1, none⟩ = some (.int .i64 ((rd_T112 x0_2 x9_2).f1)) := hcc14 1 _ rfl; have hx14_2 : World.cell? _ ⟨go14, (x9_2 : Int).toNat * 3 + 2, none⟩ = some (.int .i64 ((rd_T112 x0_2 x9_2).f2)) := hcc14 2 _ rfl; have hf14_0 : World.frozen? _ ⟨go14, (x9_2 : Int).toNat * 3, none⟩ = false := hfr14 0; have hf14_1 : World.frozen? _ ⟨go14, (x9_2 : Int).toNat * 3 + 1, none⟩ = false := hfr14 1; have hf14_2 : World.frozen? _ ⟨go14, (x9_2 : Int).toNat * 3 + 2, none⟩ = false := hfr14 2; clear hcl14 hcc14 hfr14 hM14; replace p14 := eq_true p14; replace q14 := eq_true q14; obtain ⟨ce20, hcl20, hM20, hcc20, hfr20⟩ := Kd.R_elem HO_0.out z112 (x9_2 : Int) (od) (by have h_ : (x9_2 : Int) < ((x0_2.length : Int) : Int) := od; first | exact h_ | (have e_ := (Kd.R_reads' HO_0.out).1; omega) | simpa using h_)
                        obtain rfl := k112_openM hM20; have HP20 := (Kd.R_seg HO_0.out (x9_2 : Int) (od) (by have h_ : (x9_2 : Int) < ((x0_2.length : Int) : Int) := od; first | exact h_ | (have e_ := (Kd.R_reads' HO_0.out).1; omega) | simpa using h_) (seg := [.int .i64 ((rd_T112 x0_2 (ji9)).f0), .int .i64 ((rd_T112 x0_2 (ji9)).f1), .int .i64 ((rd_T112 x0_2 (ji9)).f2)]) (j := 0) hcl20 hcc20 (show 3 ≤ 3 from by decide) (x' := (⟨(rd_T112 x0_2 (ji9)).f0, (rd_T112 x0_2 (ji9)).f1, (rd_T112 x0_2 (ji9)).f2⟩ : S112)) (k112_mkM _ _ _ (⟨(rd_T112 x0_2 (ji9)).f0, (rd_T112 x0_2 (ji9)).f1, (rd_T112 x0_2 (ji9)).f2⟩ : S112) ) (fun _ hk => hk)).1
                        rw [← Ny219.out] at HP20; have HQ20 := m0 HP20; clear hcl20 hcc20 hfr20 hM20 HP20; have p15 : 0 ≤ ((ji9) : Int) := od; have q15 : ((ji9) : Int) < ((x0_2.length : Int) : Int) := od; obtain ⟨ce15, hcl15, hM15, hcc15, hfr15⟩ := Kd.R_elem HQ20.out z112 ((ji9) : Int) p15 q15; obtain rfl := k112_openM hM15; have hx15_0 : World.cell? _ ⟨go14, ((ji9) : Int).toNat * 3, none⟩ = some (.int .i64 ((rd_T112 y219 (ji9)).f0)) := hcc15 0 _ rfl; have hx15_1 : World.cell? _ ⟨go14, ((ji9) : Int).toNat * 3 + 1, none⟩ = some (.int .i64 ((rd_T112 y219 (ji9)).f1)) := hcc15 1 _ rfl; have hx15_2 : World.cell? _ ⟨go14, ((ji9) : Int).toNat * 3 + 2, none⟩ = some (.int .i64 ((rd_T112 y219 (ji9)).f2)) := hcc15 2 _ rfl; have hf15_0 : World.frozen? _ ⟨go14, ((ji9) : Int).toNat * 3, none⟩ = false := hfr15 0; have hf15_1 : World.frozen? _ ⟨go14, ((ji9) : Int).toNat * 3 + 1, none⟩ = false := hfr15 1; have hf15_2 : World.frozen? _ ⟨go14, ((ji9) : Int).toNat * 3 + 2, none⟩ = false := hfr15 2; clear hcl15 hcc15 hfr15 hM15; replace p15 := eq_true p15; replace q15 := eq_true q15; obtain ⟨ce21, hcl21, hM21, hcc21, hfr21⟩ := Kd.R_elem HQ20.out z112 ((ji9) : Int) (od) (by have h_ : ((ji9) : Int) < ((x0_2.length : Int) : Int) := od; first | exact h_ | (have e_ := (Kd.R_reads' HO_0.out).1; omega) | simpa using h_)
                        obtain rfl := k112_openM hM21; have HP21 := (Kd.R_seg HQ20.out ((ji9) : Int) (od) (by have h_ : ((ji9) : Int) < ((x0_2.length : Int) : Int) := od; first | exact h_ | (have e_ := (Kd.R_reads' HO_0.out).1; omega) | simpa using h_) (seg := [.int .i64 ((rd_T112 x0_2 x9_2).f0), .int .i64 ((rd_T112 x0_2 x9_2).f1), .int .i64 ((rd_T112 x0_2 x9_2).f2)]) (j := 0) hcl21 hcc21 (show 3 ≤ 3 from by decide) (x' := (⟨(rd_T112 x0_2 x9_2).f0, (rd_T112 x0_2 x9_2).f1, (rd_T112 x0_2 x9_2).f2⟩ : S112)) (k112_mkM _ _ _ (⟨(rd_T112 x0_2 x9_2).f0, (rd_T112 x0_2 x9_2).f1, (rd_T112 x0_2 x9_2).f2⟩ : S112) ) (fun _ hk => hk)).1
                        rw [← Ny220.out] at HP21; have HQ21 := m0 HP21; clear hcl21 hcc21 hfr21 hM21 HP21; refine start_ (n := 18) (S := fun w' => w'.cell? ⟨go14, (((ji9)).toNat * 3), none⟩ = some (.int .i64 ((rd_T112 x0_2 (ji9)).f0)) ∧ w'.cell? ⟨go14, (((ji9)).toNat * 3) + 1, none⟩ = some (.int .i64 ((rd_T112 x0_2 (ji9)).f1)) ∧ w'.cell? ⟨go14, (((ji9)).toNat * 3) + 2, none⟩ = some (.int .i64 ((rd_T112 x0_2 (ji9)).f2)) ∧ w'.cell? ⟨go14, ((x9_2).toNat * 3), none⟩ = some (.int .i64 ((rd_T112 x0_2 x9_2).f0)) ∧ w'.cell? ⟨go14, ((x9_2).toNat * 3) + 1, none⟩ = some (.int .i64 ((rd_T112 x0_2 x9_2).f1)) ∧ w'.cell? ⟨go14, ((x9_2).toNat * 3) + 2, none⟩ = some (.int .i64 ((rd_T112 x0_2 x9_2).f2))) (ds := [15, 17]) _ (by kernel_rfl) rfl rfl ⟨hx217_0, hx217_1, hx217_2, hx218_0, hx218_1, hx218_2⟩ (fun hH => ?_); refine with_tabW api_CloudLayer_CeilingOf_1_175.tab6 api_CloudLayer_CeilingOf_1_175.bits6 (fun HT_ HW_ => ?_); generalize w18.drew = w19 at HO_0 HK HB GG14 HQ20 HQ21 hf14_0 hf14_1 hf14_2 hf15_0 hf15_1 hf15_2 hx14_0 hx14_1 hx14_2 hx15_0 hx15_1 hx15_2 hx214_0 hx214_1 hx214_2 hx215_0 hx215_1 hx215_2 hx217_0 hx217_1 hx217_2 hx218_0 hx218_1 hx218_2 hH ⊢; refine pZ 0 (some 37) (bs 18 1) HT_ ?_; refine pZ 1 (some 38) (bs 18 3) HT_ ?_; refine pZ 2 (some 39) (bs 18 7) HT_ ?_; refine pZ 3 (some 40) (bs 18 15) HT_ ?_; refine pZ 4 (some 41) (bs 18 31) HT_ ?_; refine pZ 5 (some 42) (bs 18 63) HT_ ?_; refine pZ 6 (some 43) (bs 18 127) HT_ ?_; refine pZ 7 (some 44) (bs 18 255) HT_ ?_; refine pZ 8 (some 45) (bs 18 511) HT_ ?_; refine pZ 10 (some 47) (bs 18 1535) HT_ ?_; refine pZ 11 (some 48) (bs 18 3583) HT_ ?_; refine pZ 12 (some 49) (bs 18 7679) HT_ ?_; refine takeZ 9 (some 46) (bs 18 8191) (tw HT_ HW_) hH ?_; refine takeZ 13 (some 50) (bs 18 16383) (tw HT_ HW_) hH ?_; refine pZ 14 (some 51) (bs 18 32767) HT_ ?_; refine last_ (i := 15) (N := none) (bs 18 65535) rfl rfl (o1 HT_) (by decide) (fun K hK => ?_); refine skip_ (w1 := ?_) (by rfl) rfl ?_ ?_; rotate_left
                        · go_simp
                          rfl
                        refine hK.out _ _ ?_; clear hK K; refine pZ 16 (some 52) (bs 18 131071) HT_ ?_; have hnej_ : ¬ ((ji9 : Int).toNat = (x9_2 : Int).toNat) := by have h1 := hji9; unfold wrap64 at h1; have h2 : 0 ≤ (ji9 : Int) := od; have h3 : 0 ≤ (x9_2 : Int) := od; omega
                        have hnek_ : ¬ ((x9_2 : Int).toNat = (ji9 : Int).toNat) := fun e_ => hnej_ e_.symm; have hfj0_ : w19.frozen? ⟨go14, (ji9 : Int).toNat * 3, none⟩ = false := by simpa [World.setCells] using hf15_0
                        have hfj1_ : w19.frozen? ⟨go14, (ji9 : Int).toNat * 3 + 1, none⟩ = false := by simpa [World.setCells] using hf15_1
                        have hfj2_ : w19.frozen? ⟨go14, (ji9 : Int).toNat * 3 + 2, none⟩ = false := by simpa [World.setCells] using hf15_2
                        refine last_ (i := 17) (N := none) (bs 18 262143) rfl rfl (o1 HT_) (by decide) (fun K hK => ?_); refine skip_ (w1 := ?_) (by rfl) rfl ?_ ?_; rotate_left
                        · go_simp
                          rfl
                        refine hK.out _ _ ?_; clear hK K; refine done_ (done_of HT_.out (by kernel_rfl)) ?_
                        try go_wp2
                        go_roundg k2
                        case measure => have := HK1.out; have := HK2.out; omega
                        case rel => exact ⟨(y220), (ji9), (by first | rfl | (simp; done) | (simp only [← hji9] <;> (first | rfl | simp)) | (simp [*]; done)), H', ⟨by have := HK1.out; have := HK2.out; omega⟩, ⟨br HQ21.out⟩, ⟨by repeat (first | (with_reducible first | exact HK.out | apply Kept.alloc | apply Kept.drewN | apply Kept.drew | refine Kept.setCell ?_ HMgo14.out _ | refine Kept.setCell ?_ HMgo14.out _ | refine Kept.setCell ?_ HMgo14.out _ | refine Kept.setCell ?_ HMgo14.out _ | refine Kept.setCell ?_ HMgo14.out _ | refine Kept.setCell ?_ HMgo14.out _) | exact HK.out)⟩, ⟨by repeat (first | (with_reducible first | exact HB.out | apply below_alloc | apply pw_below_drewN | apply below_drew1 | refine below_set ?_ GB14.out | refine below_set ?_ GB14.out | refine below_set ?_ GB14.out | refine below_set ?_ GB14.out | refine below_set ?_ GB14.out | refine below_set ?_ GB14.out) | exact HB.out)⟩⟩
                      · rw [if_neg c13] at H; have c13b0 := decide_eq_false c13; clear c13; have H' := m0 H; clear H
                        try go_wp2
                        replace HO_0 := m0 (Kd.R_drew HO_0.out); replace HK := m0 (Kept.drew HK.out); replace HB := sd HB; obtain ⟨Ao23, co23, eo23⟩ := Kd.R_slice HO_0.out; subst eo23; have p214 : 0 ≤ (x9_2 : Int) := od; have q214 : x9_2 < (x0_2.length : Int) := od; obtain ⟨ad214, e214, hx214_0, hx214_1, hx214_2⟩ := at_T112 (Kd.R_reads' HO_0.out).2.2 x9_2 p214 q214
                        cases e214
                        replace p214 := eq_true p214; replace q214 := eq_true q214; have p215 : 0 ≤ ((ji9) : Int) := od; have q215 : (ji9) < (x0_2.length : Int) := od; obtain ⟨ad215, e215, hx215_0, hx215_1, hx215_2⟩ := at_T112 (Kd.R_reads' HO_0.out).2.2 (ji9) p215 q215; obtain rfl : ad214 = ad215 := (by injection e215); replace p215 := eq_true p215; replace q215 := eq_true q215; refine start_ (n := 17) (S := fun w' => w'.cell? (ad214.add ((x9_2).toNat * 3)) = some (.int .i64 ((rd_T112 x0_2 x9_2).f0)) ∧ w'.cell? ⟨(ad214.add ((x9_2).toNat * 3)).block, (ad214.add ((x9_2).toNat * 3)).off + 1, none⟩ = some (.int .i64 ((rd_T112 x0_2 x9_2).f1)) ∧ w'.cell? ⟨(ad214.add ((x9_2).toNat * 3)).block, (ad214.add ((x9_2).toNat * 3)).off + 2, none⟩ = some (.int .i64 ((rd_T112 x0_2 x9_2).f2)) ∧ w'.cell? (ad214.add (((ji9)).toNat * 3)) = some (.int .i64 ((rd_T112 x0_2 (ji9)).f0)) ∧ w'.cell? ⟨(ad214.add (((ji9)).toNat * 3)).block, (ad214.add (((ji9)).toNat * 3)).off + 1, none⟩ = some (.int .i64 ((rd_T112 x0_2 (ji9)).f1)) ∧ w'.cell? ⟨(ad214.add (((ji9)).toNat * 3)).block, (ad214.add (((ji9)).toNat * 3)).off + 2, none⟩ = some (.int .i64 ((rd_T112 x0_2 (ji9)).f2))) (ds := []) _ (by kernel_rfl) rfl rfl ⟨hx214_0, hx214_1, hx214_2, hx215_0, hx215_1, hx215_2⟩ (fun hH => ?_); refine with_tabW api_CloudLayer_CeilingOf_1_175.tab4 api_CloudLayer_CeilingOf_1_175.bits4 (fun HT_ HW_ => ?_); generalize wr.drew = w22 at HO_0 HK HB hx214_0 hx214_1 hx214_2 hx215_0 hx215_1 hx215_2 hH ⊢; refine pZ 0 (some 18) (bs 17 1) HT_ ?_; refine pZ 1 (some 19) (bs 17 3) HT_ ?_; refine pZ 2 (some 20) (bs 17 7) HT_ ?_; refine pZ 3 (some 21) (bs 17 15) HT_ ?_; refine pZ 4 (some 22) (bs 17 31) HT_ ?_; refine pZ 5 (some 23) (bs 17 63) HT_ ?_; refine pZ 6 (some 24) (bs 17 127) HT_ ?_; refine pZ 7 (some 25) (bs 17 255) HT_ ?_; refine pZ 9 (some 27) (bs 17 767) HT_ ?_; refine pZ 10 (some 28) (bs 17 1791) HT_ ?_; refine pZ 11 (some 29) (bs 17 3839) HT_ ?_; refine pZ 12 (some 30) (bs 17 7935) HT_ ?_; refine takeZ 8 (some 26) (bs 17 8191) (tw HT_ HW_) hH ?_; refine takeZ 13 (some 31) (bs 17 16383) (tw HT_ HW_) hH ?_; refine oneZ 14 (some 32) (bs 17 32767) (o1 HT_) fun K hK => ?_; refine goesV_ 22 Try.func78 (by kernel_rfl) rfl #[.agg #[.int .i64 ((rd_T112 x0_2 x9_2).f0), .int .i64 ((rd_T112 x0_2 x9_2).f1), .int .i64 ((rd_T112 x0_2 x9_2).f2)], .agg #[.int .i64 ((rd_T112 x0_2 (ji9)).f0), .int .i64 ((rd_T112 x0_2 (ji9)).f1), .int .i64 ((rd_T112 x0_2 (ji9)).f2)]] (by rfl) rfl rfl (by rfl) (by (try simp only [List.map_toArray, List.map_cons, List.map_nil]); first | done | (simp only [hji9]; rfl) | rfl | (simp only [List.length_drop, List.length_take]; rfl)) ?_
                        with_reducible refine (L_CeilingOf_1.calls ((rd_T112 x0_2 x9_2).f0) ((rd_T112 x0_2 x9_2).f1) ((rd_T112 x0_2 x9_2).f2) ((rd_T112 x0_2 (ji9)).f0) ((rd_T112 x0_2 (ji9)).f1) ((rd_T112 x0_2 (ji9)).f2) t216 _ A12.out).mono ?_
                        rintro e w24 ⟨rfl, hb⟩; have HS0_ := (hb.cell (World.block_lt_of_cell? _ _ (hH.1))).trans (hH.1); have HS1_ := (hb.cell (World.block_lt_of_cell? _ _ (hH.2.1))).trans (hH.2.1); have HS2_ := (hb.cell (World.block_lt_of_cell? _ _ (hH.2.2.1))).trans (hH.2.2.1); have HS3_ := (hb.cell (World.block_lt_of_cell? _ _ (hH.2.2.2.1))).trans (hH.2.2.2.1); have HS4_ := (hb.cell (World.block_lt_of_cell? _ _ (hH.2.2.2.2.1))).trans (hH.2.2.2.2.1); have HS5_ := (hb.cell (World.block_lt_of_cell? _ _ (hH.2.2.2.2.2))).trans (hH.2.2.2.2.2); refine ⟨_, rfl, ?_⟩; replace HO_0 := rb HO_0 hb; replace HK := m0 (Kept.below (S := (fun k_ => P0_ k_)) (by repeat (first | (with_reducible first | exact HK.out | apply Kept.alloc | apply Kept.drewN | apply Kept.drew) | exact HK.out)) hb); replace HB := sb HB hb
                        (try clear hb); refine hK.out _ _ ⟨HS0_, HS1_, HS2_, HS3_, HS4_, HS5_⟩ (fun hH => ?_); clear hK K; refine nz 32 ?_; refine pZ 15 (some 33) (bs 17 65535) HT_ ?_; refine pZ 16 (some 34) (bs 17 131071) HT_ ?_; refine done_ (done_of HT_.out (by kernel_rfl)) ?_
                        try go_wp2
                        go_roundg k2
                        case measure => have := HK1.out; have := HK2.out; omega
                        case rel => exact ⟨(x0_2), (wrap64 (x8_1 + 1)), rz, H', ⟨by have := HK1.out; have := HK2.out; omega⟩, ⟨br HO_0.out⟩, ⟨by repeat (first | (with_reducible first | exact HK.out | apply Kept.alloc | apply Kept.drewN | apply Kept.drew) | exact HK.out)⟩, ⟨bz⟩⟩
                    · rw [if_neg c11] at H; exact absurd H (by simp)
                  · rw [if_neg c10] at H; exact absurd H (by simp)
                · rw [if_neg c8] at H; exact absurd H (by simp)
              · rw [if_neg c7] at H; exact absurd H (by simp)
            · rw [if_neg c6] at H; have c6b0 := decide_eq_false c6; clear c6; have H' := m0 H; clear H
              try go_wp2
              replace HO_0 := m0 (Kd.R_drew HO_0.out); replace HK := m0 (Kept.drew HK.out); replace HB := sd HB; refine start_ (n := 17) (S := fun w' => True) (ds := []) _ (by kernel_rfl) rfl rfl trivial (fun hH => ?_); refine with_tabW api_CloudLayer_CeilingOf_1_175.tab4 api_CloudLayer_CeilingOf_1_175.bits4 (fun HT_ HW_ => ?_); generalize wr.drew = w25 at HO_0 HK HB hH ⊢; refine pZ 0 (some 18) (bs 17 1) HT_ ?_; refine pZ 1 (some 19) (bs 17 3) HT_ ?_; refine pZ 2 (some 20) (bs 17 7) HT_ ?_; refine pZ 3 (some 21) (bs 17 15) HT_ ?_; refine pure_ (i := 4) (N := some 22) (v := undef) (a' := ?_) (bs 17 31) rfl rfl (any_of HT_.out (by kernel_rfl)) (fun _ _ _ h => h) (Or.inr ⟨by rfl, rfl⟩) ?_ ?_; rotate_left
              · exact pz
              refine pure_ (i := 5) (N := some 23) (v := undef) (a' := ?_) (bs 17 63) rfl rfl (any_of HT_.out (by kernel_rfl)) (fun _ _ _ h => h) (Or.inr ⟨by rfl, rfl⟩) ?_ ?_; rotate_left
              · exact pz
              refine pure_ (i := 6) (N := some 24) (v := undef) (a' := ?_) (bs 17 127) rfl rfl (any_of HT_.out (by kernel_rfl)) (fun _ _ _ h => h) (Or.inr ⟨by rfl, rfl⟩) ?_ ?_; rotate_left
              · exact pz
              refine pure_ (i := 7) (N := some 25) (v := undef) (a' := ?_) (bs 17 255) rfl rfl (any_of HT_.out (by kernel_rfl)) (fun _ _ _ h => h) (Or.inr ⟨by rfl, rfl⟩) ?_ ?_; rotate_left
              · exact pz
              refine pure_ (i := 8) (N := some 26) (v := undef) (a' := ?_) (bs 17 511) rfl rfl (any_of HT_.out (by kernel_rfl)) (fun _ _ _ h => h) (Or.inr ⟨by rfl, rfl⟩) ?_ ?_; rotate_left
              · exact pz
              refine pure_ (i := 9) (N := some 27) (v := undef) (a' := ?_) (bs 17 1023) rfl rfl (any_of HT_.out (by kernel_rfl)) (fun _ _ _ h => h) (Or.inr ⟨by rfl, rfl⟩) ?_ ?_; rotate_left
              · exact pz
              refine pure_ (i := 10) (N := some 28) (v := undef) (a' := ?_) (bs 17 2047) rfl rfl (any_of HT_.out (by kernel_rfl)) (fun _ _ _ h => h) (Or.inr ⟨by rfl, rfl⟩) ?_ ?_; rotate_left
              · exact pz
              refine pure_ (i := 11) (N := some 29) (v := undef) (a' := ?_) (bs 17 4095) rfl rfl (any_of HT_.out (by kernel_rfl)) (fun _ _ _ h => h) (Or.inr ⟨by rfl, rfl⟩) ?_ ?_; rotate_left
              · exact pz
              refine pure_ (i := 12) (N := some 30) (v := undef) (a' := ?_) (bs 17 8191) rfl rfl (any_of HT_.out (by kernel_rfl)) (fun _ _ _ h => h) (Or.inr ⟨by rfl, rfl⟩) ?_ ?_; rotate_left
              · exact pz
              refine pure_ (i := 13) (N := some 31) (v := undef) (a' := ?_) (bs 17 16383) rfl rfl (any_of HT_.out (by kernel_rfl)) (fun _ _ _ h => h) (Or.inr ⟨by rfl, rfl⟩) ?_ ?_; rotate_left
              · exact pz
              refine pure_ (i := 14) (N := some 32) (v := undef) (a' := ?_) (bs 17 32767) rfl rfl (any_of HT_.out (by kernel_rfl)) (fun _ _ _ h => h) (Or.inr ⟨by rfl, rfl⟩) ?_ ?_; rotate_left
              · exact pz
              refine pure_ (i := 15) (N := some 33) (v := undef) (a' := ?_) (bs 17 65535) rfl rfl (any_of HT_.out (by kernel_rfl)) (fun _ _ _ h => h) (Or.inr ⟨by rfl, rfl⟩) ?_ ?_; rotate_left
              · exact pz
              refine pZ 16 (some 34) (bs 17 131071) HT_ ?_; refine done_ (done_of HT_.out (by kernel_rfl)) ?_
              try go_wp2
              go_roundg k2
              case measure => have := HK1.out; have := HK2.out; omega
              case rel => exact ⟨(x0_2), (wrap64 (x8_1 + 1)), rz, H', ⟨by have := HK1.out; have := HK2.out; omega⟩, ⟨br HO_0.out⟩, ⟨by repeat (first | (with_reducible first | exact HK.out | apply Kept.alloc | apply Kept.drewN | apply Kept.drew) | exact HK.out)⟩, ⟨bz⟩⟩
      · rw [if_neg c5] at H; have c5b0 := decide_eq_false c5; clear c5; obtain rfl := Option.some.inj H
        go_wp2
        first | go_end0 | ((try simp only [Exit.inBlock, Exit.then]); refine bodyPost_ret (results_none rfl _ _ _) rfl ?_)
        exact ⟨by first | rfl | (simp [errW_none, errW_some] <;> rfl) | (simp [*, errW_none, errW_some] <;> rfl), by (with_reducible repeat (first | apply Kd.R_alloc | apply Kd.R_drewN | apply Kd.R_drew)); exact HO_0.out, by repeat (first | (with_reducible first | exact HB.out | apply below_alloc | apply pw_below_drewN | apply below_drew1) | exact HB.out), by repeat (first | (with_reducible first | exact HK.out | apply Kept.alloc | apply Kept.drewN | apply Kept.drew) | exact HK.out)⟩
end
section
mutual
def api_CloudLayer_CeilingOf_1_176.l0 : Nat → List (S112) → Int → Int → Int → Int → Option ((List (S112)))
  | 0, _, _, _, _, _ => none
  | k + 1, x0, x1, x6, x7, x8 => if x8 ≤ x1 then ((api_CloudLayer_CeilingOf_1_175.f k x0 x7 x8).bind fun t221 => (api_CloudLayer_CeilingOf_1_176.l0 k t221 x1 x6 x8 (wrap64 (x8 + x6)))) else ((api_CloudLayer_CeilingOf_1_175.f k x0 x7 x1).bind fun t222 => (api_CloudLayer_CeilingOf_1_176.l1 k t222 x1 x6))
def api_CloudLayer_CeilingOf_1_176.l1 : Nat → List (S112) → Int → Int → Option ((List (S112)))
  | 0, _, _, _ => none
  | k + 1, x0, x1, x6 => if x6 < x1 then (api_CloudLayer_CeilingOf_1_176.l2 k x0 x1 x6 0 (wrap64 (2 * x6))) else (some x0)
def api_CloudLayer_CeilingOf_1_176.l2 : Nat → List (S112) → Int → Int → Int → Int → Option ((List (S112)))
  | 0, _, _, _, _, _ => none
  | k + 1, x0, x1, x6, x7, x8 => if x8 ≤ x1 then (none) else (if (wrap64 (x7 + x6)) < x1 then (none) else (api_CloudLayer_CeilingOf_1_176.l1 k x0 x1 (wrap64 (x6 * 2))))
end
def api_CloudLayer_CeilingOf_1_176.f (k : Nat) (l0 : List (S112)) (a1 : Int)  : Option ((List (S112))) := api_CloudLayer_CeilingOf_1_176.l0 k l0 a1 20 0 20
theorem api_CloudLayer_CeilingOf_1_176.mono_l : ∀ k, (∀ y0 y1 y2 y3 y4, LeO (api_CloudLayer_CeilingOf_1_176.l0 k y0 y1 y2 y3 y4) (api_CloudLayer_CeilingOf_1_176.l0 (k + 1) y0 y1 y2 y3 y4)) ∧ (∀ y0 y1 y2, LeO (api_CloudLayer_CeilingOf_1_176.l1 k y0 y1 y2) (api_CloudLayer_CeilingOf_1_176.l1 (k + 1) y0 y1 y2)) ∧ (∀ y0 y1 y2 y3 y4, LeO (api_CloudLayer_CeilingOf_1_176.l2 k y0 y1 y2 y3 y4) (api_CloudLayer_CeilingOf_1_176.l2 (k + 1) y0 y1 y2 y3 y4))
  | 0 => ⟨fun _ _ _ _ _ r h => by simp [api_CloudLayer_CeilingOf_1_176.l0] at h, fun _ _ _ r h => by simp [api_CloudLayer_CeilingOf_1_176.l1] at h, fun _ _ _ _ _ r h => by simp [api_CloudLayer_CeilingOf_1_176.l2] at h⟩
  | k + 1 => by
    obtain ⟨ih0, ih1, ih2⟩ := api_CloudLayer_CeilingOf_1_176.mono_l k; refine ⟨?_, ?_, ?_⟩
    · intro y0 y1 y2 y3 y4; unfold api_CloudLayer_CeilingOf_1_176.l0
      repeat' with_reducible first
        | exact ih0 ..
        | exact ih1 ..
        | exact ih2 ..
        | exact api_CloudLayer_CeilingOf_1_175.mono ..
        | exact LeO.refl ..
        | exact LeO.none ..
        | refine LeO.ite ?_ ?_
        | refine LeO.bind ?_ (fun _ => ?_)
    · intro y0 y1 y2; unfold api_CloudLayer_CeilingOf_1_176.l1
      repeat' with_reducible first
        | exact ih0 ..
        | exact ih1 ..
        | exact ih2 ..
        | exact api_CloudLayer_CeilingOf_1_175.mono ..
        | exact LeO.refl ..
        | exact LeO.none ..
        | refine LeO.ite ?_ ?_
        | refine LeO.bind ?_ (fun _ => ?_)
    · intro y0 y1 y2 y3 y4; unfold api_CloudLayer_CeilingOf_1_176.l2
      repeat' with_reducible first
        | exact ih0 ..
        | exact ih1 ..
        | exact ih2 ..
        | exact api_CloudLayer_CeilingOf_1_175.mono ..
        | exact LeO.refl ..
        | exact LeO.none ..
        | refine LeO.ite ?_ ?_
        | refine LeO.bind ?_ (fun _ => ?_)
theorem api_CloudLayer_CeilingOf_1_176.mono : ∀ a0 a1 k, LeO (api_CloudLayer_CeilingOf_1_176.f k a0 a1) (api_CloudLayer_CeilingOf_1_176.f (k + 1) a0 a1) := by
  intro a0 a1 k; obtain ⟨ih0, ih1, ih2⟩ := api_CloudLayer_CeilingOf_1_176.mono_l k; unfold api_CloudLayer_CeilingOf_1_176.f
  repeat' with_reducible first
    | exact ih0 ..
    | exact ih1 ..
    | exact ih2 ..
    | exact api_CloudLayer_CeilingOf_1_175.mono ..
    | exact LeO.refl ..
    | exact LeO.none ..
    | refine LeO.ite ?_ ?_
    | refine LeO.bind ?_ (fun _ => ?_)
theorem api_CloudLayer_CeilingOf_1_176.calls (k : Nat) (P0_ : Nat → Prop) (u9000_ : Value) (l0 : List (S112)) (a1 : Int)  (r : List (S112)) (w0 w : World) (hB : Below w0.heap.size w0 w) (ho0 : Kd.R k112 112 w w0.heap.size P0_ u9000_ l0) (H : api_CloudLayer_CeilingOf_1_176.f k l0 a1 = some r) :
    Calls Try.prog 125 #[u9000_, .int .i64 a1, .func (.func 78) #[] #[]] w fun e w' => e = .returned (.tuple #[]) ∧ Kd.R k112 112 w' w0.heap.size (fun k_ => (P0_ k_ ∨ w.heap.size ≤ k_)) u9000_ r ∧ Below w0.heap.size w0 w' ∧ Kept w w' (fun k_ => P0_ k_) := by
  have HO0 := m0 (show Kd.R k112 112 w w0.heap.size (fun k_ => (P0_ k_ ∨ w.heap.size ≤ k_)) u9000_ l0 from Kd.R_mono ho0 (fun k_ hk => (.inl hk))); have HK := m0 (Kept.refl w (fun k_ => P0_ k_)); have HW0 := m0 hB.size; have HB := m0 hB; clear hB; unfold api_CloudLayer_CeilingOf_1_176.f at H; have H' := m0 H; clear H; go_enter Try.func125, Try.ntmps125
  go_wp2
  (try simp only [Act.put, List.setIfInBounds_toArray, List.set_cons_zero, List.set_cons_succ])
  go_loopg [7, 8] k (fun kq v7 v8 w' => ∃ (x0_1 : List (S112)) (x7_1 : Int) (x8_1 : Int), v7 = .int .i64 x7_1 ∧ v8 = .int .i64 x8_1 ∧ Aside0 (api_CloudLayer_CeilingOf_1_176.l0 kq x0_1 a1 20 x7_1 x8_1 = some r) ∧ Aside0 (kq ≤ k) ∧ Aside0 (Kd.R k112 112 w' w0.heap.size (fun k_ => (P0_ k_ ∨ w.heap.size ≤ k_)) u9000_ x0_1) ∧ Aside0 (Kept w w' (fun k_ => P0_ k_)) ∧ Aside0 (Below w0.heap.size w0 w'))
  case atStart => exact ⟨(l0), (0), (20), rz, rz, H', ⟨Nat.le_refl _⟩, ⟨br HO0.out⟩, ⟨by repeat (first | (with_reducible first | exact HK.out | apply Kept.alloc | apply Kept.drewN | apply Kept.drew) | exact HK.out)⟩, ⟨bz⟩⟩
  case round =>
    clear H'; obtain ⟨x0_1, x7_1, x8_1, rfl, rfl, HA, HK1, HO_0, HK, HB⟩ := hrel
    cases gk with
    | zero => exact absurd HA.out (by simp [api_CloudLayer_CeilingOf_1_176.l0])
    | succ k1 =>
      have H := HA.out; clear HA; simp only [api_CloudLayer_CeilingOf_1_176.l0] at H
      by_cases c4 : x8_1 ≤ a1
      · rw [if_pos c4] at H; have c4b0 := decide_eq_true c4; clear c4; replace H := oa H; obtain ⟨t221, A5, H⟩ := H; (try dsimp only at H); have H' := m0 H; clear H; obtain ⟨Ao6, co6, eo6⟩ := Kd.R_slice HO_0.out; subst eo6
        go_wp2_with (first | ((with_reducible refine gc 142 rfl ?_); refine gl (some 18) Try.func142 #[.slice Ao6 x0_1.length co6, .int .i64 x7_1, .int .i64 x8_1, .func (.func 78) #[] #[]] ?_; (with_reducible refine (api_CloudLayer_CeilingOf_1_175.calls k1 (fun k_ => some k_ = (.slice Ao6 x0_1.length co6 : Value).ownBlock) (.slice Ao6 x0_1.length co6) x0_1 x7_1 x8_1  t221 w0 _ ?side1 ?side2 A5.out).mono ?_); (case side1 => repeat (first | (with_reducible first | exact HB.out | apply below_alloc | apply pw_below_drewN | apply below_drew1) | exact HB.out)); (case side2 => exact Kd.R_tight rfl HO_0.out); rintro e w7 ⟨rfl, hy0, hb, hkp⟩; refine ⟨_, rfl, ?_⟩; replace HK := m0 (Kept.then_ (S := (fun k_ => P0_ k_)) (by repeat (first | (with_reducible first | exact HK.out | apply Kept.alloc | apply Kept.drewN | apply Kept.drew) | exact HK.out)) hkp (fun k_ hs_ => (fun e_ => (HO_0.out.1 k_ e_.symm)) hs_)); replace HO_0 := m0 (Kd.R_reok rfl hy0 (fun k_ e_ => HO_0.out.1 k_ e_)); replace HB := m0 (hb); (try clear hb); (try clear hkp); (try clear hy0)))
        go_roundg k1
        case measure => have := HK1.out; omega
        case rel => exact ⟨(t221), (x8_1), (wrap64 (x8_1 + 20)), rz, rz, H', ⟨by have := HK1.out; omega⟩, ⟨br HO_0.out⟩, ⟨by repeat (first | (with_reducible first | exact HK.out | apply Kept.alloc | apply Kept.drewN | apply Kept.drew) | exact HK.out)⟩, ⟨bz⟩⟩
      · rw [if_neg c4] at H; have c4b0 := decide_eq_false c4; clear c4; replace H := oa H; obtain ⟨t222, A8, H⟩ := H; (try dsimp only at H); have H' := m0 H; clear H; obtain ⟨Ao9, co9, eo9⟩ := Kd.R_slice HO_0.out; subst eo9
        go_wp2_with (first | ((with_reducible refine gc 142 rfl ?_); refine gl (some 27) Try.func142 #[.slice Ao9 x0_1.length co9, .int .i64 x7_1, .int .i64 a1, .func (.func 78) #[] #[]] ?_; (with_reducible refine (api_CloudLayer_CeilingOf_1_175.calls k1 (fun k_ => some k_ = (.slice Ao9 x0_1.length co9 : Value).ownBlock) (.slice Ao9 x0_1.length co9) x0_1 x7_1 a1  t222 w0 _ ?side1 ?side2 A8.out).mono ?_); (case side1 => repeat (first | (with_reducible first | exact HB.out | apply below_alloc | apply pw_below_drewN | apply below_drew1) | exact HB.out)); (case side2 => exact Kd.R_tight rfl HO_0.out); rintro e w10 ⟨rfl, hy0, hb, hkp⟩; refine ⟨_, rfl, ?_⟩; replace HK := m0 (Kept.then_ (S := (fun k_ => P0_ k_)) (by repeat (first | (with_reducible first | exact HK.out | apply Kept.alloc | apply Kept.drewN | apply Kept.drew) | exact HK.out)) hkp (fun k_ hs_ => (fun e_ => (HO_0.out.1 k_ e_.symm)) hs_)); replace HO_0 := m0 (Kd.R_reok rfl hy0 (fun k_ e_ => HO_0.out.1 k_ e_)); replace HB := m0 (hb); (try clear hb); (try clear hkp); (try clear hy0)))
        (try simp only [Act.put, List.setIfInBounds_toArray, List.set_cons_zero, List.set_cons_succ])
        go_loopg [6] k1 (fun kq v6 w' => ∃ (x6_2 : Int), v6 = .int .i64 x6_2 ∧ Aside0 (api_CloudLayer_CeilingOf_1_176.l1 kq t222 a1 x6_2 = some r) ∧ Aside0 (kq ≤ k1) ∧ Aside0 (Kd.R k112 112 w' w0.heap.size (fun k_ => (P0_ k_ ∨ w.heap.size ≤ k_)) (.slice Ao9 x0_1.length co9) t222) ∧ Aside0 (Kept w w' (fun k_ => P0_ k_)) ∧ Aside0 (Below w0.heap.size w0 w'))
        case atStart => exact ⟨(20), rz, H', ⟨Nat.le_refl _⟩, ⟨br HO_0.out⟩, ⟨by repeat (first | (with_reducible first | exact HK.out | apply Kept.alloc | apply Kept.drewN | apply Kept.drew) | exact HK.out)⟩, ⟨bz⟩⟩
        case round =>
          clear H'; obtain ⟨x6_2, rfl, HA, HK2, HO_0, HK, HB⟩ := hrel; have hl0_2 := (Kd.R_reads' HO_0.out).1; rw [hl0_2] at HO_0; (try simp only [hl0_2])
          cases gk with
          | zero => exact absurd HA.out (by simp [api_CloudLayer_CeilingOf_1_176.l1])
          | succ k2 =>
            have H := HA.out; clear HA; simp only [api_CloudLayer_CeilingOf_1_176.l1] at H
            by_cases c11 : x6_2 < a1
            · rw [if_pos c11] at H; have c11b0 := decide_eq_true c11; clear c11; have H' := m0 H; clear H
              go_wp2
              (try simp only [Act.put, List.setIfInBounds_toArray, List.set_cons_zero, List.set_cons_succ])
              go_loopg [7, 8] k2 (fun kq v7 v8 w' => ∃ (x7_3 : Int) (x8_3 : Int), v7 = .int .i64 x7_3 ∧ v8 = .int .i64 x8_3 ∧ Aside0 (api_CloudLayer_CeilingOf_1_176.l2 kq t222 a1 x6_2 x7_3 x8_3 = some r) ∧ Aside0 (kq ≤ k2) ∧ Aside0 (Kd.R k112 112 w' w0.heap.size (fun k_ => (P0_ k_ ∨ w.heap.size ≤ k_)) (.slice Ao9 t222.length co9) t222) ∧ Aside0 (Kept w w' (fun k_ => P0_ k_)) ∧ Aside0 (Below w0.heap.size w0 w'))
              case atStart => exact ⟨(0), (wrap64 (2 * x6_2)), rz, rz, H', ⟨Nat.le_refl _⟩, ⟨by (try simp only [hl0_2]); (with_reducible repeat (first | apply Kd.R_alloc | apply Kd.R_drewN | apply Kd.R_drew)); exact HO_0.out⟩, ⟨by repeat (first | (with_reducible first | exact HK.out | apply Kept.alloc | apply Kept.drewN | apply Kept.drew) | exact HK.out)⟩, ⟨bz⟩⟩
              case round =>
                clear H'; obtain ⟨x7_3, x8_3, rfl, rfl, HA, HK3, HO_0, HK, HB⟩ := hrel
                cases gk with
                | zero => exact absurd HA.out (by simp [api_CloudLayer_CeilingOf_1_176.l2])
                | succ k3 =>
                  have H := HA.out; clear HA; simp only [api_CloudLayer_CeilingOf_1_176.l2] at H
                  by_cases c12 : x8_3 ≤ a1
                  · rw [if_pos c12] at H; exact absurd H (by simp)
                  · rw [if_neg c12] at H; have c12b0 := decide_eq_false c12; clear c12
                    by_cases c13 : (wrap64 (x7_3 + x6_2)) < a1
                    · rw [if_pos c13] at H; exact absurd H (by simp)
                    · rw [if_neg c13] at H; have c13b0 := decide_eq_false c13; clear c13; have H' := m0 H; clear H
                      go_wp2
                      (try simp only [← hl0_2])
                      go_roundg k3
                      case measure => have := HK1.out; have := HK2.out; have := HK3.out; omega
                      case rel => exact ⟨(wrap64 (x6_2 * 2)), rz, H', ⟨by have := HK1.out; have := HK2.out; have := HK3.out; omega⟩, ⟨by (try simp only [hl0_2]); (with_reducible repeat (first | apply Kd.R_alloc | apply Kd.R_drewN | apply Kd.R_drew)); exact HO_0.out⟩, ⟨by repeat (first | (with_reducible first | exact HK.out | apply Kept.alloc | apply Kept.drewN | apply Kept.drew) | exact HK.out)⟩, ⟨bz⟩⟩
            · rw [if_neg c11] at H; have c11b0 := decide_eq_false c11; clear c11; obtain rfl := Option.some.inj H
              go_wp2
              first | go_end0 | ((try simp only [Exit.inBlock, Exit.then]); refine bodyPost_ret (results_none rfl _ _ _) rfl ?_)
              exact ⟨by first | rfl | (simp [errW_none, errW_some] <;> rfl) | (simp [*, errW_none, errW_some] <;> rfl), (by first | exact (br HO_0.out) | (simp only [hl0_2]; exact (br HO_0.out))), by repeat (first | (with_reducible first | exact HB.out | apply below_alloc | apply pw_below_drewN | apply below_drew1) | exact HB.out), by repeat (first | (with_reducible first | exact HK.out | apply Kept.alloc | apply Kept.drewN | apply Kept.drew) | exact HK.out)⟩
end
section
def api_CloudLayer_CeilingOf_1_177.f (k : Nat) (l0 : List (S112))  : Option ((List (S112))) := (api_CloudLayer_CeilingOf_1_176.f k l0 (l0.length : Int)).bind fun t223 => (some t223)
theorem api_CloudLayer_CeilingOf_1_177.mono : ∀ a0 k, LeO (api_CloudLayer_CeilingOf_1_177.f k a0) (api_CloudLayer_CeilingOf_1_177.f (k + 1) a0) := by
 intro a0 k; unfold api_CloudLayer_CeilingOf_1_177.f
 repeat' with_reducible first
  | exact api_CloudLayer_CeilingOf_1_176.mono ..
  | exact LeO.refl ..
  | exact LeO.none ..
  | refine LeO.ite ?_ ?_
  | refine LeO.bind ?_ (fun _ => ?_)
theorem api_CloudLayer_CeilingOf_1_177.calls (k : Nat) (P0_ : Nat → Prop) (u9000_ : Value) (l0 : List (S112))  (r : List (S112)) (w0 w : World) (hB : Below w0.heap.size w0 w) (ho0 : Kd.R k112 112 w w0.heap.size P0_ u9000_ l0) (H : api_CloudLayer_CeilingOf_1_177.f k l0 = some r) :
  Calls Try.prog 110 #[u9000_, .func (.func 78) #[] #[]] w fun e w' => e = .returned (.tuple #[]) ∧ Kd.R k112 112 w' w0.heap.size (fun k_ => (P0_ k_ ∨ w.heap.size ≤ k_)) u9000_ r ∧ Below w0.heap.size w0 w' ∧ Kept w w' (fun k_ => P0_ k_) := by
 have HO0 := m0 (show Kd.R k112 112 w w0.heap.size (fun k_ => (P0_ k_ ∨ w.heap.size ≤ k_)) u9000_ l0 from Kd.R_mono ho0 (fun k_ hk => (.inl hk))); have HK := m0 (Kept.refl w (fun k_ => P0_ k_)); have HW0 := m0 hB.size; have HB := m0 hB; clear hB; unfold api_CloudLayer_CeilingOf_1_177.f at H; replace H := oa H; obtain ⟨t223, A3, H⟩ := H; (try dsimp only at H); obtain rfl := Option.some.inj H; obtain ⟨Ao4, co4, eo4⟩ := Kd.R_slice HO0.out; subst eo4; go_enter Try.func110, Try.ntmps110
 go_wp2_with (first | ((with_reducible refine gc 125 rfl ?_); refine gl (some 8) Try.func125 #[.slice Ao4 l0.length co4, .int .i64 (l0.length : Int), .func (.func 78) #[] #[]] ?_; (with_reducible refine (api_CloudLayer_CeilingOf_1_176.calls k (fun k_ => some k_ = (.slice Ao4 l0.length co4 : Value).ownBlock) (.slice Ao4 l0.length co4) l0 (l0.length : Int)  t223 w0 _ ?side1 ?side2 A3.out).mono ?_); (case side1 => repeat (first | (with_reducible first | exact HB.out | apply below_alloc | apply pw_below_drewN | apply below_drew1) | exact HB.out)); (case side2 => exact Kd.R_tight rfl HO0.out); rintro e w5 ⟨rfl, hy0, hb, hkp⟩; refine ⟨_, rfl, ?_⟩; replace HK := m0 (Kept.then_ (S := (fun k_ => P0_ k_)) (by repeat (first | (with_reducible first | exact HK.out | apply Kept.alloc | apply Kept.drewN | apply Kept.drew) | exact HK.out)) hkp (fun k_ hs_ => (fun e_ => (HO0.out.1 k_ e_.symm)) hs_)); replace HO0 := m0 (Kd.R_reok rfl hy0 (fun k_ e_ => HO0.out.1 k_ e_)); replace HB := m0 (hb); (try clear hb); (try clear hkp); (try clear hy0)))
 first | go_end0 | ((try simp only [Exit.inBlock, Exit.then]); refine bodyPost_ret (results_none rfl _ _ _) rfl ?_)
 exact ⟨by first | rfl | (simp [errW_none, errW_some] <;> rfl) | (simp [*, errW_none, errW_some] <;> rfl), by (with_reducible repeat (first | apply Kd.R_alloc | apply Kd.R_drewN | apply Kd.R_drew)); exact HO0.out, by repeat (first | (with_reducible first | exact HB.out | apply below_alloc | apply pw_below_drewN | apply below_drew1) | exact HB.out), by repeat (first | (with_reducible first | exact HK.out | apply Kept.alloc | apply Kept.drewN | apply Kept.drew) | exact HK.out)⟩
end
section
/-- The layers by their bases, in the order of insertion sort. -/
def L_sorted_layers.f (k : Nat) (l : List S112) : Option (List S112) := if l.length < 5864062014805 then api_CloudLayer_CeilingOf_1_177.f k l else none
theorem L_sorted_layers.mono : ∀ a0 k, LeO (L_sorted_layers.f k a0) (L_sorted_layers.f (k + 1) a0) := by
 intro a0 k; unfold L_sorted_layers.f; exact LeO.ite (api_CloudLayer_CeilingOf_1_177.mono _ _) (LeO.none _)
theorem L_sorted_layers.calls (k : Nat) (B : Nat) (A : Option Addr) (c : Nat) (l : List S112) (r : List S112) (w : World) (hbx : w.heap[B]? = some (.cells #[.slice A l.length c] 40 (0, 0))) (hr : Kd.C k112 w A l.length l) (hc : l.length ≤ c) (h : L_sorted_layers.f k l = some r) :
  Calls Try.prog 76 #[.func (.func 111) #[] #[.pointer (some ⟨B, 0, none⟩)], .func (.func 78) #[] #[]] w fun e w' => ∃ v0_ : Value, e = .returned v0_ ∧ Kd.R k112 112 w' w.heap.size (fun _ => True) v0_ r ∧ Below w.heap.size w w' := by
 unfold L_sorted_layers.f at h
 by_cases hl : l.length < 5864062014805
 case neg => rw [if_neg hl] at h; exact absurd h (by simp)
 rw [if_pos hl] at h; have HC := m0 (api_CloudLayer_109.calls_own _ _ (enters_of Try.func111 (by kernel_rfl) rfl) l w.heap.size w (Nat.le_refl _) (by omega) (api_CloudLayer_77.stops 8 (by decide) A c l B w hbx hr)); have HS := m0 h; clear h hl hbx hr hc; go_enter Try.func76, Try.ntmps76
 go_wp2_with (first | (go_at_call 109; refine HC.out.mono ?_; rintro e w1 ⟨v, rfl, ho, hb⟩; have HO := m0 ho; have HB := m0 hb; clear ho hb) | (go_at_call 110; refine (api_CloudLayer_CeilingOf_1_177.calls k (fun _ => True) v l r w _ HB.out HO.out HS.out).mono ?_; rintro e w2 ⟨rfl, ho, hb, hk⟩; have HO2 := m0 ho; have HB2 := m0 hb; clear ho hb hk))
 go_ret
 exact ⟨v, rfl, Kd.R_mono HO2.out (fun _ _ => trivial), HB2.out⟩
end
section
def L_CeilingOf.l0 : Nat → Int → Int → List (S112) → Int → Int → Option (Int × Int)
 | 0, _, _, _, _, _ => none
 | k + 1, x1, x8, x27, x28, x29 => if x29 < x28 then (if 0 ≤ x29 then (if x29 < (x27.length : Int) then (if (wrap64 (x8 + ((rd_T112 x27 x29).f2))) ≥ x1 then (some ((rd_T112 x27 x29).f0, 0)) else (L_CeilingOf.l0 k x1 (wrap64 (x8 + ((rd_T112 x27 x29).f2))) x27 x28 (wrap64 (x29 + 1)))) else (none)) else (none)) else (some (0, 12))
def L_CeilingOf.f (k : Nat) (l0 : List (S112)) (a1 : Int) : Option (Int × Int) := (L_CheckLayers.f k l0).bind fun bt224 => ((L_within.f a1 1 8).bind fun t226 => ((L_unless.f t226 2).bind fun t227 => ((L_first.f k (([bt224.2, t227] : List Int))).bind fun t231 => (if t231 = 0 then ((L_sorted_layers.f k l0).bind fun t233 => (L_CeilingOf.l0 k a1 0 t233 (t233.length : Int) 0)) else (some (0, t231))))))
theorem L_CeilingOf.mono_l : ∀ k, (∀ y0 y1 y2 y3 y4, LeO (L_CeilingOf.l0 k y0 y1 y2 y3 y4) (L_CeilingOf.l0 (k + 1) y0 y1 y2 y3 y4))
 | 0 => fun _ _ _ _ _ r h => by simp [L_CeilingOf.l0] at h
 | k + 1 => by
  have ih0 := L_CeilingOf.mono_l k
  ·intro y0 y1 y2 y3 y4; unfold L_CeilingOf.l0
   repeat' with_reducible first
    | exact ih0 ..
    | exact L_CheckLayers.mono ..
    | exact L_first.mono ..
    | exact L_sorted_layers.mono ..
    | exact LeO.refl ..
    | exact LeO.none ..
    | refine LeO.ite ?_ ?_
    | refine LeO.bind ?_ (fun _ => ?_)
theorem L_CeilingOf.mono : ∀ a0 a1 k, LeO (L_CeilingOf.f k a0 a1) (L_CeilingOf.f (k + 1) a0 a1) := by
 intro a0 a1 k; have ih0 := L_CeilingOf.mono_l k; unfold L_CeilingOf.f
 repeat' with_reducible first
  | exact ih0 ..
  | exact L_CheckLayers.mono ..
  | exact L_first.mono ..
  | exact L_sorted_layers.mono ..
  | exact LeO.refl ..
  | exact LeO.none ..
  | refine LeO.ite ?_ ?_
  | refine LeO.bind ?_ (fun _ => ?_)
theorem L_CeilingOf.calls (k : Nat) (A0 : Option Addr) (c0 : Nat) (l0 : List (S112)) (a1 : Int) (r1 : Int) (r2 : Int) (w : World) (hr0 : Kd.C k112 w A0 l0.length l0) (hc0 : l0.length ≤ c0) (H : L_CeilingOf.f k l0 a1 = some (r1, r2)) :
  Calls Try.prog 24 #[.slice A0 l0.length c0, .int .i64 a1] w fun e w' => e = .returned (.tuple #[.int .i64 r1, .int .i64 r2]) ∧ Below w.heap.size w w' := by
 have hu112 := Try.underlying112; have HR0 := m0 hr0; have HC0 := m0 hc0; clear hr0 hc0; have HB := m0 (Below.refl w.heap.size w); unfold L_CeilingOf.f at H; replace H := oa H; obtain ⟨⟨t224, t225⟩, A3, H⟩ := H; (try dsimp only at H); replace H := oa H; obtain ⟨t226, A4, H⟩ := H; (try dsimp only at H); replace H := oa H; obtain ⟨t227, A5, H⟩ := H; (try dsimp only at H); obtain ⟨y228, hy228⟩ : ∃ y_ : List Int, y_ = (([t225, t227] : List Int)) := ⟨_, rfl⟩; replace H : ((L_first.f k y228).bind fun t231 => (if t231 = 0 then ((L_sorted_layers.f k l0).bind fun t233 => (L_CeilingOf.l0 k a1 0 t233 (t233.length : Int) 0)) else (some (0, t231)))) = some (r1, r2) := by first | (rw [hy228]; with_reducible exact H) | (have H2_ := (Option.bind_some _ _).symm.trans H; rw [hy228]; with_reducible exact H2_) | (have H2_ := (Option.bind_some _ _).symm.trans H; with_reducible exact H2_) | with_reducible exact H | (rw [hy228]; exact H) | exact H
 have Ny228 := m0 hy228; clear hy228; replace H := oa H; obtain ⟨t231, A6, H⟩ := H; (try dsimp only at H)
 by_cases c7 : t231 = 0
 ·rw [if_pos c7] at H; have c7b0 := beq_iff_eq.mpr c7; have c7b1 := bne_eq_false_iff_eq.mpr c7; clear c7; replace H := oa H; obtain ⟨t233, A8, H⟩ := H; (try dsimp only at H); have H' := m0 H; clear H; go_enter Try.func24, Try.ntmps24
  go_wp2_with (first | ((with_reducible refine gc 22 rfl ?_); refine gl (some 13) Try.func22 #[.slice A0 l0.length c0] ?_; (with_reducible refine (L_CheckLayers.calls k _ _ l0 t224 t225 _ ?side1 ?side2 A3.out).mono ?_); (case side1 => repeat (first | exact HR0.out | (with_reducible refine Kd.C_alloc ?_ _) | (with_reducible refine Kd.C_drewN ?_ _) | (with_reducible refine Kd.C_drew ?_))); (case side2 => exact HC0.out); rintro e w9 ⟨rfl, hb⟩; refine ⟨_, rfl, ?_⟩; replace HB := sb HB hb; (try clear hb)) | ((with_reducible refine gc 70 rfl ?_); refine gl (some 18) Try.func70 #[.int .i64 a1, .int .i64 1, .int .i64 8] ?_; (with_reducible refine (L_within.calls a1 1 8 t226 _ A4.out).mono ?_); rintro e w' ⟨rfl, ⟨nd, rfl⟩⟩; refine ⟨_, rfl, ?_⟩) | ((with_reducible refine gc 69 rfl ?_); refine gl (some 19) Try.func69 #[.bool t226, .int .i64 2] ?_; (with_reducible refine (L_unless.calls t226 2 t227 _ A5.out).mono ?_); rintro e w' ⟨rfl, ⟨nd, rfl⟩⟩; refine ⟨_, rfl, ?_⟩) | ((with_reducible refine ga 20 rfl ?_); refine Kd.R_lit (Kd.int .i64) _ 26 ?hg (N := 20) ?hd (xs := ([t225, t227] : List Int)) (inner := [.int .i64 t225, .int .i64 t227]) (ok := fun _ => True) (okp := fun _ => True) ?hr ?hp (fun _ hk => hk) trivial (Below.refl _ _) (Nat.le_refl _) (by simp) ?_; (case hd => rfl); (case hg => rfl); (case hr => first | (go_simp; done) | (go_simp; rfl)); (case hp => exact (Reps.one (ki t225) (Reps.one (ki t227) (Reps.none _ _)))); intro v229 w10 ho11 hb hg_ hnew_; clear hg_ hnew_; (first | rw [← Ny228.out] at ho11 | (simp only [Int.reduceToNat] at ho11; rw [← Ny228.out] at ho11)); have HO230 := m0 (Kd.R_lower ho11 (below_size bz)); replace HB := sb HB hb; clear hb ho11; obtain ⟨Ao12, co12, eo12⟩ := Kd.R_slice HO230.out; subst eo12) | ((with_reducible refine gc 68 rfl ?_); refine gl (some 21) Try.func68 #[.slice Ao12 y228.length co12] ?_; (with_reducible refine (L_first.calls k _ _ y228 t231 _ ?side1 ?side2 A6.out).mono ?_); (case side1 => exact bc (Kd.R_reads' HO230.out).2.2); (case side2 => exact (Kd.R_reads' HO230.out).2.1); rintro e w' ⟨rfl, ⟨nd, rfl⟩⟩; refine ⟨_, rfl, ?_⟩) | ((with_reducible refine gc 77 rfl ?_); refine goesL_ (some 26) rfl rfl Try.func77 (by kernel_rfl) rfl #[.slice A0 l0.length c0] rfl (by (try simp only [List.map_toArray, List.map_cons, List.map_nil]); first | done | rfl) ?_; refine (api_CloudLayer_77.calls_own _ _ _ _).mono ?_; rintro e w13 ⟨gb232, hg, rfl, hbox, hb⟩; refine ⟨_, rfl, ?_⟩; replace HO230 := rb HO230 hb; have BK232 := m0 hbox; have GE232 := gw w hg; replace HB := sb HB hb; clear hb hbox hg) | (go_at_call 76; (with_reducible refine (L_sorted_layers.calls k gb232 A0 c0 l0  t233 _ ?side1 ?side2 ?side3 A8.out).mono ?_); (case side1 => exact (bk BK232.out)); (case side2 => exact cb HR0 HB); (case side3 => exact HC0.out); rintro e w14 ⟨v234, rfl, ho0, hb⟩; replace HO230 := rb HO230 hb; have HO235 := m0 (Kd.R_lower ho0 (below_size bz)); replace BK232 := bb BK232 hb; replace HB := sb HB hb; (try clear hb); (try clear ho0); obtain ⟨Ao15, co15, eo15⟩ := Kd.R_slice HO235.out; subst eo15))
  go_loopg [8, 29] k (fun kq v8 v29 w' => ∃ (x8_1 : Int) (x29_1 : Int), v8 = .int .i64 x8_1 ∧ v29 = .int .i64 x29_1 ∧ Aside0 (L_CeilingOf.l0 kq a1 x8_1 t233 (t233.length : Int) x29_1 = some (r1, r2)) ∧ Aside0 (kq ≤ k) ∧ Aside0 (Kd.R k112 112 w' w.heap.size (fun _ => True) (.slice Ao15 t233.length co15) t233) ∧ Aside0 (w'.heap[gb232]? = some (.cells #[(.slice A0 l0.length c0)] 40 (0, 0))) ∧ Aside0 (Below w.heap.size w w'))
  case atStart => exact ⟨(0), (0), rz, rz, H', ⟨Nat.le_refl _⟩, ⟨br HO235.out⟩, ⟨bk BK232.out⟩, ⟨bz⟩⟩
  case round =>
   clear H'; obtain ⟨x8_1, x29_1, rfl, rfl, HA, HK1, HO_27, BK232, HB⟩ := hrel
   cases gk with
   | zero => exact absurd HA.out (by simp [L_CeilingOf.l0])
   | succ k1 =>
    have H := HA.out; clear HA; simp only [L_CeilingOf.l0] at H
    by_cases c16 : x29_1 < (t233.length : Int)
    ·rw [if_pos c16] at H; have c16b0 := decide_eq_true c16; clear c16
     by_cases c17 : 0 ≤ x29_1
     ·rw [if_pos c17] at H; have c17b0 := decide_eq_true c17; clear c17
      by_cases c18 : x29_1 < (t233.length : Int)
      ·rw [if_pos c18] at H; have c18b0 := decide_eq_true c18; clear c18
       by_cases c19 : (wrap64 (x8_1 + ((rd_T112 t233 x29_1).f2))) ≥ a1
       ·rw [if_pos c19] at H; have c19b0 := decide_eq_true c19; clear c19; simp only [Option.some.injEq, Prod.mk.injEq] at H; obtain ⟨rfl, rfl⟩ := H; have p236 : 0 ≤ (x29_1 : Int) := od; have q236 : x29_1 < (t233.length : Int) := od; obtain ⟨ad236, e236, hx236_0, hx236_1, hx236_2⟩ := at_T112 (Kd.R_reads' HO_27.out).2.2 x29_1 p236 q236
        cases e236
        replace p236 := eq_true p236; replace q236 := eq_true q236
        go_wp2_with (first | ((with_reducible refine ga 10 rfl ?_); refine be 10 112 #[.int .i64 0, .int .i64 0, .int .i64 0] ?_; intro gb237 hg w20 hbox hb; replace HO_27 := m0 (Kd.R_below (Kd.R_elderB (br HO_27.out) gb237 (Nat.le_of_eq hg.symm)) hb); have BK237 := m0 hbox; have GE237 := gw w hg; replace HB := sb HB hb; have NB232_237 := nl BK232 hg; have NB237_232 := ng (nl BK232 hg); replace BK232 := bb BK232 hb; clear hb hbox hg; have hnb21 := NB237_232.out; have hnc21 := NB232_237.out; obtain ⟨_, _, _, _, _, _⟩ := b3 BK237))
        go_ret2
        exact ez
       ·rw [if_neg c19] at H; have c19b0 := decide_eq_false c19; clear c19; have H' := m0 H; clear H; have p236 : 0 ≤ (x29_1 : Int) := od; have q236 : x29_1 < (t233.length : Int) := od; obtain ⟨ad236, e236, hx236_0, hx236_1, hx236_2⟩ := at_T112 (Kd.R_reads' HO_27.out).2.2 x29_1 p236 q236
        cases e236
        replace p236 := eq_true p236; replace q236 := eq_true q236
        go_wp2_with (first | ((with_reducible refine ga 10 rfl ?_); refine be 10 112 #[.int .i64 0, .int .i64 0, .int .i64 0] ?_; intro gb237 hg w23 hbox hb; replace HO_27 := m0 (Kd.R_below (Kd.R_elderB (br HO_27.out) gb237 (Nat.le_of_eq hg.symm)) hb); have BK237 := m0 hbox; have GE237 := gw w hg; replace HB := sb HB hb; have NB232_237 := nl BK232 hg; have NB237_232 := ng (nl BK232 hg); replace BK232 := bb BK232 hb; clear hb hbox hg; have hnb24 := NB237_232.out; have hnc24 := NB232_237.out; obtain ⟨_, _, _, _, _, _⟩ := b3 BK237))
        go_roundg k1
        case measure => have := HK1.out; omega
        case rel => exact ⟨(wrap64 (x8_1 + ((rd_T112 t233 x29_1).f2))), (wrap64 (x29_1 + 1)), rz, rz, H', ⟨by have := HK1.out; omega⟩, ⟨by (with_reducible repeat (first | apply Kd.R_alloc | apply Kd.R_drewN | apply Kd.R_drew)); exact Kd.R_mono (rf (rf (rf (rn gb237 HO_27.out (·.2)) (·.2)) (·.2)) (·.2)) (fun _ hk => trivial)⟩, ⟨bq BK232.out⟩, ⟨bz⟩⟩
      ·rw [if_neg c18] at H; exact absurd H (by simp)
     ·rw [if_neg c17] at H; exact absurd H (by simp)
    ·rw [if_neg c16] at H; have c16b0 := decide_eq_false c16; clear c16; simp only [Option.some.injEq, Prod.mk.injEq] at H; obtain ⟨rfl, rfl⟩ := H
     go_wp2
     go_ret2
     exact ez
 ·rw [if_neg c7] at H; have c7b0 := beq_eq_false_iff_ne.mpr c7; have c7b1 := bne_iff_ne.mpr c7; simp only [Option.some.injEq, Prod.mk.injEq] at H; obtain ⟨rfl, rfl⟩ := H; go_enter Try.func24, Try.ntmps24
  go_wp2_with (first | ((with_reducible refine gc 22 rfl ?_); refine gl (some 13) Try.func22 #[.slice A0 l0.length c0] ?_; (with_reducible refine (L_CheckLayers.calls k _ _ l0 t224 t225 _ ?side1 ?side2 A3.out).mono ?_); (case side1 => repeat (first | exact HR0.out | (with_reducible refine Kd.C_alloc ?_ _) | (with_reducible refine Kd.C_drewN ?_ _) | (with_reducible refine Kd.C_drew ?_))); (case side2 => exact HC0.out); rintro e w26 ⟨rfl, hb⟩; refine ⟨_, rfl, ?_⟩; replace HB := sb HB hb; (try clear hb)) | ((with_reducible refine gc 70 rfl ?_); refine gl (some 18) Try.func70 #[.int .i64 a1, .int .i64 1, .int .i64 8] ?_; (with_reducible refine (L_within.calls a1 1 8 t226 _ A4.out).mono ?_); rintro e w' ⟨rfl, ⟨nd, rfl⟩⟩; refine ⟨_, rfl, ?_⟩) | ((with_reducible refine gc 69 rfl ?_); refine gl (some 19) Try.func69 #[.bool t226, .int .i64 2] ?_; (with_reducible refine (L_unless.calls t226 2 t227 _ A5.out).mono ?_); rintro e w' ⟨rfl, ⟨nd, rfl⟩⟩; refine ⟨_, rfl, ?_⟩) | ((with_reducible refine ga 20 rfl ?_); refine Kd.R_lit (Kd.int .i64) _ 26 ?hg (N := 20) ?hd (xs := ([t225, t227] : List Int)) (inner := [.int .i64 t225, .int .i64 t227]) (ok := fun _ => True) (okp := fun _ => True) ?hr ?hp (fun _ hk => hk) trivial (Below.refl _ _) (Nat.le_refl _) (by simp) ?_; (case hd => rfl); (case hg => rfl); (case hr => first | (go_simp; done) | (go_simp; rfl)); (case hp => exact (Reps.one (ki t225) (Reps.one (ki t227) (Reps.none _ _)))); intro v229 w27 ho28 hb hg_ hnew_; clear hg_ hnew_; (first | rw [← Ny228.out] at ho28 | (simp only [Int.reduceToNat] at ho28; rw [← Ny228.out] at ho28)); have HO230 := m0 (Kd.R_lower ho28 (below_size bz)); replace HB := sb HB hb; clear hb ho28; obtain ⟨Ao29, co29, eo29⟩ := Kd.R_slice HO230.out; subst eo29) | ((with_reducible refine gc 68 rfl ?_); refine gl (some 21) Try.func68 #[.slice Ao29 y228.length co29] ?_; (with_reducible refine (L_first.calls k _ _ y228 t231 _ ?side1 ?side2 A6.out).mono ?_); (case side1 => exact bc (Kd.R_reads' HO230.out).2.2); (case side2 => exact (Kd.R_reads' HO230.out).2.1); rintro e w' ⟨rfl, ⟨nd, rfl⟩⟩; refine ⟨_, rfl, ?_⟩))
  go_ret2
  exact ez
end
end Go.Proofs.Yteiafijbgjgiaaa.A
