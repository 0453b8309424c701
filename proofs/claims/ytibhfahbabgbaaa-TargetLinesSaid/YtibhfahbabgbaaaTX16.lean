/- Walks of the program's functions (printed, made shorter), each with what it computes. -/
import Derived.Test.YtibhfahbabgbaaaTX15
namespace Go.Proofs.Ytibhfahbabgbaaa.A
set_option maxHeartbeats 8000000
set_option maxRecDepth 100000
open Go.RowKit Go.Proofs.YtibhfahbabgbaaaW.PrintWords Go.Proofs.YtibhfahbabgbaaaW.PrintLast Go.Proofs.YtibhfahbabgbaaaW.PrintMore
attribute [local go_sem] max2_int min2_int max_two min_two max_three min_three max_four min_four
set_option linter.unusedVariables false
set_option linter.unusedSimpArgs false
section
def L_CheckLine.l0 : Nat → Int → Int → List (S85) → Int → Int → Int → Int → Int → Option (Int × Int)
 | 0, _, _, _, _, _, _, _, _ => none
 | k + 1, x8, x9, x26, x27, x28, x365000, x365001, x365002 => if x28 < x27 then (if 0 ≤ x28 then (if x28 < (x26.length : Int) then (L_CheckLine.l0 k (wrap64 (x8 + (wrap64 ((wrap64 ((wrap64 (x365002 * ((rd_T85 x26 x28).f1))) - (wrap64 (x365000 * ((rd_T85 x26 x28).f0))))) - x365001)))) (wrap64 (x9 + (wrap64 ((wrap64 ((wrap64 ((wrap64 (x365002 * ((rd_T85 x26 x28).f1))) - (wrap64 (x365000 * ((rd_T85 x26 x28).f0))))) - x365001)) * ((rd_T85 x26 x28).f0))))) x26 x27 (wrap64 (x28 + 1)) x365000 x365001 x365002) else (none)) else (none)) else (if x8 = 0 then (if x9 = 0 then (some (0, 0)) else (some (1, 17))) else (some (0, 17)))
def L_CheckLine.f (k : Nat) (l0 : List (S85)) (a1_0 : Int) (a1_1 : Int) (a1_2 : Int) : Option (Int × Int) := (L_open.f k l0).bind fun bt365 => ((L_lineErr.f k a1_0 a1_1 a1_2).bind fun t373 => ((L_first.f k (([bt365.2.2.2.2.2.2, t373] : List Int))).bind fun t377 => (if t377 = 0 then (L_CheckLine.l0 k 0 0 l0 (l0.length : Int) 0 a1_0 a1_1 a1_2) else (some (0, t377)))))
theorem L_CheckLine.mono_l : ∀ k, (∀ y0 y1 y2 y3 y4 y5 y6 y7, LeO (L_CheckLine.l0 k y0 y1 y2 y3 y4 y5 y6 y7) (L_CheckLine.l0 (k + 1) y0 y1 y2 y3 y4 y5 y6 y7))
 | 0 => fun _ _ _ _ _ _ _ _ r h => by simp [L_CheckLine.l0] at h
 | k + 1 => by
  have ih0 := L_CheckLine.mono_l k
  ·intro y0 y1 y2 y3 y4 y5 y6 y7; unfold L_CheckLine.l0
   repeat' with_reducible first
    | exact ih0 ..
    | exact L_first.mono ..
    | exact L_lineErr.mono ..
    | exact L_open.mono ..
    | exact LeO.refl ..
    | exact LeO.none ..
    | refine LeO.ite ?_ ?_
    | refine LeO.bind ?_ (fun _ => ?_)
theorem L_CheckLine.mono : ∀ a0 a1 a2 a3 k, LeO (L_CheckLine.f k a0 a1 a2 a3) (L_CheckLine.f (k + 1) a0 a1 a2 a3) := by
 intro a0 a1 a2 a3 k; have ih0 := L_CheckLine.mono_l k; unfold L_CheckLine.f
 repeat' with_reducible first
  | exact ih0 ..
  | exact L_first.mono ..
  | exact L_lineErr.mono ..
  | exact L_open.mono ..
  | exact LeO.refl ..
  | exact LeO.none ..
  | refine LeO.ite ?_ ?_
  | refine LeO.bind ?_ (fun _ => ?_)
theorem L_CheckLine.calls (k : Nat) (A0 : Option Addr) (c0 : Nat) (l0 : List (S85)) (a1_0 : Int) (a1_1 : Int) (a1_2 : Int) (r1 : Int) (r2 : Int) (w : World) (hr0 : Kd.C k85 w A0 l0.length l0) (hc0 : l0.length ≤ c0) (H : L_CheckLine.f k l0 a1_0 a1_1 a1_2 = some (r1, r2)) :
  Calls Try.prog 40 #[.slice A0 l0.length c0, .agg #[.int .i64 a1_0, .int .i64 a1_1, .int .i64 a1_2]] w fun e w' => e = .returned (.tuple #[.int .i64 r1, .int .i64 r2]) ∧ Below w.heap.size w w' := by
 have hu56 := Try.underlying56; have hu149 := Try.underlying149; have hu85 := Try.underlying85; have HR0 := m0 hr0; have HC0 := m0 hc0; clear hr0 hc0; have HB := m0 (Below.refl w.heap.size w); unfold L_CheckLine.f at H; replace H := oa H; obtain ⟨⟨t365, t366, t367, t368, t369, t370, t371⟩, A3, H⟩ := H; (try dsimp only at H); replace H := oa H; obtain ⟨t373, A4, H⟩ := H; (try dsimp only at H); obtain ⟨y374, hy374⟩ : ∃ y_ : List Int, y_ = (([t371, t373] : List Int)) := ⟨_, rfl⟩; replace H : ((L_first.f k y374).bind fun t377 => (if t377 = 0 then (L_CheckLine.l0 k 0 0 l0 (l0.length : Int) 0 a1_0 a1_1 a1_2) else (some (0, t377)))) = some (r1, r2) := by first | (rw [hy374]; with_reducible exact H) | (have H2_ := (Option.bind_some _ _).symm.trans H; rw [hy374]; with_reducible exact H2_) | (have H2_ := (Option.bind_some _ _).symm.trans H; with_reducible exact H2_) | with_reducible exact H | (rw [hy374]; exact H) | exact H
 have Ny374 := m0 hy374; clear hy374; replace H := oa H; obtain ⟨t377, A5, H⟩ := H; (try dsimp only at H)
 by_cases c6 : t377 = 0
 ·rw [if_pos c6] at H; have c6b0 := beq_iff_eq.mpr c6; have c6b1 := bne_eq_false_iff_eq.mpr c6; clear c6; have H' := m0 H; clear H; go_enter Try.func40, Try.ntmps40
  go_wp2_with (first | ((with_reducible refine ga 3 rfl ?_); refine be 3 56 #[.int .i64 a1_0, .int .i64 a1_1, .int .i64 a1_2] ?_; intro gb364 hg w7 hbox hb; have BK364 := m0 hbox; have GE364 := gw w hg; replace HB := sb HB hb; clear hb hbox hg) | (go_at_call 94; (with_reducible refine (L_open.calls k _ _ l0 t365 t366 t367 t368 t369 t370 t371 _ ?side1 ?side2 A3.out).mono ?_); (case side1 => exact cb HR0 HB); (case side2 => exact HC0.out); rintro e w8 ⟨rfl, hb⟩; replace BK364 := bb BK364 hb; replace HB := sb HB hb; (try clear hb)) | ((with_reducible refine ga 6 rfl ?_); refine be 6 149 #[.int .i64 0, .int .i64 0, .int .i64 0, .int .i64 0, .int .i64 0, .int .i64 0] ?_; intro gb372 hg w9 hbox hb; have BK372 := m0 hbox; have GE372 := gw w hg; replace HB := sb HB hb; have NB364_372 := nl BK364 hg; have NB372_364 := ng (nl BK364 hg); replace BK364 := bb BK364 hb; clear hb hbox hg; have hnb10 := NB372_364.out; have hnc10 := NB364_372.out; obtain ⟨hcz11_0, hcz11_1, hcz11_2, hcz11_3, hcz11_4, hcz11_5, hfz11_0, hfz11_1, hfz11_2, hfz11_3, hfz11_4, hfz11_5⟩ := b6 BK372; obtain ⟨hcz12_0, hcz12_1, hcz12_2, hfz12_0, hfz12_1, hfz12_2⟩ := b3 BK364) | (go_at_call 90; (with_reducible refine (L_lineErr.calls k a1_0 a1_1 a1_2 t373 _ A4.out).mono ?_); rintro e w13 ⟨rfl, hb⟩; replace BK364 := m0 (blk_below (g := gb364) (o := .cells #[.int .i64 a1_0, .int .i64 a1_1, .int .i64 a1_2] 56 (0, 0)) (bq BK364.out) hb); replace BK372 := m0 (blk_below (g := gb372) (o := .cells #[.int .i64 t365, .int .i64 t366, .int .i64 t367, .int .i64 t368, .int .i64 t369, .int .i64 t370] 149 (0, 0)) (bq BK372.out) hb); replace HB := sb HB hb; (try clear hb)) | ((with_reducible refine ga 21 rfl ?_); refine Kd.R_lit (Kd.int .i64) _ 24 ?hg (N := 21) ?hd (xs := ([t371, t373] : List Int)) (inner := [.int .i64 t371, .int .i64 t373]) (ok := fun _ => True) (okp := fun _ => True) ?hr ?hp (fun _ hk => hk) trivial (Below.refl _ _) (Nat.le_refl _) (by simp) ?_; (case hd => rfl); (case hg => rfl); (case hr => first | (go_simp; done) | (go_simp; rfl)); (case hp => exact (Reps.one (ki t371) (Reps.one (ki t373) (Reps.none _ _)))); intro v375 w14 ho15 hb hg_ hnew_; clear hg_ hnew_; (first | rw [← Ny374.out] at ho15 | (simp only [Int.reduceToNat] at ho15; rw [← Ny374.out] at ho15)); have HO376 := m0 (Kd.R_lower ho15 (below_size bz)); replace BK364 := bb BK364 hb; replace BK372 := bb BK372 hb; replace HB := sb HB hb; clear hb ho15; obtain ⟨Ao16, co16, eo16⟩ := Kd.R_slice HO376.out; subst eo16) | (go_at_call 75; (with_reducible refine (L_first.calls k _ _ y374 t377 _ ?side1 ?side2 A5.out).mono ?_); (case side1 => exact bc (Kd.R_reads' HO376.out).2.2); (case side2 => exact (Kd.R_reads' HO376.out).2.1); rintro e w' ⟨rfl, ⟨nd, rfl⟩⟩; (try first | exact ⟨rfl, _, World.drewN_drewN _ _ _⟩ | exact ⟨rfl, _, Eq.trans (World.drewN_drewN _ _ _) (congrArg (World.drewN _) (Nat.add_assoc _ _ _))⟩)))
  repeat (go_quiet (first | ((with_reducible refine ga 3 rfl ?_); refine be 3 56 #[.int .i64 a1_0, .int .i64 a1_1, .int .i64 a1_2] ?_; intro gb364 hg w7 hbox hb; have BK364 := m0 hbox; have GE364 := gw w hg; replace HB := sb HB hb; clear hb hbox hg) | (go_at_call 94; (with_reducible refine (L_open.calls k _ _ l0 t365 t366 t367 t368 t369 t370 t371 _ ?side1 ?side2 A3.out).mono ?_); (case side1 => exact cb HR0 HB); (case side2 => exact HC0.out); rintro e w8 ⟨rfl, hb⟩; replace BK364 := bb BK364 hb; replace HB := sb HB hb; (try clear hb)) | ((with_reducible refine ga 6 rfl ?_); refine be 6 149 #[.int .i64 0, .int .i64 0, .int .i64 0, .int .i64 0, .int .i64 0, .int .i64 0] ?_; intro gb372 hg w9 hbox hb; have BK372 := m0 hbox; have GE372 := gw w hg; replace HB := sb HB hb; have NB364_372 := nl BK364 hg; have NB372_364 := ng (nl BK364 hg); replace BK364 := bb BK364 hb; clear hb hbox hg; have hnb10 := NB372_364.out; have hnc10 := NB364_372.out; obtain ⟨hcz11_0, hcz11_1, hcz11_2, hcz11_3, hcz11_4, hcz11_5, hfz11_0, hfz11_1, hfz11_2, hfz11_3, hfz11_4, hfz11_5⟩ := b6 BK372; obtain ⟨hcz12_0, hcz12_1, hcz12_2, hfz12_0, hfz12_1, hfz12_2⟩ := b3 BK364) | (go_at_call 90; (with_reducible refine (L_lineErr.calls k a1_0 a1_1 a1_2 t373 _ A4.out).mono ?_); rintro e w13 ⟨rfl, hb⟩; replace BK364 := m0 (blk_below (g := gb364) (o := .cells #[.int .i64 a1_0, .int .i64 a1_1, .int .i64 a1_2] 56 (0, 0)) (bq BK364.out) hb); replace BK372 := m0 (blk_below (g := gb372) (o := .cells #[.int .i64 t365, .int .i64 t366, .int .i64 t367, .int .i64 t368, .int .i64 t369, .int .i64 t370] 149 (0, 0)) (bq BK372.out) hb); replace HB := sb HB hb; (try clear hb)) | ((with_reducible refine ga 21 rfl ?_); refine Kd.R_lit (Kd.int .i64) _ 24 ?hg (N := 21) ?hd (xs := ([t371, t373] : List Int)) (inner := [.int .i64 t371, .int .i64 t373]) (ok := fun _ => True) (okp := fun _ => True) ?hr ?hp (fun _ hk => hk) trivial (Below.refl _ _) (Nat.le_refl _) (by simp) ?_; (case hd => rfl); (case hg => rfl); (case hr => first | (go_simp; done) | (go_simp; rfl)); (case hp => exact (Reps.one (ki t371) (Reps.one (ki t373) (Reps.none _ _)))); intro v375 w14 ho15 hb hg_ hnew_; clear hg_ hnew_; (first | rw [← Ny374.out] at ho15 | (simp only [Int.reduceToNat] at ho15; rw [← Ny374.out] at ho15)); have HO376 := m0 (Kd.R_lower ho15 (below_size bz)); replace BK364 := bb BK364 hb; replace BK372 := bb BK372 hb; replace HB := sb HB hb; clear hb ho15; obtain ⟨Ao16, co16, eo16⟩ := Kd.R_slice HO376.out; subst eo16) | (go_at_call 75; (with_reducible refine (L_first.calls k _ _ y374 t377 _ ?side1 ?side2 A5.out).mono ?_); (case side1 => exact bc (Kd.R_reads' HO376.out).2.2); (case side2 => exact (Kd.R_reads' HO376.out).2.1); rintro e w' ⟨rfl, ⟨nd, rfl⟩⟩; (try first | exact ⟨rfl, _, World.drewN_drewN _ _ _⟩ | exact ⟨rfl, _, Eq.trans (World.drewN_drewN _ _ _) (congrArg (World.drewN _) (Nat.add_assoc _ _ _))⟩))); try go_wp2_with (first | ((with_reducible refine ga 3 rfl ?_); refine be 3 56 #[.int .i64 a1_0, .int .i64 a1_1, .int .i64 a1_2] ?_; intro gb364 hg w7 hbox hb; have BK364 := m0 hbox; have GE364 := gw w hg; replace HB := sb HB hb; clear hb hbox hg) | (go_at_call 94; (with_reducible refine (L_open.calls k _ _ l0 t365 t366 t367 t368 t369 t370 t371 _ ?side1 ?side2 A3.out).mono ?_); (case side1 => exact cb HR0 HB); (case side2 => exact HC0.out); rintro e w8 ⟨rfl, hb⟩; replace BK364 := bb BK364 hb; replace HB := sb HB hb; (try clear hb)) | ((with_reducible refine ga 6 rfl ?_); refine be 6 149 #[.int .i64 0, .int .i64 0, .int .i64 0, .int .i64 0, .int .i64 0, .int .i64 0] ?_; intro gb372 hg w9 hbox hb; have BK372 := m0 hbox; have GE372 := gw w hg; replace HB := sb HB hb; have NB364_372 := nl BK364 hg; have NB372_364 := ng (nl BK364 hg); replace BK364 := bb BK364 hb; clear hb hbox hg; have hnb10 := NB372_364.out; have hnc10 := NB364_372.out; obtain ⟨hcz11_0, hcz11_1, hcz11_2, hcz11_3, hcz11_4, hcz11_5, hfz11_0, hfz11_1, hfz11_2, hfz11_3, hfz11_4, hfz11_5⟩ := b6 BK372; obtain ⟨hcz12_0, hcz12_1, hcz12_2, hfz12_0, hfz12_1, hfz12_2⟩ := b3 BK364) | (go_at_call 90; (with_reducible refine (L_lineErr.calls k a1_0 a1_1 a1_2 t373 _ A4.out).mono ?_); rintro e w13 ⟨rfl, hb⟩; replace BK364 := m0 (blk_below (g := gb364) (o := .cells #[.int .i64 a1_0, .int .i64 a1_1, .int .i64 a1_2] 56 (0, 0)) (bq BK364.out) hb); replace BK372 := m0 (blk_below (g := gb372) (o := .cells #[.int .i64 t365, .int .i64 t366, .int .i64 t367, .int .i64 t368, .int .i64 t369, .int .i64 t370] 149 (0, 0)) (bq BK372.out) hb); replace HB := sb HB hb; (try clear hb)) | ((with_reducible refine ga 21 rfl ?_); refine Kd.R_lit (Kd.int .i64) _ 24 ?hg (N := 21) ?hd (xs := ([t371, t373] : List Int)) (inner := [.int .i64 t371, .int .i64 t373]) (ok := fun _ => True) (okp := fun _ => True) ?hr ?hp (fun _ hk => hk) trivial (Below.refl _ _) (Nat.le_refl _) (by simp) ?_; (case hd => rfl); (case hg => rfl); (case hr => first | (go_simp; done) | (go_simp; rfl)); (case hp => exact (Reps.one (ki t371) (Reps.one (ki t373) (Reps.none _ _)))); intro v375 w14 ho15 hb hg_ hnew_; clear hg_ hnew_; (first | rw [← Ny374.out] at ho15 | (simp only [Int.reduceToNat] at ho15; rw [← Ny374.out] at ho15)); have HO376 := m0 (Kd.R_lower ho15 (below_size bz)); replace BK364 := bb BK364 hb; replace BK372 := bb BK372 hb; replace HB := sb HB hb; clear hb ho15; obtain ⟨Ao16, co16, eo16⟩ := Kd.R_slice HO376.out; subst eo16) | (go_at_call 75; (with_reducible refine (L_first.calls k _ _ y374 t377 _ ?side1 ?side2 A5.out).mono ?_); (case side1 => exact bc (Kd.R_reads' HO376.out).2.2); (case side2 => exact (Kd.R_reads' HO376.out).2.1); rintro e w' ⟨rfl, ⟨nd, rfl⟩⟩; (try first | exact ⟨rfl, _, World.drewN_drewN _ _ _⟩ | exact ⟨rfl, _, Eq.trans (World.drewN_drewN _ _ _) (congrArg (World.drewN _) (Nat.add_assoc _ _ _))⟩))))
  go_loopg [8, 9, 28] k (fun kq v8 v9 v28 w' => ∃ (x8_1 : Int) (x9_1 : Int) (x28_1 : Int), v8 = .int .i64 x8_1 ∧ v9 = .int .i64 x9_1 ∧ v28 = .int .i64 x28_1 ∧ Aside0 (L_CheckLine.l0 kq x8_1 x9_1 l0 (l0.length : Int) x28_1 a1_0 a1_1 a1_2 = some (r1, r2)) ∧ Aside0 (kq ≤ k) ∧ Aside0 (w'.heap[gb364]? = some (.cells #[.int .i64 a1_0, .int .i64 a1_1, .int .i64 a1_2] 56 (0, 0))) ∧ Aside0 (w'.heap[gb372]? = some (.cells #[.int .i64 t365, .int .i64 t366, .int .i64 t367, .int .i64 t368, .int .i64 t369, .int .i64 t370] 149 (0, 0))) ∧ Aside0 (Below w.heap.size w w'))
  case atStart => exact ⟨(0), (0), (0), rz, rz, rz, H', ⟨Nat.le_refl _⟩, ⟨bk BK364.out⟩, ⟨bk BK372.out⟩, ⟨bz⟩⟩
  case round =>
   clear H'
   try clear hcz11_0
   try clear hcz11_1
   try clear hcz11_2
   try clear hcz11_3
   try clear hcz11_4
   try clear hcz11_5
   try clear hcz12_0
   try clear hcz12_1
   try clear hcz12_2
   try clear hfz11_0
   try clear hfz11_1
   try clear hfz11_2
   try clear hfz11_3
   try clear hfz11_4
   try clear hfz11_5
   try clear hfz12_0
   try clear hfz12_1
   try clear hfz12_2
   obtain ⟨x8_1, x9_1, x28_1, rfl, rfl, rfl, HA, HK1, BK364, BK372, HB⟩ := hrel
   cases gk with
   | zero => exact absurd HA.out (by simp [L_CheckLine.l0])
   | succ k1 =>
    have H := HA.out; clear HA; simp only [L_CheckLine.l0] at H
    by_cases c17 : x28_1 < (l0.length : Int)
    ·rw [if_pos c17] at H; have c17b0 := decide_eq_true c17; clear c17
     by_cases c18 : 0 ≤ x28_1
     ·rw [if_pos c18] at H; have c18b0 := decide_eq_true c18; clear c18
      by_cases c19 : x28_1 < (l0.length : Int)
      ·rw [if_pos c19] at H; have c19b0 := decide_eq_true c19; clear c19; have H' := m0 H; clear H; have p378 : 0 ≤ (x28_1 : Int) := od; have q378 : x28_1 < (l0.length : Int) := od; obtain ⟨ad378, e378, hx378_0, hx378_1, hx378_2⟩ := at_T85 HR0.out x28_1 p378 q378
       cases e378
       replace hx378_0 := hc HB hx378_0; replace hx378_1 := hc HB hx378_1; replace hx378_2 := hc HB hx378_2; replace p378 := eq_true p378; replace q378 := eq_true q378
       go_wp2_with (first | ((with_reducible refine ga 11 rfl ?_); refine be 11 85 #[.int .i64 0, .int .i64 0, .int .i64 0] ?_; intro gb379 hg w20 hbox hb; have BK379 := m0 hbox; have GE379 := gw w hg; replace HB := sb HB hb; have NB364_379 := nl BK364 hg; have NB379_364 := ng (nl BK364 hg); replace BK364 := bb BK364 hb; have NB372_379 := nl BK372 hg; have NB379_372 := ng (nl BK372 hg); replace BK372 := bb BK372 hb; clear hb hbox hg; have hnb21 := NB379_364.out; have hnc21 := NB364_379.out; have hnb22 := NB379_372.out; have hnc22 := NB372_379.out; obtain ⟨hcz23_0, hcz23_1, hcz23_2, hfz23_0, hfz23_1, hfz23_2⟩ := b3 BK379; have hnb24 := NB364_372.out; have hnc24 := NB372_364.out; obtain ⟨hcz25_0, hcz25_1, hcz25_2, hfz25_0, hfz25_1, hfz25_2⟩ := b3 BK364))
       repeat (go_quiet (first | ((with_reducible refine ga 11 rfl ?_); refine be 11 85 #[.int .i64 0, .int .i64 0, .int .i64 0] ?_; intro gb379 hg w20 hbox hb; have BK379 := m0 hbox; have GE379 := gw w hg; replace HB := sb HB hb; have NB364_379 := nl BK364 hg; have NB379_364 := ng (nl BK364 hg); replace BK364 := bb BK364 hb; have NB372_379 := nl BK372 hg; have NB379_372 := ng (nl BK372 hg); replace BK372 := bb BK372 hb; clear hb hbox hg; have hnb21 := NB379_364.out; have hnc21 := NB364_379.out; have hnb22 := NB379_372.out; have hnc22 := NB372_379.out; obtain ⟨hcz23_0, hcz23_1, hcz23_2, hfz23_0, hfz23_1, hfz23_2⟩ := b3 BK379; have hnb24 := NB364_372.out; have hnc24 := NB372_364.out; obtain ⟨hcz25_0, hcz25_1, hcz25_2, hfz25_0, hfz25_1, hfz25_2⟩ := b3 BK364)); try go_wp2_with (first | ((with_reducible refine ga 11 rfl ?_); refine be 11 85 #[.int .i64 0, .int .i64 0, .int .i64 0] ?_; intro gb379 hg w20 hbox hb; have BK379 := m0 hbox; have GE379 := gw w hg; replace HB := sb HB hb; have NB364_379 := nl BK364 hg; have NB379_364 := ng (nl BK364 hg); replace BK364 := bb BK364 hb; have NB372_379 := nl BK372 hg; have NB379_372 := ng (nl BK372 hg); replace BK372 := bb BK372 hb; clear hb hbox hg; have hnb21 := NB379_364.out; have hnc21 := NB364_379.out; have hnb22 := NB379_372.out; have hnc22 := NB372_379.out; obtain ⟨hcz23_0, hcz23_1, hcz23_2, hfz23_0, hfz23_1, hfz23_2⟩ := b3 BK379; have hnb24 := NB364_372.out; have hnc24 := NB372_364.out; obtain ⟨hcz25_0, hcz25_1, hcz25_2, hfz25_0, hfz25_1, hfz25_2⟩ := b3 BK364)))
       go_roundg k1
       case measure => have := HK1.out; omega
       case rel => exact ⟨(wrap64 (x8_1 + (wrap64 ((wrap64 ((wrap64 (a1_2 * ((rd_T85 l0 x28_1).f1))) - (wrap64 (a1_0 * ((rd_T85 l0 x28_1).f0))))) - a1_1)))), (wrap64 (x9_1 + (wrap64 ((wrap64 ((wrap64 ((wrap64 (a1_2 * ((rd_T85 l0 x28_1).f1))) - (wrap64 (a1_0 * ((rd_T85 l0 x28_1).f0))))) - a1_1)) * ((rd_T85 l0 x28_1).f0))))), (wrap64 (x28_1 + 1)), rz, rz, rz, H', ⟨by have := HK1.out; omega⟩, ⟨bq BK364.out⟩, ⟨bq BK372.out⟩, ⟨bz⟩⟩
      ·rw [if_neg c19] at H; exact absurd H (by simp)
     ·rw [if_neg c18] at H; exact absurd H (by simp)
    ·rw [if_neg c17] at H; have c17b0 := decide_eq_false c17; clear c17
     by_cases c26 : x8_1 = 0
     ·rw [if_pos c26] at H; have c26b0 := beq_iff_eq.mpr c26; have c26b1 := bne_eq_false_iff_eq.mpr c26; clear c26
      by_cases c27 : x9_1 = 0
      ·rw [if_pos c27] at H; have c27b0 := beq_iff_eq.mpr c27; have c27b1 := bne_eq_false_iff_eq.mpr c27; clear c27; simp only [Option.some.injEq, Prod.mk.injEq] at H; obtain ⟨rfl, rfl⟩ := H
       go_wp2
       repeat (go_quiet (fail); try go_wp2)
       go_ret2
       exact ez
      ·rw [if_neg c27] at H; have c27b0 := beq_eq_false_iff_ne.mpr c27; have c27b1 := bne_iff_ne.mpr c27; simp only [Option.some.injEq, Prod.mk.injEq] at H; obtain ⟨rfl, rfl⟩ := H
       go_wp2
       repeat (go_quiet (fail); try go_wp2)
       go_ret2
       exact ez
     ·rw [if_neg c26] at H; have c26b0 := beq_eq_false_iff_ne.mpr c26; have c26b1 := bne_iff_ne.mpr c26; simp only [Option.some.injEq, Prod.mk.injEq] at H; obtain ⟨rfl, rfl⟩ := H
      go_wp2
      repeat (go_quiet (fail); try go_wp2)
      go_ret2
      exact ez
 ·rw [if_neg c6] at H; have c6b0 := beq_eq_false_iff_ne.mpr c6; have c6b1 := bne_iff_ne.mpr c6; simp only [Option.some.injEq, Prod.mk.injEq] at H; obtain ⟨rfl, rfl⟩ := H; go_enter Try.func40, Try.ntmps40
  go_wp2_with (first | ((with_reducible refine ga 3 rfl ?_); refine be 3 56 #[.int .i64 a1_0, .int .i64 a1_1, .int .i64 a1_2] ?_; intro gb364 hg w28 hbox hb; have BK364 := m0 hbox; have GE364 := gw w hg; replace HB := sb HB hb; clear hb hbox hg) | (go_at_call 94; (with_reducible refine (L_open.calls k _ _ l0 t365 t366 t367 t368 t369 t370 t371 _ ?side1 ?side2 A3.out).mono ?_); (case side1 => exact cb HR0 HB); (case side2 => exact HC0.out); rintro e w29 ⟨rfl, hb⟩; replace BK364 := bb BK364 hb; replace HB := sb HB hb; (try clear hb)) | ((with_reducible refine ga 6 rfl ?_); refine be 6 149 #[.int .i64 0, .int .i64 0, .int .i64 0, .int .i64 0, .int .i64 0, .int .i64 0] ?_; intro gb372 hg w30 hbox hb; have BK372 := m0 hbox; have GE372 := gw w hg; replace HB := sb HB hb; have NB364_372 := nl BK364 hg; have NB372_364 := ng (nl BK364 hg); replace BK364 := bb BK364 hb; clear hb hbox hg; have hnb31 := NB372_364.out; have hnc31 := NB364_372.out; obtain ⟨hcz32_0, hcz32_1, hcz32_2, hcz32_3, hcz32_4, hcz32_5, hfz32_0, hfz32_1, hfz32_2, hfz32_3, hfz32_4, hfz32_5⟩ := b6 BK372; obtain ⟨hcz33_0, hcz33_1, hcz33_2, hfz33_0, hfz33_1, hfz33_2⟩ := b3 BK364) | (go_at_call 90; (with_reducible refine (L_lineErr.calls k a1_0 a1_1 a1_2 t373 _ A4.out).mono ?_); rintro e w34 ⟨rfl, hb⟩; replace BK364 := m0 (blk_below (g := gb364) (o := .cells #[.int .i64 a1_0, .int .i64 a1_1, .int .i64 a1_2] 56 (0, 0)) (bq BK364.out) hb); replace BK372 := m0 (blk_below (g := gb372) (o := .cells #[.int .i64 t365, .int .i64 t366, .int .i64 t367, .int .i64 t368, .int .i64 t369, .int .i64 t370] 149 (0, 0)) (bq BK372.out) hb); replace HB := sb HB hb; (try clear hb)) | ((with_reducible refine ga 21 rfl ?_); refine Kd.R_lit (Kd.int .i64) _ 24 ?hg (N := 21) ?hd (xs := ([t371, t373] : List Int)) (inner := [.int .i64 t371, .int .i64 t373]) (ok := fun _ => True) (okp := fun _ => True) ?hr ?hp (fun _ hk => hk) trivial (Below.refl _ _) (Nat.le_refl _) (by simp) ?_; (case hd => rfl); (case hg => rfl); (case hr => first | (go_simp; done) | (go_simp; rfl)); (case hp => exact (Reps.one (ki t371) (Reps.one (ki t373) (Reps.none _ _)))); intro v375 w35 ho36 hb hg_ hnew_; clear hg_ hnew_; (first | rw [← Ny374.out] at ho36 | (simp only [Int.reduceToNat] at ho36; rw [← Ny374.out] at ho36)); have HO376 := m0 (Kd.R_lower ho36 (below_size bz)); replace BK364 := bb BK364 hb; replace BK372 := bb BK372 hb; replace HB := sb HB hb; clear hb ho36; obtain ⟨Ao37, co37, eo37⟩ := Kd.R_slice HO376.out; subst eo37) | (go_at_call 75; (with_reducible refine (L_first.calls k _ _ y374 t377 _ ?side1 ?side2 A5.out).mono ?_); (case side1 => exact bc (Kd.R_reads' HO376.out).2.2); (case side2 => exact (Kd.R_reads' HO376.out).2.1); rintro e w' ⟨rfl, ⟨nd, rfl⟩⟩; (try first | exact ⟨rfl, _, World.drewN_drewN _ _ _⟩ | exact ⟨rfl, _, Eq.trans (World.drewN_drewN _ _ _) (congrArg (World.drewN _) (Nat.add_assoc _ _ _))⟩)))
  repeat (go_quiet (first | ((with_reducible refine ga 3 rfl ?_); refine be 3 56 #[.int .i64 a1_0, .int .i64 a1_1, .int .i64 a1_2] ?_; intro gb364 hg w28 hbox hb; have BK364 := m0 hbox; have GE364 := gw w hg; replace HB := sb HB hb; clear hb hbox hg) | (go_at_call 94; (with_reducible refine (L_open.calls k _ _ l0 t365 t366 t367 t368 t369 t370 t371 _ ?side1 ?side2 A3.out).mono ?_); (case side1 => exact cb HR0 HB); (case side2 => exact HC0.out); rintro e w29 ⟨rfl, hb⟩; replace BK364 := bb BK364 hb; replace HB := sb HB hb; (try clear hb)) | ((with_reducible refine ga 6 rfl ?_); refine be 6 149 #[.int .i64 0, .int .i64 0, .int .i64 0, .int .i64 0, .int .i64 0, .int .i64 0] ?_; intro gb372 hg w30 hbox hb; have BK372 := m0 hbox; have GE372 := gw w hg; replace HB := sb HB hb; have NB364_372 := nl BK364 hg; have NB372_364 := ng (nl BK364 hg); replace BK364 := bb BK364 hb; clear hb hbox hg; have hnb31 := NB372_364.out; have hnc31 := NB364_372.out; obtain ⟨hcz32_0, hcz32_1, hcz32_2, hcz32_3, hcz32_4, hcz32_5, hfz32_0, hfz32_1, hfz32_2, hfz32_3, hfz32_4, hfz32_5⟩ := b6 BK372; obtain ⟨hcz33_0, hcz33_1, hcz33_2, hfz33_0, hfz33_1, hfz33_2⟩ := b3 BK364) | (go_at_call 90; (with_reducible refine (L_lineErr.calls k a1_0 a1_1 a1_2 t373 _ A4.out).mono ?_); rintro e w34 ⟨rfl, hb⟩; replace BK364 := m0 (blk_below (g := gb364) (o := .cells #[.int .i64 a1_0, .int .i64 a1_1, .int .i64 a1_2] 56 (0, 0)) (bq BK364.out) hb); replace BK372 := m0 (blk_below (g := gb372) (o := .cells #[.int .i64 t365, .int .i64 t366, .int .i64 t367, .int .i64 t368, .int .i64 t369, .int .i64 t370] 149 (0, 0)) (bq BK372.out) hb); replace HB := sb HB hb; (try clear hb)) | ((with_reducible refine ga 21 rfl ?_); refine Kd.R_lit (Kd.int .i64) _ 24 ?hg (N := 21) ?hd (xs := ([t371, t373] : List Int)) (inner := [.int .i64 t371, .int .i64 t373]) (ok := fun _ => True) (okp := fun _ => True) ?hr ?hp (fun _ hk => hk) trivial (Below.refl _ _) (Nat.le_refl _) (by simp) ?_; (case hd => rfl); (case hg => rfl); (case hr => first | (go_simp; done) | (go_simp; rfl)); (case hp => exact (Reps.one (ki t371) (Reps.one (ki t373) (Reps.none _ _)))); intro v375 w35 ho36 hb hg_ hnew_; clear hg_ hnew_; (first | rw [← Ny374.out] at ho36 | (simp only [Int.reduceToNat] at ho36; rw [← Ny374.out] at ho36)); have HO376 := m0 (Kd.R_lower ho36 (below_size bz)); replace BK364 := bb BK364 hb; replace BK372 := bb BK372 hb; replace HB := sb HB hb; clear hb ho36; obtain ⟨Ao37, co37, eo37⟩ := Kd.R_slice HO376.out; subst eo37) | (go_at_call 75; (with_reducible refine (L_first.calls k _ _ y374 t377 _ ?side1 ?side2 A5.out).mono ?_); (case side1 => exact bc (Kd.R_reads' HO376.out).2.2); (case side2 => exact (Kd.R_reads' HO376.out).2.1); rintro e w' ⟨rfl, ⟨nd, rfl⟩⟩; (try first | exact ⟨rfl, _, World.drewN_drewN _ _ _⟩ | exact ⟨rfl, _, Eq.trans (World.drewN_drewN _ _ _) (congrArg (World.drewN _) (Nat.add_assoc _ _ _))⟩))); try go_wp2_with (first | ((with_reducible refine ga 3 rfl ?_); refine be 3 56 #[.int .i64 a1_0, .int .i64 a1_1, .int .i64 a1_2] ?_; intro gb364 hg w28 hbox hb; have BK364 := m0 hbox; have GE364 := gw w hg; replace HB := sb HB hb; clear hb hbox hg) | (go_at_call 94; (with_reducible refine (L_open.calls k _ _ l0 t365 t366 t367 t368 t369 t370 t371 _ ?side1 ?side2 A3.out).mono ?_); (case side1 => exact cb HR0 HB); (case side2 => exact HC0.out); rintro e w29 ⟨rfl, hb⟩; replace BK364 := bb BK364 hb; replace HB := sb HB hb; (try clear hb)) | ((with_reducible refine ga 6 rfl ?_); refine be 6 149 #[.int .i64 0, .int .i64 0, .int .i64 0, .int .i64 0, .int .i64 0, .int .i64 0] ?_; intro gb372 hg w30 hbox hb; have BK372 := m0 hbox; have GE372 := gw w hg; replace HB := sb HB hb; have NB364_372 := nl BK364 hg; have NB372_364 := ng (nl BK364 hg); replace BK364 := bb BK364 hb; clear hb hbox hg; have hnb31 := NB372_364.out; have hnc31 := NB364_372.out; obtain ⟨hcz32_0, hcz32_1, hcz32_2, hcz32_3, hcz32_4, hcz32_5, hfz32_0, hfz32_1, hfz32_2, hfz32_3, hfz32_4, hfz32_5⟩ := b6 BK372; obtain ⟨hcz33_0, hcz33_1, hcz33_2, hfz33_0, hfz33_1, hfz33_2⟩ := b3 BK364) | (go_at_call 90; (with_reducible refine (L_lineErr.calls k a1_0 a1_1 a1_2 t373 _ A4.out).mono ?_); rintro e w34 ⟨rfl, hb⟩; replace BK364 := m0 (blk_below (g := gb364) (o := .cells #[.int .i64 a1_0, .int .i64 a1_1, .int .i64 a1_2] 56 (0, 0)) (bq BK364.out) hb); replace BK372 := m0 (blk_below (g := gb372) (o := .cells #[.int .i64 t365, .int .i64 t366, .int .i64 t367, .int .i64 t368, .int .i64 t369, .int .i64 t370] 149 (0, 0)) (bq BK372.out) hb); replace HB := sb HB hb; (try clear hb)) | ((with_reducible refine ga 21 rfl ?_); refine Kd.R_lit (Kd.int .i64) _ 24 ?hg (N := 21) ?hd (xs := ([t371, t373] : List Int)) (inner := [.int .i64 t371, .int .i64 t373]) (ok := fun _ => True) (okp := fun _ => True) ?hr ?hp (fun _ hk => hk) trivial (Below.refl _ _) (Nat.le_refl _) (by simp) ?_; (case hd => rfl); (case hg => rfl); (case hr => first | (go_simp; done) | (go_simp; rfl)); (case hp => exact (Reps.one (ki t371) (Reps.one (ki t373) (Reps.none _ _)))); intro v375 w35 ho36 hb hg_ hnew_; clear hg_ hnew_; (first | rw [← Ny374.out] at ho36 | (simp only [Int.reduceToNat] at ho36; rw [← Ny374.out] at ho36)); have HO376 := m0 (Kd.R_lower ho36 (below_size bz)); replace BK364 := bb BK364 hb; replace BK372 := bb BK372 hb; replace HB := sb HB hb; clear hb ho36; obtain ⟨Ao37, co37, eo37⟩ := Kd.R_slice HO376.out; subst eo37) | (go_at_call 75; (with_reducible refine (L_first.calls k _ _ y374 t377 _ ?side1 ?side2 A5.out).mono ?_); (case side1 => exact bc (Kd.R_reads' HO376.out).2.2); (case side2 => exact (Kd.R_reads' HO376.out).2.1); rintro e w' ⟨rfl, ⟨nd, rfl⟩⟩; (try first | exact ⟨rfl, _, World.drewN_drewN _ _ _⟩ | exact ⟨rfl, _, Eq.trans (World.drewN_drewN _ _ _) (congrArg (World.drewN _) (Nat.add_assoc _ _ _))⟩))))
  go_ret2
  exact ez
end
section
def Rf_CheckReadings.l0 : Nat → List (S85) → Int → Option (Int × Int)
  | 0, _, _ => none
  | k + 1, x0, x4 => if x4 < (x0.length : Int) then (if 0 ≤ x4 then ((Bs_Within.f ((rd_T85 x0 x4).f0) 0 2000).bind fun t381 => (if t381 = true then ((Bs_Within.f ((rd_T85 x0 x4).f1) 0 2000).bind fun t383 => (if t383 = true then ((Bs_Within.f ((rd_T85 x0 x4).f2) 0 1000).bind fun t385 => (if t385 = true then (Rf_CheckReadings.l0 k x0 (wrap64 (x4 + 1))) else (some (x4, 2)))) else (some (x4, 2)))) else (some (x4, 2)))) else (none)) else (some (0, 0))
def Rf_CheckReadings.f (k : Nat) (l0 : List (S85)) : Option (Int × Int) := if (l0.length : Int) = 0 then (some (0, 10)) else (if (l0.length : Int) > 8 then (some (0, 8)) else (Rf_CheckReadings.l0 k l0 0))
theorem Rf_CheckReadings.mono_l : ∀ k, (∀ y0 y1, LeO (Rf_CheckReadings.l0 k y0 y1) (Rf_CheckReadings.l0 (k + 1) y0 y1))
  | 0 => fun _ _ r h => by simp [Rf_CheckReadings.l0] at h
  | k + 1 => by
    have ih0 := Rf_CheckReadings.mono_l k
    · intro y0 y1; unfold Rf_CheckReadings.l0
      repeat' with_reducible first
        | exact ih0 ..
        | exact LeO.refl ..
        | exact LeO.none ..
        | refine LeO.ite ?_ ?_
        | refine LeO.bind ?_ (fun _ => ?_)
theorem Rf_CheckReadings.mono : ∀ a0 k, LeO (Rf_CheckReadings.f k a0) (Rf_CheckReadings.f (k + 1) a0) := by
  intro a0 k; have ih0 := Rf_CheckReadings.mono_l k; unfold Rf_CheckReadings.f
  repeat' with_reducible first
    | exact ih0 ..
    | exact LeO.refl ..
    | exact LeO.none ..
    | refine LeO.ite ?_ ?_
    | refine LeO.bind ?_ (fun _ => ?_)
theorem Rf_CheckReadings.calls (k : Nat) (A0 : Option Addr) (c0 : Nat) (l0 : List (S85)) (r1 : Int) (r2 : Int) (w : World) (hr0 : Kd.C k85 w A0 l0.length l0) (hc0 : l0.length ≤ c0) (H : Rf_CheckReadings.f k l0 = some (r1, r2)) :
    Calls Try.prog 58 #[.slice A0 l0.length c0] w fun e w' => e = .returned (.tuple #[.int .i64 r1, .int .i64 r2]) ∧ Drawn0 w w' := by
  have HR0 := m0 hr0; have HC0 := m0 hc0; clear hr0 hc0; unfold Rf_CheckReadings.f at H
  by_cases c2 : (l0.length : Int) = 0
  · rw [if_pos c2] at H; have c2b0 := beq_iff_eq.mpr c2; have c2b1 := bne_eq_false_iff_eq.mpr c2; clear c2; simp only [Option.some.injEq, Prod.mk.injEq] at H; obtain ⟨rfl, rfl⟩ := H; go_enter Try.func58, Try.ntmps58
    go_wp2
    go_ret2
    exact ⟨rz, by repeat (first | exact Drawn0.refl _ | apply Drawn0.step)⟩
  · rw [if_neg c2] at H; have c2b0 := beq_eq_false_iff_ne.mpr c2; have c2b1 := bne_iff_ne.mpr c2; have c2b2 : ¬ (l0 = []) := fun h_ => c2 (by rw [h_]; rfl)
    by_cases c3 : (l0.length : Int) > 8
    · rw [if_pos c3] at H; have c3b0 := decide_eq_true c3; have c3b1 : decide (8 < l0.length) = true := decide_eq_true (by omega); clear c3; simp only [Option.some.injEq, Prod.mk.injEq] at H; obtain ⟨rfl, rfl⟩ := H; go_enter Try.func58, Try.ntmps58
      go_wp2
      go_ret2
      exact ⟨rz, by repeat (first | exact Drawn0.refl _ | apply Drawn0.step)⟩
    · rw [if_neg c3] at H; have c3b0 := decide_eq_false c3; have c3b1 : decide (8 < l0.length) = false := decide_eq_false (by omega); clear c3; have H' := m0 H; clear H; go_enter Try.func58, Try.ntmps58
      go_wp2
      go_loopg [4] k (fun kq v4 w' => ∃ (x4_1 : Int), v4 = .int .i64 x4_1 ∧ Aside0 (Rf_CheckReadings.l0 kq l0 x4_1 = some (r1, r2)) ∧ Aside0 (kq ≤ k) ∧ Drawn0 w w')
      case atStart => exact ⟨(0), rz, H', ⟨Nat.le_refl _⟩, by repeat (first | exact Drawn0.refl _ | apply Drawn0.step)⟩
      case round =>
        clear H'; obtain ⟨x4_1, rfl, HA, HK1, ⟨m1, rfl⟩⟩ := hrel
        cases gk with
        | zero => exact absurd HA.out (by simp [Rf_CheckReadings.l0])
        | succ k1 =>
          have H := HA.out; clear HA; simp only [Rf_CheckReadings.l0] at H
          by_cases c4 : x4_1 < (l0.length : Int)
          · rw [if_pos c4] at H; have c4b0 := decide_eq_true c4; clear c4
            by_cases c5 : 0 ≤ x4_1
            · rw [if_pos c5] at H; have c5b0 := decide_eq_true c5; clear c5; replace H := oa H; obtain ⟨t381, A6, H⟩ := H; (try dsimp only at H)
              by_cases c7 : t381 = true
              · subst c7; rw [if_pos rfl] at H; replace H := oa H; obtain ⟨t383, A8, H⟩ := H; (try dsimp only at H)
                by_cases c9 : t383 = true
                · subst c9; rw [if_pos rfl] at H; replace H := oa H; obtain ⟨t385, A10, H⟩ := H; (try dsimp only at H)
                  by_cases c11 : t385 = true
                  · subst c11; rw [if_pos rfl] at H; have H' := m0 H; clear H; have p380 : 0 ≤ (x4_1 : Int) := od; have q380 : x4_1 < (l0.length : Int) := od; obtain ⟨ad380, e380, hx380_0, hx380_1, hx380_2⟩ := at_T85 HR0.out x4_1 p380 q380
                    cases e380
                    replace p380 := eq_true p380; replace q380 := eq_true q380
                    go_wp2_with (first | ((with_reducible refine gc 24 rfl ?_); refine gl (some 22) Try.func24 #[.int .i64 ((rd_T85 l0 x4_1).f0), .int .i64 0, .int .i64 2000] ?_; (with_reducible refine (Bs_Within.calls ((rd_T85 l0 x4_1).f0) 0 2000 true _ A6.out).mono ?_); rintro e w' ⟨rfl, ⟨nd, rfl⟩⟩; refine ⟨_, rfl, ?_⟩; have p382 : 0 ≤ (x4_1 : Int) := od; have q382 : x4_1 < (l0.length : Int) := od; obtain ⟨ad382, e382, hx382_0, hx382_1, hx382_2⟩ := at_T85 HR0.out x4_1 p382 q382; obtain rfl : ad380 = ad382 := (by injection e382); replace p382 := eq_true p382; replace q382 := eq_true q382) | (go_at_call 24; (with_reducible refine (Bs_Within.calls ((rd_T85 l0 x4_1).f1) 0 2000 true _ A8.out).mono ?_); rintro e w' ⟨rfl, ⟨nd, rfl⟩⟩; have p384 : 0 ≤ (x4_1 : Int) := od; have q384 : x4_1 < (l0.length : Int) := od; obtain ⟨ad384, e384, hx384_0, hx384_1, hx384_2⟩ := at_T85 HR0.out x4_1 p384 q384; obtain rfl : ad380 = ad384 := (by injection e384); replace p384 := eq_true p384; replace q384 := eq_true q384) | (go_at_call 24; (with_reducible refine (Bs_Within.calls ((rd_T85 l0 x4_1).f2) 0 1000 true _ A10.out).mono ?_); rintro e w' ⟨rfl, ⟨nd, rfl⟩⟩))
                    go_roundg k1
                    case measure => have := HK1.out; omega
                    case rel => exact ⟨(wrap64 (x4_1 + 1)), rz, H', ⟨by have := HK1.out; omega⟩, by repeat (first | exact Drawn0.refl _ | apply Drawn0.step)⟩
                  · replace c11 := Bool.eq_false_iff.mpr c11; subst c11; rw [if_neg (show ¬ (false = true) by decide)] at H; simp only [Option.some.injEq, Prod.mk.injEq] at H; obtain ⟨rfl, rfl⟩ := H; have p380 : 0 ≤ (x4_1 : Int) := od; have q380 : x4_1 < (l0.length : Int) := od; obtain ⟨ad380, e380, hx380_0, hx380_1, hx380_2⟩ := at_T85 HR0.out x4_1 p380 q380
                    cases e380
                    replace p380 := eq_true p380; replace q380 := eq_true q380
                    go_wp2_with (first | ((with_reducible refine gc 24 rfl ?_); refine gl (some 22) Try.func24 #[.int .i64 ((rd_T85 l0 x4_1).f0), .int .i64 0, .int .i64 2000] ?_; (with_reducible refine (Bs_Within.calls ((rd_T85 l0 x4_1).f0) 0 2000 true _ A6.out).mono ?_); rintro e w' ⟨rfl, ⟨nd, rfl⟩⟩; refine ⟨_, rfl, ?_⟩; have p382 : 0 ≤ (x4_1 : Int) := od; have q382 : x4_1 < (l0.length : Int) := od; obtain ⟨ad382, e382, hx382_0, hx382_1, hx382_2⟩ := at_T85 HR0.out x4_1 p382 q382; obtain rfl : ad380 = ad382 := (by injection e382); replace p382 := eq_true p382; replace q382 := eq_true q382) | (go_at_call 24; (with_reducible refine (Bs_Within.calls ((rd_T85 l0 x4_1).f1) 0 2000 true _ A8.out).mono ?_); rintro e w' ⟨rfl, ⟨nd, rfl⟩⟩; have p384 : 0 ≤ (x4_1 : Int) := od; have q384 : x4_1 < (l0.length : Int) := od; obtain ⟨ad384, e384, hx384_0, hx384_1, hx384_2⟩ := at_T85 HR0.out x4_1 p384 q384; obtain rfl : ad380 = ad384 := (by injection e384); replace p384 := eq_true p384; replace q384 := eq_true q384) | (go_at_call 24; (with_reducible refine (Bs_Within.calls ((rd_T85 l0 x4_1).f2) 0 1000 false _ A10.out).mono ?_); rintro e w' ⟨rfl, ⟨nd, rfl⟩⟩))
                    go_ret2
                    exact ⟨rz, by repeat (first | exact Drawn0.refl _ | apply Drawn0.step)⟩
                · replace c9 := Bool.eq_false_iff.mpr c9; subst c9; rw [if_neg (show ¬ (false = true) by decide)] at H; simp only [Option.some.injEq, Prod.mk.injEq] at H; obtain ⟨rfl, rfl⟩ := H; have p380 : 0 ≤ (x4_1 : Int) := od; have q380 : x4_1 < (l0.length : Int) := od; obtain ⟨ad380, e380, hx380_0, hx380_1, hx380_2⟩ := at_T85 HR0.out x4_1 p380 q380
                  cases e380
                  replace p380 := eq_true p380; replace q380 := eq_true q380
                  go_wp2_with (first | ((with_reducible refine gc 24 rfl ?_); refine gl (some 22) Try.func24 #[.int .i64 ((rd_T85 l0 x4_1).f0), .int .i64 0, .int .i64 2000] ?_; (with_reducible refine (Bs_Within.calls ((rd_T85 l0 x4_1).f0) 0 2000 true _ A6.out).mono ?_); rintro e w' ⟨rfl, ⟨nd, rfl⟩⟩; refine ⟨_, rfl, ?_⟩; have p382 : 0 ≤ (x4_1 : Int) := od; have q382 : x4_1 < (l0.length : Int) := od; obtain ⟨ad382, e382, hx382_0, hx382_1, hx382_2⟩ := at_T85 HR0.out x4_1 p382 q382; obtain rfl : ad380 = ad382 := (by injection e382); replace p382 := eq_true p382; replace q382 := eq_true q382) | (go_at_call 24; (with_reducible refine (Bs_Within.calls ((rd_T85 l0 x4_1).f1) 0 2000 false _ A8.out).mono ?_); rintro e w' ⟨rfl, ⟨nd, rfl⟩⟩))
                  go_ret2
                  exact ⟨rz, by repeat (first | exact Drawn0.refl _ | apply Drawn0.step)⟩
              · replace c7 := Bool.eq_false_iff.mpr c7; subst c7; rw [if_neg (show ¬ (false = true) by decide)] at H; simp only [Option.some.injEq, Prod.mk.injEq] at H; obtain ⟨rfl, rfl⟩ := H; have p380 : 0 ≤ (x4_1 : Int) := od; have q380 : x4_1 < (l0.length : Int) := od; obtain ⟨ad380, e380, hx380_0, hx380_1, hx380_2⟩ := at_T85 HR0.out x4_1 p380 q380
                cases e380
                replace p380 := eq_true p380; replace q380 := eq_true q380
                go_wp2_with (first | ((with_reducible refine gc 24 rfl ?_); refine gl (some 22) Try.func24 #[.int .i64 ((rd_T85 l0 x4_1).f0), .int .i64 0, .int .i64 2000] ?_; (with_reducible refine (Bs_Within.calls ((rd_T85 l0 x4_1).f0) 0 2000 false _ A6.out).mono ?_); rintro e w' ⟨rfl, ⟨nd, rfl⟩⟩; refine ⟨_, rfl, ?_⟩))
                go_ret2
                exact ⟨rz, by repeat (first | exact Drawn0.refl _ | apply Drawn0.step)⟩
            · rw [if_neg c5] at H; exact absurd H (by simp)
          · rw [if_neg c4] at H; have c4b0 := decide_eq_false c4; clear c4; simp only [Option.some.injEq, Prod.mk.injEq] at H; obtain ⟨rfl, rfl⟩ := H
            go_wp2
            go_ret2
            exact ⟨rz, by repeat (first | exact Drawn0.refl _ | apply Drawn0.step)⟩
end
section
def Rf_ReadingsErr.f (k : Nat) (l0 : List (S85)) : Option (Int) := (Rf_CheckReadings.f k l0).bind fun bt386 => (some bt386.2)
theorem Rf_ReadingsErr.mono : ∀ a0 k, LeO (Rf_ReadingsErr.f k a0) (Rf_ReadingsErr.f (k + 1) a0) := by
 intro a0 k; unfold Rf_ReadingsErr.f
 repeat' with_reducible first
  | exact Rf_CheckReadings.mono ..
  | exact LeO.refl ..
  | exact LeO.none ..
  | refine LeO.ite ?_ ?_
  | refine LeO.bind ?_ (fun _ => ?_)
theorem Rf_ReadingsErr.calls (k : Nat) (A0 : Option Addr) (c0 : Nat) (l0 : List (S85)) (r : Int) (w : World) (hr0 : Kd.C k85 w A0 l0.length l0) (hc0 : l0.length ≤ c0) (H : Rf_ReadingsErr.f k l0 = some r) :
  Calls Try.prog 41 #[.slice A0 l0.length c0] w fun e w' => e = .returned (.int .i64 r) ∧ Drawn0 w w' := by
 have HR0 := m0 hr0; have HC0 := m0 hc0; clear hr0 hc0; unfold Rf_ReadingsErr.f at H; replace H := oa H; obtain ⟨⟨t386, t387⟩, A2, H⟩ := H; (try dsimp only at H); obtain rfl := Option.some.inj H; go_enter Try.func41, Try.ntmps41
 go_wp2_with (first | ((with_reducible refine gc 58 rfl ?_); refine gl (some 7) Try.func58 #[.slice A0 l0.length c0] ?_; (with_reducible refine (Rf_CheckReadings.calls k _ _ l0 t386 t387 _ ?side1 ?side2 A2.out).mono ?_); (case side1 => repeat (first | exact HR0.out | (with_reducible refine Kd.C_alloc ?_ _) | (with_reducible refine Kd.C_drewN ?_ _) | (with_reducible refine Kd.C_drew ?_))); (case side2 => exact HC0.out); rintro e w' ⟨rfl, ⟨nd, rfl⟩⟩; refine ⟨_, rfl, ?_⟩))
 go_ret
 exact ⟨rz, by repeat (first | exact Drawn0.refl _ | apply Drawn0.step)⟩
end
section
def Rf_AreEqual.l0 : Nat → List (S85) → Int → Option (Bool)
 | 0, _, _ => none
 | k + 1, x0, x3 => if x3 < (x0.length : Int) then (if 0 ≤ x3 then (if 0 < (x0.length : Int) then (if ((rd_T85 x0 x3).f0) = ((rd_T85 x0 0).f0) then (Rf_AreEqual.l0 k x0 (wrap64 (x3 + 1))) else (some false)) else (none)) else (none)) else (some true)
def Rf_AreEqual.f (k : Nat) (l0 : List (S85)) : Option (Bool) := Rf_AreEqual.l0 k l0 0
theorem Rf_AreEqual.mono_l : ∀ k, (∀ y0 y1, LeO (Rf_AreEqual.l0 k y0 y1) (Rf_AreEqual.l0 (k + 1) y0 y1))
 | 0 => fun _ _ r h => by simp [Rf_AreEqual.l0] at h
 | k + 1 => by
  have ih0 := Rf_AreEqual.mono_l k
  ·intro y0 y1; unfold Rf_AreEqual.l0
   repeat' with_reducible first
    | exact ih0 ..
    | exact LeO.refl ..
    | exact LeO.none ..
    | refine LeO.ite ?_ ?_
    | refine LeO.bind ?_ (fun _ => ?_)
theorem Rf_AreEqual.mono : ∀ a0 k, LeO (Rf_AreEqual.f k a0) (Rf_AreEqual.f (k + 1) a0) := by
 intro a0 k; have ih0 := Rf_AreEqual.mono_l k; unfold Rf_AreEqual.f
 repeat' with_reducible first
  | exact ih0 ..
  | exact LeO.refl ..
  | exact LeO.none ..
  | refine LeO.ite ?_ ?_
  | refine LeO.bind ?_ (fun _ => ?_)
theorem Rf_AreEqual.calls (k : Nat) (A0 : Option Addr) (c0 : Nat) (l0 : List (S85)) (r : Bool) (w : World) (hr0 : Kd.C k85 w A0 l0.length l0) (hc0 : l0.length ≤ c0) (H : Rf_AreEqual.f k l0 = some r) :
  Calls Try.prog 42 #[.slice A0 l0.length c0] w fun e w' => e = .returned (.bool r) ∧ Drawn0 w w' := by
 have HR0 := m0 hr0; have HC0 := m0 hc0; clear hr0 hc0; unfold Rf_AreEqual.f at H; have H' := m0 H; clear H; go_enter Try.func42, Try.ntmps42
 go_wp2
 repeat (go_quiet (fail); try go_wp2)
 go_loopg [3] k (fun kq v3 w' => ∃ (x3_1 : Int), v3 = .int .i64 x3_1 ∧ Aside0 (Rf_AreEqual.l0 kq l0 x3_1 = some r) ∧ Aside0 (kq ≤ k) ∧ Drawn0 w w')
 case atStart => exact ⟨(0), rz, H', ⟨Nat.le_refl _⟩, by repeat (first | exact Drawn0.refl _ | apply Drawn0.step)⟩
 case round =>
  clear H'; obtain ⟨x3_1, rfl, HA, HK1, ⟨m1, rfl⟩⟩ := hrel
  cases gk with
  | zero => exact absurd HA.out (by simp [Rf_AreEqual.l0])
  | succ k1 =>
   have H := HA.out; clear HA; simp only [Rf_AreEqual.l0] at H
   by_cases c2 : x3_1 < (l0.length : Int)
   ·rw [if_pos c2] at H; have c2b0 := decide_eq_true c2; clear c2
    by_cases c3 : 0 ≤ x3_1
    ·rw [if_pos c3] at H; have c3b0 := decide_eq_true c3; clear c3
     by_cases c4 : 0 < (l0.length : Int)
     ·rw [if_pos c4] at H; have c4b0 := decide_eq_true c4; have c4b1 : decide (0 < l0.length) = true := decide_eq_true (by omega); clear c4
      by_cases c5 : ((rd_T85 l0 x3_1).f0) = ((rd_T85 l0 0).f0)
      ·rw [if_pos c5] at H; have c5b0 := beq_iff_eq.mpr c5; have c5b1 := bne_eq_false_iff_eq.mpr c5; clear c5; have H' := m0 H; clear H; have p388 : 0 ≤ (x3_1 : Int) := od; have q388 : x3_1 < (l0.length : Int) := od; obtain ⟨ad388, e388, hx388_0, hx388_1, hx388_2⟩ := at_T85 HR0.out x3_1 p388 q388
       cases e388
       replace p388 := eq_true p388; replace q388 := eq_true q388; have p389 : 0 ≤ (0 : Int) := (by omega); have q389 : 0 < (l0.length : Int) := od; obtain ⟨ad389, e389, hx389_0, hx389_1, hx389_2⟩ := at_T85 HR0.out 0 p389 q389; obtain rfl : ad388 = ad389 := (by injection e389); have qi389 : (0 < l0.length) = True := eq_true (by omega); (try rw [show ((0 : Int)).toNat = 0 from rfl] at hx389_0); (try rw [show 0 * 3 = 0 from rfl] at hx389_0); (try rw [Addr.add_zero'] at hx389_0); (try rw [show ((0 : Int)).toNat = 0 from rfl] at hx389_1); (try rw [show 0 * 3 = 0 from rfl] at hx389_1); (try rw [Addr.add_zero'] at hx389_1); (try rw [show ((0 : Int)).toNat = 0 from rfl] at hx389_2); (try rw [show 0 * 3 = 0 from rfl] at hx389_2); (try rw [Addr.add_zero'] at hx389_2); replace p389 := eq_true p389; replace q389 := eq_true q389
       go_wp2
       repeat (go_quiet (fail); try go_wp2)
       go_roundg k1
       case measure => have := HK1.out; omega
       case rel => exact ⟨(wrap64 (x3_1 + 1)), rz, H', ⟨by have := HK1.out; omega⟩, by repeat (first | exact Drawn0.refl _ | apply Drawn0.step)⟩
      ·rw [if_neg c5] at H; have c5b0 := beq_eq_false_iff_ne.mpr c5; have c5b1 := bne_iff_ne.mpr c5; obtain rfl := Option.some.inj H; have p388 : 0 ≤ (x3_1 : Int) := od; have q388 : x3_1 < (l0.length : Int) := od; obtain ⟨ad388, e388, hx388_0, hx388_1, hx388_2⟩ := at_T85 HR0.out x3_1 p388 q388
       cases e388
       replace p388 := eq_true p388; replace q388 := eq_true q388; have p389 : 0 ≤ (0 : Int) := (by omega); have q389 : 0 < (l0.length : Int) := od; obtain ⟨ad389, e389, hx389_0, hx389_1, hx389_2⟩ := at_T85 HR0.out 0 p389 q389; obtain rfl : ad388 = ad389 := (by injection e389); have qi389 : (0 < l0.length) = True := eq_true (by omega); (try rw [show ((0 : Int)).toNat = 0 from rfl] at hx389_0); (try rw [show 0 * 3 = 0 from rfl] at hx389_0); (try rw [Addr.add_zero'] at hx389_0); (try rw [show ((0 : Int)).toNat = 0 from rfl] at hx389_1); (try rw [show 0 * 3 = 0 from rfl] at hx389_1); (try rw [Addr.add_zero'] at hx389_1); (try rw [show ((0 : Int)).toNat = 0 from rfl] at hx389_2); (try rw [show 0 * 3 = 0 from rfl] at hx389_2); (try rw [Addr.add_zero'] at hx389_2); replace p389 := eq_true p389; replace q389 := eq_true q389
       go_wp2
       repeat (go_quiet (fail); try go_wp2)
       go_ret
       exact ⟨rz, by repeat (first | exact Drawn0.refl _ | apply Drawn0.step)⟩
     ·rw [if_neg c4] at H; exact absurd H (by simp)
    ·rw [if_neg c3] at H; exact absurd H (by simp)
   ·rw [if_neg c2] at H; have c2b0 := decide_eq_false c2; clear c2; obtain rfl := Option.some.inj H
    go_wp2
    repeat (go_quiet (fail); try go_wp2)
    go_ret
    exact ⟨rz, by repeat (first | exact Drawn0.refl _ | apply Drawn0.step)⟩
end
section
def Rf_Line.l0 : Nat → List (S85) → Int → Int → Int → Int → Int → Int → Option (Int × Int × Int)
 | 0, _, _, _, _, _, _, _ => none
 | k + 1, x0, x3, x4, x5, x6, x7, x8 => if x8 < (x0.length : Int) then (if 0 ≤ x8 then (Rf_Line.l0 k x0 x3 (wrap64 (x4 + ((rd_T85 x0 x8).f0))) (wrap64 (x5 + ((rd_T85 x0 x8).f1))) (wrap64 (x6 + (wrap64 (((rd_T85 x0 x8).f0) * ((rd_T85 x0 x8).f0))))) (wrap64 (x7 + (wrap64 (((rd_T85 x0 x8).f0) * ((rd_T85 x0 x8).f1))))) (wrap64 (x8 + 1))) else (none)) else ((Bs_Gcd.f k (wrap64 ((wrap64 (x3 * x7)) - (wrap64 (x4 * x5)))) (wrap64 ((wrap64 (x5 * x6)) - (wrap64 (x4 * x7))))).bind fun t397 => ((Bs_Gcd.f k (wrap64 ((wrap64 (x3 * x6)) - (wrap64 (x4 * x4)))) t397).bind fun t398 => (if t398 = 0 then (none) else (some (wrap64 (Int.tdiv (wrap64 ((wrap64 (x3 * x7)) - (wrap64 (x4 * x5)))) t398), wrap64 (Int.tdiv (wrap64 ((wrap64 (x5 * x6)) - (wrap64 (x4 * x7)))) t398), wrap64 (Int.tdiv (wrap64 ((wrap64 (x3 * x6)) - (wrap64 (x4 * x4)))) t398))))))
def Rf_Line.f (k : Nat) (l0 : List (S85)) : Option (Int × Int × Int) := Rf_Line.l0 k l0 (l0.length : Int) 0 0 0 0 0
theorem Rf_Line.mono_l : ∀ k, (∀ y0 y1 y2 y3 y4 y5 y6, LeO (Rf_Line.l0 k y0 y1 y2 y3 y4 y5 y6) (Rf_Line.l0 (k + 1) y0 y1 y2 y3 y4 y5 y6))
 | 0 => fun _ _ _ _ _ _ _ r h => by simp [Rf_Line.l0] at h
 | k + 1 => by
  have ih0 := Rf_Line.mono_l k
  ·intro y0 y1 y2 y3 y4 y5 y6; unfold Rf_Line.l0
   repeat' with_reducible first
    | exact ih0 ..
    | exact Bs_Gcd.mono ..
    | exact LeO.refl ..
    | exact LeO.none ..
    | refine LeO.ite ?_ ?_
    | refine LeO.bind ?_ (fun _ => ?_)
theorem Rf_Line.mono : ∀ a0 k, LeO (Rf_Line.f k a0) (Rf_Line.f (k + 1) a0) := by
 intro a0 k; have ih0 := Rf_Line.mono_l k; unfold Rf_Line.f
 repeat' with_reducible first
  | exact ih0 ..
  | exact Bs_Gcd.mono ..
  | exact LeO.refl ..
  | exact LeO.none ..
  | refine LeO.ite ?_ ?_
  | refine LeO.bind ?_ (fun _ => ?_)
def Rf_Line.T5 : Bool × List (List Nat × List Nat) := (true, [([], []), ([], []), ([], []), ([1, 2], [1, 2]), ([3], [3]), ([4], [4]), ([0, 5], [0, 5]), ([], []), ([], []), ([], []), ([8, 9], [8, 9]), ([10], [10]), ([11], [11]), ([7, 12], [7, 12]), ([6, 0, 1, 2, 3, 4, 5, 6], [0, 6]), ([13, 14, 0, 1, 2, 3, 4, 5, 6, 7, 8, 9, 10, 11, 12, 13, 14], [7, 13])])
def Rf_Line.B5 : List Nat := [0, 0, 0, 6, 14, 30, 63, 0, 0, 0, 768, 1792, 3840, 8064, 127, 32767]
theorem Rf_Line.tab5 : rtab .any (opsOf Try.f44 5) = Rf_Line.T5 := by kernel_rfl
theorem Rf_Line.bits5 : waitsOk Rf_Line.T5.2 Rf_Line.B5 = true := by kernel_rfl
def Rf_Line.T6 : Bool × List (List Nat × List Nat) := (true, [([], []), ([], []), ([], []), ([1, 2], [1, 2]), ([3], [3]), ([4], [4]), ([], []), ([], []), ([6, 7], [6, 7]), ([8], [8]), ([9], [9]), ([5, 10], [5, 10]), ([0, 11], [0, 11]), ([], []), ([], []), ([], []), ([14, 15], [14, 15]), ([16], [16]), ([17], [17]), ([], []), ([], []), ([19, 20], [19, 20]), ([21], [21]), ([22], [22]), ([18, 23], [18, 23]), ([13, 24], [13, 24]), ([12, 0, 1, 2, 3, 4, 5, 6, 7, 8, 9, 10, 11, 12], [0, 12]), ([25, 26, 0, 1, 2, 3, 4, 5, 6, 7, 8, 9, 10, 11, 12, 13, 14, 15, 16, 17, 18, 19, 20, 21, 22, 23, 24, 25, 26], [13, 25])])
def Rf_Line.B6 : List Nat := [0, 0, 0, 6, 14, 30, 0, 0, 192, 448, 960, 2046, 4095, 0, 0, 0, 49152, 114688, 245760, 0, 0, 1572864, 3670016, 7864320, 16760832, 33546240, 8191, 134217727]
theorem Rf_Line.tab6 : rtab .any (opsOf Try.f44 6) = Rf_Line.T6 := by kernel_rfl
theorem Rf_Line.bits6 : waitsOk Rf_Line.T6.2 Rf_Line.B6 = true := by kernel_rfl
def Rf_Line.T9 : Bool × List (List Nat × List Nat) := (true, [([], []), ([], []), ([0, 1], [0, 1]), ([], []), ([], []), ([3, 4], [3, 4]), ([], []), ([], []), ([6, 7], [6, 7]), ([2, 5, 8], [2, 5, 8]), ([9, 0, 1, 2, 3, 4, 5, 6, 7, 8, 9], [9])])
def Rf_Line.B9 : List Nat := [0, 0, 3, 0, 0, 24, 0, 0, 192, 511, 1023]
theorem Rf_Line.tab9 : rtab .any (opsOf Try.f44 9) = Rf_Line.T9 := by kernel_rfl
theorem Rf_Line.bits9 : waitsOk Rf_Line.T9.2 Rf_Line.B9 = true := by kernel_rfl
theorem Rf_Line.calls (k : Nat) (A0 : Option Addr) (c0 : Nat) (l0 : List (S85)) (r1 : Int) (r2 : Int) (r3 : Int) (w : World) (hr0 : Kd.C k85 w A0 l0.length l0) (hc0 : l0.length ≤ c0) (H : Rf_Line.f k l0 = some (r1, r2, r3)) :
  Calls Try.prog 44 #[.slice A0 l0.length c0] w fun e w' => e = .returned (.agg #[.int .i64 r1, .int .i64 r2, .int .i64 r3]) ∧ Below w.heap.size w w' := by
 have hu56 := Try.underlying56; have HR0 := m0 hr0; have HC0 := m0 hc0; clear hr0 hc0; have HB := m0 (Below.refl w.heap.size w); unfold Rf_Line.f at H; have H' := m0 H; clear H; go_enter Try.func44, Try.ntmps44
 go_wp2_with (first | ((with_reducible refine ga 2 rfl ?_); refine be 2 56 #[.int .i64 0, .int .i64 0, .int .i64 0] ?_; intro gb390 hg w2 hbox hb; have BK390 := m0 hbox; have GE390 := gw w hg; replace HB := sb HB hb; clear hb hbox hg))
 go_loopg [4, 5, 6, 7, 8] k (fun kq v4 v5 v6 v7 v8 w' => ∃ (x4_1 : Int) (x5_1 : Int) (x6_1 : Int) (x7_1 : Int) (x8_1 : Int), v4 = .int .i64 x4_1 ∧ v5 = .int .i64 x5_1 ∧ v6 = .int .i64 x6_1 ∧ v7 = .int .i64 x7_1 ∧ v8 = .int .i64 x8_1 ∧ Aside0 (Rf_Line.l0 kq l0 (l0.length : Int) x4_1 x5_1 x6_1 x7_1 x8_1 = some (r1, r2, r3)) ∧ Aside0 (kq ≤ k) ∧ Aside0 (w'.heap[gb390]? = some (.cells #[.int .i64 0, .int .i64 0, .int .i64 0] 56 (0, 0))) ∧ Aside0 (Below w.heap.size w w'))
 case atStart => exact ⟨(0), (0), (0), (0), (0), rz, rz, rz, rz, rz, H', ⟨Nat.le_refl _⟩, ⟨bk BK390.out⟩, ⟨bz⟩⟩
 case round =>
  clear H'; obtain ⟨x4_1, x5_1, x6_1, x7_1, x8_1, rfl, rfl, rfl, rfl, rfl, HA, HK1, BK390, HB⟩ := hrel
  cases gk with
  | zero => exact absurd HA.out (by simp [Rf_Line.l0])
  | succ k1 =>
   have H := HA.out; clear HA; simp only [Rf_Line.l0] at H
   by_cases c3 : x8_1 < (l0.length : Int)
   ·rw [if_pos c3] at H; have c3b0 := decide_eq_true c3; clear c3
    by_cases c4 : 0 ≤ x8_1
    ·rw [if_pos c4] at H; have c4b0 := decide_eq_true c4; clear c4; have H' := m0 H; clear H
     try go_wp2
     replace BK390 := bd BK390; replace HB := sd HB; have p391 : 0 ≤ (x8_1 : Int) := od; have q391 : x8_1 < (l0.length : Int) := od; obtain ⟨ad391, e391, hx391_0, hx391_1, hx391_2⟩ := at_T85 HR0.out x8_1 p391 q391; have hw391_2 := hx391_2; have hw391_1 := hx391_1; have hw391_0 := hx391_0
     cases e391
     replace hx391_0 := hc HB hx391_0; replace hx391_1 := hc HB hx391_1; replace hx391_2 := hc HB hx391_2; replace p391 := eq_true p391; replace q391 := eq_true q391; have p392 : 0 ≤ (x8_1 : Int) := od; have q392 : x8_1 < (l0.length : Int) := od; obtain ⟨ad392, e392, hx392_0, hx392_1, hx392_2⟩ := at_T85 HR0.out x8_1 p392 q392; have hw392_2 := hx392_2; have hw392_1 := hx392_1; have hw392_0 := hx392_0; obtain rfl : ad391 = ad392 := (by injection e392); replace hx392_0 := hc HB hx392_0; replace hx392_1 := hc HB hx392_1; replace hx392_2 := hc HB hx392_2; replace p392 := eq_true p392; replace q392 := eq_true q392; refine start_ (n := 16) (S := fun w' => w'.cell? (ad391.add ((x8_1).toNat * 3)) = some (.int .i64 ((rd_T85 l0 x8_1).f0)) ∧ w'.cell? ⟨(ad391.add ((x8_1).toNat * 3)).block, (ad391.add ((x8_1).toNat * 3)).off + 1, none⟩ = some (.int .i64 ((rd_T85 l0 x8_1).f1)) ∧ w'.cell? ⟨(ad391.add ((x8_1).toNat * 3)).block, (ad391.add ((x8_1).toNat * 3)).off + 2, none⟩ = some (.int .i64 ((rd_T85 l0 x8_1).f2)) ∧ w'.cell? (ad391.add ((x8_1).toNat * 3)) = some (.int .i64 ((rd_T85 l0 x8_1).f0)) ∧ w'.cell? ⟨(ad391.add ((x8_1).toNat * 3)).block, (ad391.add ((x8_1).toNat * 3)).off + 1, none⟩ = some (.int .i64 ((rd_T85 l0 x8_1).f1)) ∧ w'.cell? ⟨(ad391.add ((x8_1).toNat * 3)).block, (ad391.add ((x8_1).toNat * 3)).off + 2, none⟩ = some (.int .i64 ((rd_T85 l0 x8_1).f2))) (ds := []) _ (by kernel_rfl) rfl rfl ⟨((HB.out.cell (World.block_lt_of_cell? w _ hw391_0)).trans hw391_0), ((HB.out.cell (World.block_lt_of_cell? w _ hw391_1)).trans hw391_1), ((HB.out.cell (World.block_lt_of_cell? w _ hw391_2)).trans hw391_2), ((HB.out.cell (World.block_lt_of_cell? w _ hw392_0)).trans hw392_0), ((HB.out.cell (World.block_lt_of_cell? w _ hw392_1)).trans hw392_1), ((HB.out.cell (World.block_lt_of_cell? w _ hw392_2)).trans hw392_2)⟩ (fun hH => ?_); refine with_tabW Rf_Line.tab5 Rf_Line.bits5 (fun HT_ HW_ => ?_); generalize wr.drew = w5 at BK390 HB hx391_0 hx391_1 hx391_2 hx392_0 hx392_1 hx392_2 hH ⊢; refine pZ 0 (some 21) (bs 16 1) HT_ ?_; refine pZ 1 (some 22) (bs 16 3) HT_ ?_; refine pZ 2 (some 23) (bs 16 7) HT_ ?_; refine pZ 3 (some 24) (bs 16 15) HT_ ?_; refine pZ 4 (some 25) (bs 16 31) HT_ ?_; refine pZ 7 (some 28) (bs 16 159) HT_ ?_; refine pZ 8 (some 29) (bs 16 415) HT_ ?_; refine pZ 9 (some 30) (bs 16 927) HT_ ?_; refine pZ 10 (some 31) (bs 16 1951) HT_ ?_; refine pZ 11 (some 32) (bs 16 3999) HT_ ?_; refine takeZ 5 (some 26) (bs 16 4031) (tw HT_ HW_) hH ?_; refine pZ 6 (some 27) (bs 16 4095) HT_ ?_; refine pZ 14 (some 4) (bs 16 20479) HT_ ?_; refine takeZ 12 (some 33) (bs 16 24575) (tw HT_ HW_) hH ?_; refine pZ 13 (some 34) (bs 16 32767) HT_ ?_; refine pZ 15 (some 5) (bs 16 65535) HT_ ?_; refine done_ (done_of HT_.out (by kernel_rfl)) ?_
     try go_wp2
     replace BK390 := bd BK390; replace HB := sd HB; have p393 : 0 ≤ (x8_1 : Int) := od; have q393 : x8_1 < (l0.length : Int) := od; obtain ⟨ad393, e393, hx393_0, hx393_1, hx393_2⟩ := at_T85 HR0.out x8_1 p393 q393; have hw393_2 := hx393_2; have hw393_1 := hx393_1; have hw393_0 := hx393_0; obtain rfl : ad391 = ad393 := (by injection e393); replace hx393_0 := hc HB hx393_0; replace hx393_1 := hc HB hx393_1; replace hx393_2 := hc HB hx393_2; replace p393 := eq_true p393; replace q393 := eq_true q393; have p394 : 0 ≤ (x8_1 : Int) := od; have q394 : x8_1 < (l0.length : Int) := od; obtain ⟨ad394, e394, hx394_0, hx394_1, hx394_2⟩ := at_T85 HR0.out x8_1 p394 q394; have hw394_2 := hx394_2; have hw394_1 := hx394_1; have hw394_0 := hx394_0; obtain rfl : ad391 = ad394 := (by injection e394); replace hx394_0 := hc HB hx394_0; replace hx394_1 := hc HB hx394_1; replace hx394_2 := hc HB hx394_2; replace p394 := eq_true p394; replace q394 := eq_true q394; have p395 : 0 ≤ (x8_1 : Int) := od; have q395 : x8_1 < (l0.length : Int) := od; obtain ⟨ad395, e395, hx395_0, hx395_1, hx395_2⟩ := at_T85 HR0.out x8_1 p395 q395; have hw395_2 := hx395_2; have hw395_1 := hx395_1; have hw395_0 := hx395_0; obtain rfl : ad391 = ad395 := (by injection e395); replace hx395_0 := hc HB hx395_0; replace hx395_1 := hc HB hx395_1; replace hx395_2 := hc HB hx395_2; replace p395 := eq_true p395; replace q395 := eq_true q395; have p396 : 0 ≤ (x8_1 : Int) := od; have q396 : x8_1 < (l0.length : Int) := od; obtain ⟨ad396, e396, hx396_0, hx396_1, hx396_2⟩ := at_T85 HR0.out x8_1 p396 q396; have hw396_2 := hx396_2; have hw396_1 := hx396_1; have hw396_0 := hx396_0; obtain rfl : ad391 = ad396 := (by injection e396); replace hx396_0 := hc HB hx396_0; replace hx396_1 := hc HB hx396_1; replace hx396_2 := hc HB hx396_2; replace p396 := eq_true p396; replace q396 := eq_true q396; refine start_ (n := 28) (S := fun w' => w'.cell? (ad391.add ((x8_1).toNat * 3)) = some (.int .i64 ((rd_T85 l0 x8_1).f0)) ∧ w'.cell? ⟨(ad391.add ((x8_1).toNat * 3)).block, (ad391.add ((x8_1).toNat * 3)).off + 1, none⟩ = some (.int .i64 ((rd_T85 l0 x8_1).f1)) ∧ w'.cell? ⟨(ad391.add ((x8_1).toNat * 3)).block, (ad391.add ((x8_1).toNat * 3)).off + 2, none⟩ = some (.int .i64 ((rd_T85 l0 x8_1).f2)) ∧ w'.cell? (ad391.add ((x8_1).toNat * 3)) = some (.int .i64 ((rd_T85 l0 x8_1).f0)) ∧ w'.cell? ⟨(ad391.add ((x8_1).toNat * 3)).block, (ad391.add ((x8_1).toNat * 3)).off + 1, none⟩ = some (.int .i64 ((rd_T85 l0 x8_1).f1)) ∧ w'.cell? ⟨(ad391.add ((x8_1).toNat * 3)).block, (ad391.add ((x8_1).toNat * 3)).off + 2, none⟩ = some (.int .i64 ((rd_T85 l0 x8_1).f2)) ∧ w'.cell? (ad391.add ((x8_1).toNat * 3)) = some (.int .i64 ((rd_T85 l0 x8_1).f0)) ∧ w'.cell? ⟨(ad391.add ((x8_1).toNat * 3)).block, (ad391.add ((x8_1).toNat * 3)).off + 1, none⟩ = some (.int .i64 ((rd_T85 l0 x8_1).f1)) ∧ w'.cell? ⟨(ad391.add ((x8_1).toNat * 3)).block, (ad391.add ((x8_1).toNat * 3)).off + 2, none⟩ = some (.int .i64 ((rd_T85 l0 x8_1).f2)) ∧ w'.cell? (ad391.add ((x8_1).toNat * 3)) = some (.int .i64 ((rd_T85 l0 x8_1).f0)) ∧ w'.cell? ⟨(ad391.add ((x8_1).toNat * 3)).block, (ad391.add ((x8_1).toNat * 3)).off + 1, none⟩ = some (.int .i64 ((rd_T85 l0 x8_1).f1)) ∧ w'.cell? ⟨(ad391.add ((x8_1).toNat * 3)).block, (ad391.add ((x8_1).toNat * 3)).off + 2, none⟩ = some (.int .i64 ((rd_T85 l0 x8_1).f2))) (ds := []) _ (by kernel_rfl) rfl rfl ⟨((HB.out.cell (World.block_lt_of_cell? w _ hw393_0)).trans hw393_0), ((HB.out.cell (World.block_lt_of_cell? w _ hw393_1)).trans hw393_1), ((HB.out.cell (World.block_lt_of_cell? w _ hw393_2)).trans hw393_2), ((HB.out.cell (World.block_lt_of_cell? w _ hw394_0)).trans hw394_0), ((HB.out.cell (World.block_lt_of_cell? w _ hw394_1)).trans hw394_1), ((HB.out.cell (World.block_lt_of_cell? w _ hw394_2)).trans hw394_2), ((HB.out.cell (World.block_lt_of_cell? w _ hw395_0)).trans hw395_0), ((HB.out.cell (World.block_lt_of_cell? w _ hw395_1)).trans hw395_1), ((HB.out.cell (World.block_lt_of_cell? w _ hw395_2)).trans hw395_2), ((HB.out.cell (World.block_lt_of_cell? w _ hw396_0)).trans hw396_0), ((HB.out.cell (World.block_lt_of_cell? w _ hw396_1)).trans hw396_1), ((HB.out.cell (World.block_lt_of_cell? w _ hw396_2)).trans hw396_2)⟩ (fun hH => ?_); refine with_tabW Rf_Line.tab6 Rf_Line.bits6 (fun HT_ HW_ => ?_); generalize w5.drew = w6 at BK390 HB hx393_0 hx393_1 hx393_2 hx394_0 hx394_1 hx394_2 hx395_0 hx395_1 hx395_2 hx396_0 hx396_1 hx396_2 hH ⊢; refine pZ 0 (some 35) (bs 28 1) HT_ ?_; refine pZ 1 (some 36) (bs 28 3) HT_ ?_; refine pZ 2 (some 37) (bs 28 7) HT_ ?_; refine pZ 3 (some 38) (bs 28 15) HT_ ?_; refine pZ 4 (some 39) (bs 28 31) HT_ ?_; refine pZ 6 (some 41) (bs 28 95) HT_ ?_; refine pZ 7 (some 42) (bs 28 223) HT_ ?_; refine pZ 8 (some 43) (bs 28 479) HT_ ?_; refine pZ 9 (some 44) (bs 28 991) HT_ ?_; refine pZ 13 (some 48) (bs 28 9183) HT_ ?_; refine pZ 14 (some 49) (bs 28 25567) HT_ ?_; refine pZ 15 (some 50) (bs 28 58335) HT_ ?_; refine pZ 16 (some 51) (bs 28 123871) HT_ ?_; refine pZ 17 (some 52) (bs 28 254943) HT_ ?_; refine pZ 19 (some 54) (bs 28 779231) HT_ ?_; refine pZ 20 (some 55) (bs 28 1827807) HT_ ?_; refine pZ 21 (some 56) (bs 28 3924959) HT_ ?_; refine pZ 22 (some 57) (bs 28 8119263) HT_ ?_; refine takeZ 5 (some 40) (bs 28 8119295) (tw HT_ HW_) hH ?_; refine takeZ 10 (some 45) (bs 28 8120319) (tw HT_ HW_) hH ?_; refine pZ 11 (some 46) (bs 28 8122367) HT_ ?_; refine pZ 12 (some 47) (bs 28 8126463) HT_ ?_; refine pZ 26 (some 6) (bs 28 75235327) HT_ ?_; refine takeZ 18 (some 53) (bs 28 75497471) (tw HT_ HW_) hH ?_; refine takeZ 23 (some 58) (bs 28 83886079) (tw HT_ HW_) hH ?_; refine pZ 24 (some 59) (bs 28 100663295) HT_ ?_; refine pZ 25 (some 60) (bs 28 134217727) HT_ ?_; refine pZ 27 (some 7) (bs 28 268435455) HT_ ?_; refine done_ (done_of HT_.out (by kernel_rfl)) ?_
     try go_wp2
     go_roundg k1
     case measure => have := HK1.out; omega
     case rel => exact ⟨(wrap64 (x4_1 + ((rd_T85 l0 x8_1).f0))), (wrap64 (x5_1 + ((rd_T85 l0 x8_1).f1))), (wrap64 (x6_1 + (wrap64 (((rd_T85 l0 x8_1).f0) * ((rd_T85 l0 x8_1).f0))))), (wrap64 (x7_1 + (wrap64 (((rd_T85 l0 x8_1).f0) * ((rd_T85 l0 x8_1).f1))))), (wrap64 (x8_1 + 1)), rz, rz, rz, rz, rz, H', ⟨by have := HK1.out; omega⟩, ⟨bk BK390.out⟩, ⟨bz⟩⟩
    ·rw [if_neg c4] at H; exact absurd H (by simp)
   ·rw [if_neg c3] at H; have c3b0 := decide_eq_false c3; clear c3; replace H := oa H; obtain ⟨t397, A7, H⟩ := H; (try dsimp only at H); replace H := oa H; obtain ⟨t398, A8, H⟩ := H; (try dsimp only at H)
    by_cases c9 : t398 = 0
    ·rw [if_pos c9] at H; exact absurd H (by simp)
    ·rw [if_neg c9] at H; have c9b0 := beq_eq_false_iff_ne.mpr c9; have c9b1 := bne_iff_ne.mpr c9; simp only [Option.some.injEq, Prod.mk.injEq] at H; obtain ⟨rfl, rfl, rfl⟩ := H
     try go_wp2_with (first | ((with_reducible refine gc 93 rfl ?_); refine gl (some 85) Try.func93 #[.int .i64 (wrap64 ((wrap64 ((l0.length : Int) * x7_1)) - (wrap64 (x4_1 * x5_1)))), .int .i64 (wrap64 ((wrap64 (x5_1 * x6_1)) - (wrap64 (x4_1 * x7_1))))] ?_; (with_reducible refine (Bs_Gcd.calls k1 (wrap64 ((wrap64 ((l0.length : Int) * x7_1)) - (wrap64 (x4_1 * x5_1)))) (wrap64 ((wrap64 (x5_1 * x6_1)) - (wrap64 (x4_1 * x7_1)))) t397 _ A7.out).mono ?_); rintro e w10 ⟨rfl, hb⟩; refine ⟨_, rfl, ?_⟩; replace BK390 := bb BK390 hb; replace HB := sb HB hb; (try clear hb)) | ((with_reducible refine gc 93 rfl ?_); refine gl (some 86) Try.func93 #[.int .i64 (wrap64 ((wrap64 ((l0.length : Int) * x6_1)) - (wrap64 (x4_1 * x4_1)))), .int .i64 t397] ?_; (with_reducible refine (Bs_Gcd.calls k1 (wrap64 ((wrap64 ((l0.length : Int) * x6_1)) - (wrap64 (x4_1 * x4_1)))) t397 t398 _ A8.out).mono ?_); rintro e w11 ⟨rfl, hb⟩; refine ⟨_, rfl, ?_⟩; replace BK390 := bb BK390 hb; replace HB := sb HB hb; (try clear hb)))
     replace BK390 := bd BK390; replace HB := sd HB; refine start_ (n := 11) (S := fun w' => True) (ds := []) _ (by kernel_rfl) rfl rfl trivial (fun hH => ?_); refine with_tabW Rf_Line.tab9 Rf_Line.bits9 (fun HT_ HW_ => ?_); generalize w11.drew = w12 at BK390 HB hH ⊢; refine pZ 0 (some 87) #[true, false, false, false, false, false, false, false, false, false, false] HT_ ?_; refine pZ 1 (some 88) #[true, true, false, false, false, false, false, false, false, false, false] HT_ ?_; refine pZ 2 (some 89) #[true, true, true, false, false, false, false, false, false, false, false] HT_ ?_; refine pZ 3 (some 90) #[true, true, true, true, false, false, false, false, false, false, false] HT_ ?_; refine pZ 4 (some 91) #[true, true, true, true, true, false, false, false, false, false, false] HT_ ?_; refine pZ 5 (some 92) #[true, true, true, true, true, true, false, false, false, false, false] HT_ ?_; refine pZ 6 (some 93) #[true, true, true, true, true, true, true, false, false, false, false] HT_ ?_; refine pZ 7 (some 94) #[true, true, true, true, true, true, true, true, false, false, false] HT_ ?_; refine pZ 8 (some 95) #[true, true, true, true, true, true, true, true, true, false, false] HT_ ?_; refine pZ 9 (some 96) #[true, true, true, true, true, true, true, true, true, true, false] HT_ ?_; refine oneZ 10 (none) #[true, true, true, true, true, true, true, true, true, true, true] (o1 HT_) fun K hK => ?_; obtain ⟨hs13, hfs13⟩ := q0 BK390; obtain ⟨hs14, hfs14⟩ := q1 BK390; obtain ⟨hs15, hfs15⟩ := q2 BK390; refine skip_ (w1 := ?_) (by rfl) rfl ?_ ?_; rotate_left
     ·go_simp
      rfl
     refine hK.out _ _ trivial (fun hH => ?_); clear hK K; refine done_ (done_of HT_.out (by kernel_rfl)) ?_
     try go_wp2
     refine bodyPost_ret (results_cell_row rfl _ _ gb390 56 #[.int .i64 (wrap64 (Int.tdiv (wrap64 ((wrap64 ((l0.length : Int) * x7_1)) - (wrap64 (x4_1 * x5_1)))) t398)), .int .i64 (wrap64 (Int.tdiv (wrap64 ((wrap64 (x5_1 * x6_1)) - (wrap64 (x4_1 * x7_1)))) t398)), .int .i64 (wrap64 (Int.tdiv (wrap64 ((wrap64 ((l0.length : Int) * x6_1)) - (wrap64 (x4_1 * x4_1)))) t398))] (0, 0) _ rfl (bq BK390.out) Try.underlying56 rfl (by kernel_rfl)) rfl ?_; exact ez
end
end Go.Proofs.Ytibhfahbabgbaaa.A
