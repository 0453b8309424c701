/- Walks of the program's functions (printed, made shorter), each with what it computes. -/
import Derived.Test.YtibhfahbabgbaaaB05
import Derived.Test.YtibhfahbabgbaaaB10
import Derived.Test.YtibhfahbabgbaaaTB02
import Derived.Test.YtibhfahbabgbaaaB04
import Derived.Test.YtibhfahbabgbaaaTB01
namespace Go.Proofs.Ytibhfahbabgbaaa.A
set_option maxHeartbeats 8000000
set_option maxRecDepth 100000
open Go.RowKit Go.Proofs.YtibhfahbabgbaaaW.PrintWords Go.Proofs.YtibhfahbabgbaaaW.PrintLast Go.Proofs.YtibhfahbabgbaaaW.PrintMore
attribute [local go_sem] max2_int min2_int max_two min_two max_three min_three max_four min_four
set_option linter.unusedVariables false
set_option linter.unusedSimpArgs false
section
def L_CheckLine.l0 : Nat → Int → Int → List (S85) → Int → Int → Int → Int → Int → Option (Int × Int)
 | 0, _, _, _, _, _, _, _, _ => none
 | k + 1, x8, x9, x26, x27, x28, x641000, x641001, x641002 => if x28 < x27 then (if 0 ≤ x28 then (if x28 < (x26.length : Int) then (L_CheckLine.l0 k (wrap64 (x8 + (wrap64 ((wrap64 ((wrap64 (x641002 * ((rd_T85 x26 x28).f1))) - (wrap64 (x641000 * ((rd_T85 x26 x28).f0))))) - x641001)))) (wrap64 (x9 + (wrap64 ((wrap64 ((wrap64 ((wrap64 (x641002 * ((rd_T85 x26 x28).f1))) - (wrap64 (x641000 * ((rd_T85 x26 x28).f0))))) - x641001)) * ((rd_T85 x26 x28).f0))))) x26 x27 (wrap64 (x28 + 1)) x641000 x641001 x641002) else (none)) else (none)) else (if x8 = 0 then (if x9 = 0 then (some (0, 0)) else (some (1, 17))) else (some (0, 17)))
def L_CheckLine.f (k : Nat) (l0 : List (S85)) (a1_0 : Int) (a1_1 : Int) (a1_2 : Int) : Option (Int × Int) := (L_open.f k l0).bind fun bt641 => ((L_lineErr.f k a1_0 a1_1 a1_2).bind fun t649 => ((L_first.f k (([bt641.2.2.2.2.2.2, t649] : List Int))).bind fun t653 => (if t653 = 0 then (L_CheckLine.l0 k 0 0 l0 (l0.length : Int) 0 a1_0 a1_1 a1_2) else (some (0, t653)))))
theorem L_CheckLine.mono_l : ∀ k, (∀ y0 y1 y2 y3 y4 y5 y6 y7, LeO (L_CheckLine.l0 k y0 y1 y2 y3 y4 y5 y6 y7) (L_CheckLine.l0 (k + 1) y0 y1 y2 y3 y4 y5 y6 y7))
 | 0 => fun _ _ _ _ _ _ _ _ r h => by simp [L_CheckLine.l0] at h
 | k + 1 => by
  have ih0 := L_CheckLine.mono_l k
  ·intro y0 y1 y2 y3 y4 y5 y6 y7
   unfold L_CheckLine.l0
   repeat' with_reducible first
    | exact ih0 ..
    | exact L_first.mono ..
    | exact L_lineErr.mono ..
    | exact L_open.mono ..
    | exact LeO.refl ..
    | exact LeO.none ..
    | refine LeO.ite ?_ ?_
    | refine LeO.bind ?_ (fun _ => ?_)
theorem L_CheckLine.mono : ∀ a0 a1 a2 a3 k, LeO (L_CheckLine.f k a0 a1 a2 a3) (L_CheckLine.f (k + 1) a0 a1 a2 a3) := by
 intro a0 a1 a2 a3 k
 have ih0 := L_CheckLine.mono_l k
 unfold L_CheckLine.f
 repeat' with_reducible first
  | exact ih0 ..
  | exact L_first.mono ..
  | exact L_lineErr.mono ..
  | exact L_open.mono ..
  | exact LeO.refl ..
  | exact LeO.none ..
  | refine LeO.ite ?_ ?_
  | refine LeO.bind ?_ (fun _ => ?_)
theorem L_CheckLine.calls (k : Nat) (A0 : Option Addr) (c0 : Nat) (l0 : List (S85)) (a1_0 : Int) (a1_1 : Int) (a1_2 : Int) (r1 : Int) (r2 : Int) (w : World) (hr0 : Kd.C k85 w A0 l0.length l0) (hc0 : l0.length ≤ c0) (h : L_CheckLine.f k l0 a1_0 a1_1 a1_2 = some (r1, r2)) :
  Calls Try.prog 40 #[.slice A0 l0.length c0, .agg #[.int .i64 a1_0, .int .i64 a1_1, .int .i64 a1_2]] w fun e w' => e = .returned (.tuple #[.int .i64 r1, .int .i64 r2]) ∧ Below w.heap.size w w' := by
 have hu56 := Try.underlying56
 have hu149 := Try.underlying149
 have hu85 := Try.underlying85
 have HR0 := m0 hr0
 have HC0 := m0 hc0
 clear hr0 hc0
 have HB := m0 (Below.refl w.heap.size w)
 have H : ((L_open.f k l0).bind fun bt641 => ((L_lineErr.f k a1_0 a1_1 a1_2).bind fun t649 => ((L_first.f k (([bt641.2.2.2.2.2.2, t649] : List Int))).bind fun t653 => (if t653 = 0 then (L_CheckLine.l0 k 0 0 l0 (l0.length : Int) 0 a1_0 a1_1 a1_2) else (some (0, t653)))))) = some (r1, r2) := h
 clear h
 replace H := ob H
 obtain ⟨⟨t641, t642, t643, t644, t645, t646, t647⟩, A3, H⟩ := H
 (try dsimp only at H)
 replace A3 := m0 A3
 replace H := ob H
 obtain ⟨t649, A4, H⟩ := H
 (try dsimp only at H)
 replace A4 := m0 A4
 obtain ⟨y650, hy650⟩ : ∃ y_ : List Int, y_ = (([t647, t649] : List Int)) := ⟨_, rfl⟩
 replace H : ((L_first.f k y650).bind fun t653 => (if t653 = 0 then (L_CheckLine.l0 k 0 0 l0 (l0.length : Int) 0 a1_0 a1_1 a1_2) else (some (0, t653)))) = some (r1, r2) := by first | (rw [hy650]; with_reducible exact H) | (have H2_ := (Option.bind_some _ _).symm.trans H; rw [hy650]; with_reducible exact H2_) | (have H2_ := (Option.bind_some _ _).symm.trans H; with_reducible exact H2_) | with_reducible exact H | (rw [hy650]; exact H) | exact H
 have Ny650 := m0 hy650
 clear hy650
 replace H := ob H
 obtain ⟨t653, A5, H⟩ := H
 (try dsimp only at H)
 replace A5 := m0 A5
 by_cases c6 : t653 = 0
 ·rw [if_pos c6] at H
  have c6b0 := beq_iff_eq.mpr c6
  have c6b1 := bne_eq_false_iff_eq.mpr c6
  clear c6
  have H' := m0 H
  clear H
  go_enter Try.func40, Try.ntmps40
  go_wp2_with (first | ((with_reducible refine gate_dst (N := 3) rfl ?_); refine be 3 56 #[.int .i64 a1_0, .int .i64 a1_1, .int .i64 a1_2] ?_; intro gb640 hg w7 hbox hb; have BK640 := m0 hbox; have GE640 := gw w hg; replace HB := sb HB hb; clear hb hbox hg) | (go_at_call 94; (with_reducible refine (L_open.calls k _ _ l0 t641 t642 t643 t644 t645 t646 t647 _ ?side1 ?side2 A3.out).mono ?_); (case side1 => exact cb HR0 HB); (case side2 => exact HC0.out); rintro e w8 ⟨rfl, hb⟩; replace BK640 := bb BK640 hb; replace HB := sb HB hb; (try clear hb)) | ((with_reducible refine gate_dst (N := 6) rfl ?_); refine be 6 149 #[.int .i64 0, .int .i64 0, .int .i64 0, .int .i64 0, .int .i64 0, .int .i64 0] ?_; intro gb648 hg w9 hbox hb; have BK648 := m0 hbox; have GE648 := gw w hg; replace HB := sb HB hb; have NB640_648 := nl BK640 hg; have NB648_640 := ng (nl BK640 hg); replace BK640 := bb BK640 hb; clear hb hbox hg; have hnb10 := NB648_640.out; have hnc10 := NB640_648.out; have hcz11_0 : w9.cell? ⟨gb648, 0, none⟩ = some (.int .i64 0) := (blk_cell BK648.out 0).trans rfl; have hcz11_1 : w9.cell? ⟨gb648, 1, none⟩ = some (.int .i64 0) := (blk_cell BK648.out 1).trans rfl; have hcz11_2 : w9.cell? ⟨gb648, 2, none⟩ = some (.int .i64 0) := (blk_cell BK648.out 2).trans rfl; have hcz11_3 : w9.cell? ⟨gb648, 3, none⟩ = some (.int .i64 0) := (blk_cell BK648.out 3).trans rfl; have hcz11_4 : w9.cell? ⟨gb648, 4, none⟩ = some (.int .i64 0) := (blk_cell BK648.out 4).trans rfl; have hcz11_5 : w9.cell? ⟨gb648, 5, none⟩ = some (.int .i64 0) := (blk_cell BK648.out 5).trans rfl; have hfz11_0 := blk_frozen BK648.out 0; have hfz11_1 := blk_frozen BK648.out 1; have hfz11_2 := blk_frozen BK648.out 2; have hfz11_3 := blk_frozen BK648.out 3; have hfz11_4 := blk_frozen BK648.out 4; have hfz11_5 := blk_frozen BK648.out 5; obtain ⟨hcz12_0, hcz12_1, hcz12_2, hfz12_0, hfz12_1, hfz12_2⟩ := b3 BK640) | (go_at_call 90; (with_reducible refine (L_lineErr.calls k a1_0 a1_1 a1_2 t649 _ A4.out).mono ?_); rintro e w13 ⟨rfl, hb⟩; replace BK640 := m0 (blk_below (g := gb640) (o := .cells #[.int .i64 a1_0, .int .i64 a1_1, .int .i64 a1_2] 56 (0, 0)) (bq BK640.out) hb); replace BK648 := m0 (blk_below (g := gb648) (o := .cells #[.int .i64 t641, .int .i64 t642, .int .i64 t643, .int .i64 t644, .int .i64 t645, .int .i64 t646] 149 (0, 0)) (bq BK648.out) hb); replace HB := sb HB hb; (try clear hb)) | ((with_reducible refine gate_dst (N := 21) rfl ?_); refine Kd.R_lit (Kd.int .i64) _ 24 ?hg (N := 21) ?hd (xs := ([t647, t649] : List Int)) (inner := [.int .i64 t647, .int .i64 t649]) (ok := fun _ => True) (okp := fun _ => True) ?hr ?hp (fun _ hk => hk) trivial (Below.refl _ _) (Nat.le_refl _) (by simp) ?_; (case hd => rfl); (case hg => rfl); (case hr => first | (go_simp; done) | (go_simp; rfl)); (case hp => exact (Reps.one (show Kd.M (Kd.int .i64) _ _ _ t647 [.int .i64 t647] from rfl) (Reps.one (show Kd.M (Kd.int .i64) _ _ _ t649 [.int .i64 t649] from rfl) (Reps.none _ _)))); intro v651 w14 ho15 hb hg_ hnew_; clear hg_ hnew_; (first | rw [← Ny650.out] at ho15 | (simp only [Int.reduceToNat] at ho15; rw [← Ny650.out] at ho15)); have HO652 := m0 (Kd.R_lower ho15 (below_size bz)); replace BK640 := bb BK640 hb; replace BK648 := bb BK648 hb; replace HB := sb HB hb; clear hb ho15; obtain ⟨Ao16, co16, eo16⟩ := Kd.R_slice HO652.out; subst eo16) | (go_at_call 75; (with_reducible refine (L_first.calls k _ _ y650 t653 _ ?side1 ?side2 A5.out).mono ?_); (case side1 => exact bc (Kd.R_reads' HO652.out).2.2); (case side2 => exact (Kd.R_reads' HO652.out).2.1); rintro e w' ⟨rfl, ⟨nd, rfl⟩⟩; (try first | exact ⟨rfl, _, World.drewN_drewN _ _ _⟩ | exact ⟨rfl, _, Eq.trans (World.drewN_drewN _ _ _) (congrArg (World.drewN _) (Nat.add_assoc _ _ _))⟩)))
  repeat (go_quiet (first | ((with_reducible refine gate_dst (N := 3) rfl ?_); refine be 3 56 #[.int .i64 a1_0, .int .i64 a1_1, .int .i64 a1_2] ?_; intro gb640 hg w7 hbox hb; have BK640 := m0 hbox; have GE640 := gw w hg; replace HB := sb HB hb; clear hb hbox hg) | (go_at_call 94; (with_reducible refine (L_open.calls k _ _ l0 t641 t642 t643 t644 t645 t646 t647 _ ?side1 ?side2 A3.out).mono ?_); (case side1 => exact cb HR0 HB); (case side2 => exact HC0.out); rintro e w8 ⟨rfl, hb⟩; replace BK640 := bb BK640 hb; replace HB := sb HB hb; (try clear hb)) | ((with_reducible refine gate_dst (N := 6) rfl ?_); refine be 6 149 #[.int .i64 0, .int .i64 0, .int .i64 0, .int .i64 0, .int .i64 0, .int .i64 0] ?_; intro gb648 hg w9 hbox hb; have BK648 := m0 hbox; have GE648 := gw w hg; replace HB := sb HB hb; have NB640_648 := nl BK640 hg; have NB648_640 := ng (nl BK640 hg); replace BK640 := bb BK640 hb; clear hb hbox hg; have hnb10 := NB648_640.out; have hnc10 := NB640_648.out; have hcz11_0 : w9.cell? ⟨gb648, 0, none⟩ = some (.int .i64 0) := (blk_cell BK648.out 0).trans rfl; have hcz11_1 : w9.cell? ⟨gb648, 1, none⟩ = some (.int .i64 0) := (blk_cell BK648.out 1).trans rfl; have hcz11_2 : w9.cell? ⟨gb648, 2, none⟩ = some (.int .i64 0) := (blk_cell BK648.out 2).trans rfl; have hcz11_3 : w9.cell? ⟨gb648, 3, none⟩ = some (.int .i64 0) := (blk_cell BK648.out 3).trans rfl; have hcz11_4 : w9.cell? ⟨gb648, 4, none⟩ = some (.int .i64 0) := (blk_cell BK648.out 4).trans rfl; have hcz11_5 : w9.cell? ⟨gb648, 5, none⟩ = some (.int .i64 0) := (blk_cell BK648.out 5).trans rfl; have hfz11_0 := blk_frozen BK648.out 0; have hfz11_1 := blk_frozen BK648.out 1; have hfz11_2 := blk_frozen BK648.out 2; have hfz11_3 := blk_frozen BK648.out 3; have hfz11_4 := blk_frozen BK648.out 4; have hfz11_5 := blk_frozen BK648.out 5; obtain ⟨hcz12_0, hcz12_1, hcz12_2, hfz12_0, hfz12_1, hfz12_2⟩ := b3 BK640) | (go_at_call 90; (with_reducible refine (L_lineErr.calls k a1_0 a1_1 a1_2 t649 _ A4.out).mono ?_); rintro e w13 ⟨rfl, hb⟩; replace BK640 := m0 (blk_below (g := gb640) (o := .cells #[.int .i64 a1_0, .int .i64 a1_1, .int .i64 a1_2] 56 (0, 0)) (bq BK640.out) hb); replace BK648 := m0 (blk_below (g := gb648) (o := .cells #[.int .i64 t641, .int .i64 t642, .int .i64 t643, .int .i64 t644, .int .i64 t645, .int .i64 t646] 149 (0, 0)) (bq BK648.out) hb); replace HB := sb HB hb; (try clear hb)) | ((with_reducible refine gate_dst (N := 21) rfl ?_); refine Kd.R_lit (Kd.int .i64) _ 24 ?hg (N := 21) ?hd (xs := ([t647, t649] : List Int)) (inner := [.int .i64 t647, .int .i64 t649]) (ok := fun _ => True) (okp := fun _ => True) ?hr ?hp (fun _ hk => hk) trivial (Below.refl _ _) (Nat.le_refl _) (by simp) ?_; (case hd => rfl); (case hg => rfl); (case hr => first | (go_simp; done) | (go_simp; rfl)); (case hp => exact (Reps.one (show Kd.M (Kd.int .i64) _ _ _ t647 [.int .i64 t647] from rfl) (Reps.one (show Kd.M (Kd.int .i64) _ _ _ t649 [.int .i64 t649] from rfl) (Reps.none _ _)))); intro v651 w14 ho15 hb hg_ hnew_; clear hg_ hnew_; (first | rw [← Ny650.out] at ho15 | (simp only [Int.reduceToNat] at ho15; rw [← Ny650.out] at ho15)); have HO652 := m0 (Kd.R_lower ho15 (below_size bz)); replace BK640 := bb BK640 hb; replace BK648 := bb BK648 hb; replace HB := sb HB hb; clear hb ho15; obtain ⟨Ao16, co16, eo16⟩ := Kd.R_slice HO652.out; subst eo16) | (go_at_call 75; (with_reducible refine (L_first.calls k _ _ y650 t653 _ ?side1 ?side2 A5.out).mono ?_); (case side1 => exact bc (Kd.R_reads' HO652.out).2.2); (case side2 => exact (Kd.R_reads' HO652.out).2.1); rintro e w' ⟨rfl, ⟨nd, rfl⟩⟩; (try first | exact ⟨rfl, _, World.drewN_drewN _ _ _⟩ | exact ⟨rfl, _, Eq.trans (World.drewN_drewN _ _ _) (congrArg (World.drewN _) (Nat.add_assoc _ _ _))⟩))); try go_wp2_with (first | ((with_reducible refine gate_dst (N := 3) rfl ?_); refine be 3 56 #[.int .i64 a1_0, .int .i64 a1_1, .int .i64 a1_2] ?_; intro gb640 hg w7 hbox hb; have BK640 := m0 hbox; have GE640 := gw w hg; replace HB := sb HB hb; clear hb hbox hg) | (go_at_call 94; (with_reducible refine (L_open.calls k _ _ l0 t641 t642 t643 t644 t645 t646 t647 _ ?side1 ?side2 A3.out).mono ?_); (case side1 => exact cb HR0 HB); (case side2 => exact HC0.out); rintro e w8 ⟨rfl, hb⟩; replace BK640 := bb BK640 hb; replace HB := sb HB hb; (try clear hb)) | ((with_reducible refine gate_dst (N := 6) rfl ?_); refine be 6 149 #[.int .i64 0, .int .i64 0, .int .i64 0, .int .i64 0, .int .i64 0, .int .i64 0] ?_; intro gb648 hg w9 hbox hb; have BK648 := m0 hbox; have GE648 := gw w hg; replace HB := sb HB hb; have NB640_648 := nl BK640 hg; have NB648_640 := ng (nl BK640 hg); replace BK640 := bb BK640 hb; clear hb hbox hg; have hnb10 := NB648_640.out; have hnc10 := NB640_648.out; have hcz11_0 : w9.cell? ⟨gb648, 0, none⟩ = some (.int .i64 0) := (blk_cell BK648.out 0).trans rfl; have hcz11_1 : w9.cell? ⟨gb648, 1, none⟩ = some (.int .i64 0) := (blk_cell BK648.out 1).trans rfl; have hcz11_2 : w9.cell? ⟨gb648, 2, none⟩ = some (.int .i64 0) := (blk_cell BK648.out 2).trans rfl; have hcz11_3 : w9.cell? ⟨gb648, 3, none⟩ = some (.int .i64 0) := (blk_cell BK648.out 3).trans rfl; have hcz11_4 : w9.cell? ⟨gb648, 4, none⟩ = some (.int .i64 0) := (blk_cell BK648.out 4).trans rfl; have hcz11_5 : w9.cell? ⟨gb648, 5, none⟩ = some (.int .i64 0) := (blk_cell BK648.out 5).trans rfl; have hfz11_0 := blk_frozen BK648.out 0; have hfz11_1 := blk_frozen BK648.out 1; have hfz11_2 := blk_frozen BK648.out 2; have hfz11_3 := blk_frozen BK648.out 3; have hfz11_4 := blk_frozen BK648.out 4; have hfz11_5 := blk_frozen BK648.out 5; obtain ⟨hcz12_0, hcz12_1, hcz12_2, hfz12_0, hfz12_1, hfz12_2⟩ := b3 BK640) | (go_at_call 90; (with_reducible refine (L_lineErr.calls k a1_0 a1_1 a1_2 t649 _ A4.out).mono ?_); rintro e w13 ⟨rfl, hb⟩; replace BK640 := m0 (blk_below (g := gb640) (o := .cells #[.int .i64 a1_0, .int .i64 a1_1, .int .i64 a1_2] 56 (0, 0)) (bq BK640.out) hb); replace BK648 := m0 (blk_below (g := gb648) (o := .cells #[.int .i64 t641, .int .i64 t642, .int .i64 t643, .int .i64 t644, .int .i64 t645, .int .i64 t646] 149 (0, 0)) (bq BK648.out) hb); replace HB := sb HB hb; (try clear hb)) | ((with_reducible refine gate_dst (N := 21) rfl ?_); refine Kd.R_lit (Kd.int .i64) _ 24 ?hg (N := 21) ?hd (xs := ([t647, t649] : List Int)) (inner := [.int .i64 t647, .int .i64 t649]) (ok := fun _ => True) (okp := fun _ => True) ?hr ?hp (fun _ hk => hk) trivial (Below.refl _ _) (Nat.le_refl _) (by simp) ?_; (case hd => rfl); (case hg => rfl); (case hr => first | (go_simp; done) | (go_simp; rfl)); (case hp => exact (Reps.one (show Kd.M (Kd.int .i64) _ _ _ t647 [.int .i64 t647] from rfl) (Reps.one (show Kd.M (Kd.int .i64) _ _ _ t649 [.int .i64 t649] from rfl) (Reps.none _ _)))); intro v651 w14 ho15 hb hg_ hnew_; clear hg_ hnew_; (first | rw [← Ny650.out] at ho15 | (simp only [Int.reduceToNat] at ho15; rw [← Ny650.out] at ho15)); have HO652 := m0 (Kd.R_lower ho15 (below_size bz)); replace BK640 := bb BK640 hb; replace BK648 := bb BK648 hb; replace HB := sb HB hb; clear hb ho15; obtain ⟨Ao16, co16, eo16⟩ := Kd.R_slice HO652.out; subst eo16) | (go_at_call 75; (with_reducible refine (L_first.calls k _ _ y650 t653 _ ?side1 ?side2 A5.out).mono ?_); (case side1 => exact bc (Kd.R_reads' HO652.out).2.2); (case side2 => exact (Kd.R_reads' HO652.out).2.1); rintro e w' ⟨rfl, ⟨nd, rfl⟩⟩; (try first | exact ⟨rfl, _, World.drewN_drewN _ _ _⟩ | exact ⟨rfl, _, Eq.trans (World.drewN_drewN _ _ _) (congrArg (World.drewN _) (Nat.add_assoc _ _ _))⟩))))
  go_loopg [8, 9, 28] k (fun kq v8 v9 v28 w' => ∃ (x8_1 : Int) (x9_1 : Int) (x28_1 : Int), v8 = .int .i64 x8_1 ∧ v9 = .int .i64 x9_1 ∧ v28 = .int .i64 x28_1 ∧ Aside0 (L_CheckLine.l0 kq x8_1 x9_1 l0 (l0.length : Int) x28_1 a1_0 a1_1 a1_2 = some (r1, r2)) ∧ Aside0 (kq ≤ k) ∧ Aside0 (w'.heap[gb640]? = some (.cells #[.int .i64 a1_0, .int .i64 a1_1, .int .i64 a1_2] 56 (0, 0))) ∧ Aside0 (w'.heap[gb648]? = some (.cells #[.int .i64 t641, .int .i64 t642, .int .i64 t643, .int .i64 t644, .int .i64 t645, .int .i64 t646] 149 (0, 0))) ∧ Aside0 (Below w.heap.size w w'))
  case atStart => exact ⟨(0), (0), (0), (by first | rfl | (simp; done) | (simp [*]; done)), (by first | rfl | (simp; done) | (simp [*]; done)), (by first | rfl | (simp; done) | (simp [*]; done)), H', ⟨Nat.le_refl _⟩, ⟨bk BK640.out⟩, ⟨bk BK648.out⟩, ⟨bz⟩⟩
  case round =>
   clear H'
   try clear hcz11_0
   try clear hcz11_1
   try clear hcz11_2
   try clear hcz11_3
   try clear hcz11_4
   try clear hcz11_5
   try clear hcz12_0
   try clear hcz12_1
   try clear hcz12_2
   try clear hfz11_0
   try clear hfz11_1
   try clear hfz11_2
   try clear hfz11_3
   try clear hfz11_4
   try clear hfz11_5
   try clear hfz12_0
   try clear hfz12_1
   try clear hfz12_2
   obtain ⟨x8_1, x9_1, x28_1, rfl, rfl, rfl, HA, HK1, BK640, BK648, HB⟩ := hrel
   cases gk with
   | zero => exact absurd HA.out (by simp [L_CheckLine.l0])
   | succ k1 =>
    have H := HA.out
    clear HA
    simp only [L_CheckLine.l0] at H
    by_cases c17 : x28_1 < (l0.length : Int)
    ·rw [if_pos c17] at H
     have c17b0 := decide_eq_true c17
     clear c17
     by_cases c18 : 0 ≤ x28_1
     ·rw [if_pos c18] at H
      have c18b0 := decide_eq_true c18
      clear c18
      by_cases c19 : x28_1 < (l0.length : Int)
      ·rw [if_pos c19] at H
       have c19b0 := decide_eq_true c19
       clear c19
       have H' := m0 H
       clear H
       have p654 : 0 ≤ (x28_1 : Int) := od
       have q654 : x28_1 < (l0.length : Int) := od
       obtain ⟨ad654, e654, hx654_0, hx654_1, hx654_2⟩ := at_T85 HR0.out x28_1 p654 q654
       cases e654
       replace hx654_0 := (HB.out.cell (World.block_lt_of_cell? w _ hx654_0)).trans hx654_0
       replace hx654_1 := (HB.out.cell (World.block_lt_of_cell? w _ hx654_1)).trans hx654_1
       replace hx654_2 := (HB.out.cell (World.block_lt_of_cell? w _ hx654_2)).trans hx654_2
       replace p654 := eq_true p654
       replace q654 := eq_true q654
       go_wp2_with (first | ((with_reducible refine gate_dst (N := 11) rfl ?_); refine be 11 85 #[.int .i64 0, .int .i64 0, .int .i64 0] ?_; intro gb655 hg w20 hbox hb; have BK655 := m0 hbox; have GE655 := gw w hg; replace HB := sb HB hb; have NB640_655 := nl BK640 hg; have NB655_640 := ng (nl BK640 hg); replace BK640 := bb BK640 hb; have NB648_655 := nl BK648 hg; have NB655_648 := ng (nl BK648 hg); replace BK648 := bb BK648 hb; clear hb hbox hg; have hnb21 := NB655_640.out; have hnc21 := NB640_655.out; have hnb22 := NB655_648.out; have hnc22 := NB648_655.out; obtain ⟨hcz23_0, hcz23_1, hcz23_2, hfz23_0, hfz23_1, hfz23_2⟩ := b3 BK655; have hnb24 := NB640_648.out; have hnc24 := NB648_640.out; obtain ⟨hcz25_0, hcz25_1, hcz25_2, hfz25_0, hfz25_1, hfz25_2⟩ := b3 BK640))
       repeat (go_quiet (first | ((with_reducible refine gate_dst (N := 11) rfl ?_); refine be 11 85 #[.int .i64 0, .int .i64 0, .int .i64 0] ?_; intro gb655 hg w20 hbox hb; have BK655 := m0 hbox; have GE655 := gw w hg; replace HB := sb HB hb; have NB640_655 := nl BK640 hg; have NB655_640 := ng (nl BK640 hg); replace BK640 := bb BK640 hb; have NB648_655 := nl BK648 hg; have NB655_648 := ng (nl BK648 hg); replace BK648 := bb BK648 hb; clear hb hbox hg; have hnb21 := NB655_640.out; have hnc21 := NB640_655.out; have hnb22 := NB655_648.out; have hnc22 := NB648_655.out; obtain ⟨hcz23_0, hcz23_1, hcz23_2, hfz23_0, hfz23_1, hfz23_2⟩ := b3 BK655; have hnb24 := NB640_648.out; have hnc24 := NB648_640.out; obtain ⟨hcz25_0, hcz25_1, hcz25_2, hfz25_0, hfz25_1, hfz25_2⟩ := b3 BK640)); try go_wp2_with (first | ((with_reducible refine gate_dst (N := 11) rfl ?_); refine be 11 85 #[.int .i64 0, .int .i64 0, .int .i64 0] ?_; intro gb655 hg w20 hbox hb; have BK655 := m0 hbox; have GE655 := gw w hg; replace HB := sb HB hb; have NB640_655 := nl BK640 hg; have NB655_640 := ng (nl BK640 hg); replace BK640 := bb BK640 hb; have NB648_655 := nl BK648 hg; have NB655_648 := ng (nl BK648 hg); replace BK648 := bb BK648 hb; clear hb hbox hg; have hnb21 := NB655_640.out; have hnc21 := NB640_655.out; have hnb22 := NB655_648.out; have hnc22 := NB648_655.out; obtain ⟨hcz23_0, hcz23_1, hcz23_2, hfz23_0, hfz23_1, hfz23_2⟩ := b3 BK655; have hnb24 := NB640_648.out; have hnc24 := NB648_640.out; obtain ⟨hcz25_0, hcz25_1, hcz25_2, hfz25_0, hfz25_1, hfz25_2⟩ := b3 BK640)))
       go_roundg k1
       case measure => have := HK1.out; omega
       case rel => exact ⟨(wrap64 (x8_1 + (wrap64 ((wrap64 ((wrap64 (a1_2 * ((rd_T85 l0 x28_1).f1))) - (wrap64 (a1_0 * ((rd_T85 l0 x28_1).f0))))) - a1_1)))), (wrap64 (x9_1 + (wrap64 ((wrap64 ((wrap64 ((wrap64 (a1_2 * ((rd_T85 l0 x28_1).f1))) - (wrap64 (a1_0 * ((rd_T85 l0 x28_1).f0))))) - a1_1)) * ((rd_T85 l0 x28_1).f0))))), (wrap64 (x28_1 + 1)), (by first | rfl | (simp; done) | (simp [*]; done)), (by first | rfl | (simp; done) | (simp [*]; done)), (by first | rfl | (simp; done) | (simp [*]; done)), H', ⟨by have := HK1.out; omega⟩, ⟨bq BK640.out⟩, ⟨bq BK648.out⟩, ⟨bz⟩⟩
      ·rw [if_neg c19] at H
       exact absurd H (by simp)
     ·rw [if_neg c18] at H
      exact absurd H (by simp)
    ·rw [if_neg c17] at H
     have c17b0 := decide_eq_false c17
     clear c17
     by_cases c26 : x8_1 = 0
     ·rw [if_pos c26] at H
      have c26b0 := beq_iff_eq.mpr c26
      have c26b1 := bne_eq_false_iff_eq.mpr c26
      clear c26
      by_cases c27 : x9_1 = 0
      ·rw [if_pos c27] at H
       have c27b0 := beq_iff_eq.mpr c27
       have c27b1 := bne_eq_false_iff_eq.mpr c27
       clear c27
       simp only [Option.some.injEq, Prod.mk.injEq] at H
       obtain ⟨rfl, rfl⟩ := H
       go_wp2
       repeat (go_quiet (fail); try go_wp2)
       go_ret2
       exact ez
      ·rw [if_neg c27] at H
       have c27b0 := beq_eq_false_iff_ne.mpr c27
       have c27b1 := bne_iff_ne.mpr c27
       simp only [Option.some.injEq, Prod.mk.injEq] at H
       obtain ⟨rfl, rfl⟩ := H
       go_wp2
       repeat (go_quiet (fail); try go_wp2)
       go_ret2
       exact ez
     ·rw [if_neg c26] at H
      have c26b0 := beq_eq_false_iff_ne.mpr c26
      have c26b1 := bne_iff_ne.mpr c26
      simp only [Option.some.injEq, Prod.mk.injEq] at H
      obtain ⟨rfl, rfl⟩ := H
      go_wp2
      repeat (go_quiet (fail); try go_wp2)
      go_ret2
      exact ez
 ·rw [if_neg c6] at H
  have c6b0 := beq_eq_false_iff_ne.mpr c6
  have c6b1 := bne_iff_ne.mpr c6
  simp only [Option.some.injEq, Prod.mk.injEq] at H
  obtain ⟨rfl, rfl⟩ := H
  go_enter Try.func40, Try.ntmps40
  go_wp2_with (first | ((with_reducible refine gate_dst (N := 3) rfl ?_); refine be 3 56 #[.int .i64 a1_0, .int .i64 a1_1, .int .i64 a1_2] ?_; intro gb640 hg w28 hbox hb; have BK640 := m0 hbox; have GE640 := gw w hg; replace HB := sb HB hb; clear hb hbox hg) | (go_at_call 94; (with_reducible refine (L_open.calls k _ _ l0 t641 t642 t643 t644 t645 t646 t647 _ ?side1 ?side2 A3.out).mono ?_); (case side1 => exact cb HR0 HB); (case side2 => exact HC0.out); rintro e w29 ⟨rfl, hb⟩; replace BK640 := bb BK640 hb; replace HB := sb HB hb; (try clear hb)) | ((with_reducible refine gate_dst (N := 6) rfl ?_); refine be 6 149 #[.int .i64 0, .int .i64 0, .int .i64 0, .int .i64 0, .int .i64 0, .int .i64 0] ?_; intro gb648 hg w30 hbox hb; have BK648 := m0 hbox; have GE648 := gw w hg; replace HB := sb HB hb; have NB640_648 := nl BK640 hg; have NB648_640 := ng (nl BK640 hg); replace BK640 := bb BK640 hb; clear hb hbox hg; have hnb31 := NB648_640.out; have hnc31 := NB640_648.out; have hcz32_0 : w30.cell? ⟨gb648, 0, none⟩ = some (.int .i64 0) := (blk_cell BK648.out 0).trans rfl; have hcz32_1 : w30.cell? ⟨gb648, 1, none⟩ = some (.int .i64 0) := (blk_cell BK648.out 1).trans rfl; have hcz32_2 : w30.cell? ⟨gb648, 2, none⟩ = some (.int .i64 0) := (blk_cell BK648.out 2).trans rfl; have hcz32_3 : w30.cell? ⟨gb648, 3, none⟩ = some (.int .i64 0) := (blk_cell BK648.out 3).trans rfl; have hcz32_4 : w30.cell? ⟨gb648, 4, none⟩ = some (.int .i64 0) := (blk_cell BK648.out 4).trans rfl; have hcz32_5 : w30.cell? ⟨gb648, 5, none⟩ = some (.int .i64 0) := (blk_cell BK648.out 5).trans rfl; have hfz32_0 := blk_frozen BK648.out 0; have hfz32_1 := blk_frozen BK648.out 1; have hfz32_2 := blk_frozen BK648.out 2; have hfz32_3 := blk_frozen BK648.out 3; have hfz32_4 := blk_frozen BK648.out 4; have hfz32_5 := blk_frozen BK648.out 5; obtain ⟨hcz33_0, hcz33_1, hcz33_2, hfz33_0, hfz33_1, hfz33_2⟩ := b3 BK640) | (go_at_call 90; (with_reducible refine (L_lineErr.calls k a1_0 a1_1 a1_2 t649 _ A4.out).mono ?_); rintro e w34 ⟨rfl, hb⟩; replace BK640 := m0 (blk_below (g := gb640) (o := .cells #[.int .i64 a1_0, .int .i64 a1_1, .int .i64 a1_2] 56 (0, 0)) (bq BK640.out) hb); replace BK648 := m0 (blk_below (g := gb648) (o := .cells #[.int .i64 t641, .int .i64 t642, .int .i64 t643, .int .i64 t644, .int .i64 t645, .int .i64 t646] 149 (0, 0)) (bq BK648.out) hb); replace HB := sb HB hb; (try clear hb)) | ((with_reducible refine gate_dst (N := 21) rfl ?_); refine Kd.R_lit (Kd.int .i64) _ 24 ?hg (N := 21) ?hd (xs := ([t647, t649] : List Int)) (inner := [.int .i64 t647, .int .i64 t649]) (ok := fun _ => True) (okp := fun _ => True) ?hr ?hp (fun _ hk => hk) trivial (Below.refl _ _) (Nat.le_refl _) (by simp) ?_; (case hd => rfl); (case hg => rfl); (case hr => first | (go_simp; done) | (go_simp; rfl)); (case hp => exact (Reps.one (show Kd.M (Kd.int .i64) _ _ _ t647 [.int .i64 t647] from rfl) (Reps.one (show Kd.M (Kd.int .i64) _ _ _ t649 [.int .i64 t649] from rfl) (Reps.none _ _)))); intro v651 w35 ho36 hb hg_ hnew_; clear hg_ hnew_; (first | rw [← Ny650.out] at ho36 | (simp only [Int.reduceToNat] at ho36; rw [← Ny650.out] at ho36)); have HO652 := m0 (Kd.R_lower ho36 (below_size bz)); replace BK640 := bb BK640 hb; replace BK648 := bb BK648 hb; replace HB := sb HB hb; clear hb ho36; obtain ⟨Ao37, co37, eo37⟩ := Kd.R_slice HO652.out; subst eo37) | (go_at_call 75; (with_reducible refine (L_first.calls k _ _ y650 t653 _ ?side1 ?side2 A5.out).mono ?_); (case side1 => exact bc (Kd.R_reads' HO652.out).2.2); (case side2 => exact (Kd.R_reads' HO652.out).2.1); rintro e w' ⟨rfl, ⟨nd, rfl⟩⟩; (try first | exact ⟨rfl, _, World.drewN_drewN _ _ _⟩ | exact ⟨rfl, _, Eq.trans (World.drewN_drewN _ _ _) (congrArg (World.drewN _) (Nat.add_assoc _ _ _))⟩)))
  repeat (go_quiet (first | ((with_reducible refine gate_dst (N := 3) rfl ?_); refine be 3 56 #[.int .i64 a1_0, .int .i64 a1_1, .int .i64 a1_2] ?_; intro gb640 hg w28 hbox hb; have BK640 := m0 hbox; have GE640 := gw w hg; replace HB := sb HB hb; clear hb hbox hg) | (go_at_call 94; (with_reducible refine (L_open.calls k _ _ l0 t641 t642 t643 t644 t645 t646 t647 _ ?side1 ?side2 A3.out).mono ?_); (case side1 => exact cb HR0 HB); (case side2 => exact HC0.out); rintro e w29 ⟨rfl, hb⟩; replace BK640 := bb BK640 hb; replace HB := sb HB hb; (try clear hb)) | ((with_reducible refine gate_dst (N := 6) rfl ?_); refine be 6 149 #[.int .i64 0, .int .i64 0, .int .i64 0, .int .i64 0, .int .i64 0, .int .i64 0] ?_; intro gb648 hg w30 hbox hb; have BK648 := m0 hbox; have GE648 := gw w hg; replace HB := sb HB hb; have NB640_648 := nl BK640 hg; have NB648_640 := ng (nl BK640 hg); replace BK640 := bb BK640 hb; clear hb hbox hg; have hnb31 := NB648_640.out; have hnc31 := NB640_648.out; have hcz32_0 : w30.cell? ⟨gb648, 0, none⟩ = some (.int .i64 0) := (blk_cell BK648.out 0).trans rfl; have hcz32_1 : w30.cell? ⟨gb648, 1, none⟩ = some (.int .i64 0) := (blk_cell BK648.out 1).trans rfl; have hcz32_2 : w30.cell? ⟨gb648, 2, none⟩ = some (.int .i64 0) := (blk_cell BK648.out 2).trans rfl; have hcz32_3 : w30.cell? ⟨gb648, 3, none⟩ = some (.int .i64 0) := (blk_cell BK648.out 3).trans rfl; have hcz32_4 : w30.cell? ⟨gb648, 4, none⟩ = some (.int .i64 0) := (blk_cell BK648.out 4).trans rfl; have hcz32_5 : w30.cell? ⟨gb648, 5, none⟩ = some (.int .i64 0) := (blk_cell BK648.out 5).trans rfl; have hfz32_0 := blk_frozen BK648.out 0; have hfz32_1 := blk_frozen BK648.out 1; have hfz32_2 := blk_frozen BK648.out 2; have hfz32_3 := blk_frozen BK648.out 3; have hfz32_4 := blk_frozen BK648.out 4; have hfz32_5 := blk_frozen BK648.out 5; obtain ⟨hcz33_0, hcz33_1, hcz33_2, hfz33_0, hfz33_1, hfz33_2⟩ := b3 BK640) | (go_at_call 90; (with_reducible refine (L_lineErr.calls k a1_0 a1_1 a1_2 t649 _ A4.out).mono ?_); rintro e w34 ⟨rfl, hb⟩; replace BK640 := m0 (blk_below (g := gb640) (o := .cells #[.int .i64 a1_0, .int .i64 a1_1, .int .i64 a1_2] 56 (0, 0)) (bq BK640.out) hb); replace BK648 := m0 (blk_below (g := gb648) (o := .cells #[.int .i64 t641, .int .i64 t642, .int .i64 t643, .int .i64 t644, .int .i64 t645, .int .i64 t646] 149 (0, 0)) (bq BK648.out) hb); replace HB := sb HB hb; (try clear hb)) | ((with_reducible refine gate_dst (N := 21) rfl ?_); refine Kd.R_lit (Kd.int .i64) _ 24 ?hg (N := 21) ?hd (xs := ([t647, t649] : List Int)) (inner := [.int .i64 t647, .int .i64 t649]) (ok := fun _ => True) (okp := fun _ => True) ?hr ?hp (fun _ hk => hk) trivial (Below.refl _ _) (Nat.le_refl _) (by simp) ?_; (case hd => rfl); (case hg => rfl); (case hr => first | (go_simp; done) | (go_simp; rfl)); (case hp => exact (Reps.one (show Kd.M (Kd.int .i64) _ _ _ t647 [.int .i64 t647] from rfl) (Reps.one (show Kd.M (Kd.int .i64) _ _ _ t649 [.int .i64 t649] from rfl) (Reps.none _ _)))); intro v651 w35 ho36 hb hg_ hnew_; clear hg_ hnew_; (first | rw [← Ny650.out] at ho36 | (simp only [Int.reduceToNat] at ho36; rw [← Ny650.out] at ho36)); have HO652 := m0 (Kd.R_lower ho36 (below_size bz)); replace BK640 := bb BK640 hb; replace BK648 := bb BK648 hb; replace HB := sb HB hb; clear hb ho36; obtain ⟨Ao37, co37, eo37⟩ := Kd.R_slice HO652.out; subst eo37) | (go_at_call 75; (with_reducible refine (L_first.calls k _ _ y650 t653 _ ?side1 ?side2 A5.out).mono ?_); (case side1 => exact bc (Kd.R_reads' HO652.out).2.2); (case side2 => exact (Kd.R_reads' HO652.out).2.1); rintro e w' ⟨rfl, ⟨nd, rfl⟩⟩; (try first | exact ⟨rfl, _, World.drewN_drewN _ _ _⟩ | exact ⟨rfl, _, Eq.trans (World.drewN_drewN _ _ _) (congrArg (World.drewN _) (Nat.add_assoc _ _ _))⟩))); try go_wp2_with (first | ((with_reducible refine gate_dst (N := 3) rfl ?_); refine be 3 56 #[.int .i64 a1_0, .int .i64 a1_1, .int .i64 a1_2] ?_; intro gb640 hg w28 hbox hb; have BK640 := m0 hbox; have GE640 := gw w hg; replace HB := sb HB hb; clear hb hbox hg) | (go_at_call 94; (with_reducible refine (L_open.calls k _ _ l0 t641 t642 t643 t644 t645 t646 t647 _ ?side1 ?side2 A3.out).mono ?_); (case side1 => exact cb HR0 HB); (case side2 => exact HC0.out); rintro e w29 ⟨rfl, hb⟩; replace BK640 := bb BK640 hb; replace HB := sb HB hb; (try clear hb)) | ((with_reducible refine gate_dst (N := 6) rfl ?_); refine be 6 149 #[.int .i64 0, .int .i64 0, .int .i64 0, .int .i64 0, .int .i64 0, .int .i64 0] ?_; intro gb648 hg w30 hbox hb; have BK648 := m0 hbox; have GE648 := gw w hg; replace HB := sb HB hb; have NB640_648 := nl BK640 hg; have NB648_640 := ng (nl BK640 hg); replace BK640 := bb BK640 hb; clear hb hbox hg; have hnb31 := NB648_640.out; have hnc31 := NB640_648.out; have hcz32_0 : w30.cell? ⟨gb648, 0, none⟩ = some (.int .i64 0) := (blk_cell BK648.out 0).trans rfl; have hcz32_1 : w30.cell? ⟨gb648, 1, none⟩ = some (.int .i64 0) := (blk_cell BK648.out 1).trans rfl; have hcz32_2 : w30.cell? ⟨gb648, 2, none⟩ = some (.int .i64 0) := (blk_cell BK648.out 2).trans rfl; have hcz32_3 : w30.cell? ⟨gb648, 3, none⟩ = some (.int .i64 0) := (blk_cell BK648.out 3).trans rfl; have hcz32_4 : w30.cell? ⟨gb648, 4, none⟩ = some (.int .i64 0) := (blk_cell BK648.out 4).trans rfl; have hcz32_5 : w30.cell? ⟨gb648, 5, none⟩ = some (.int .i64 0) := (blk_cell BK648.out 5).trans rfl; have hfz32_0 := blk_frozen BK648.out 0; have hfz32_1 := blk_frozen BK648.out 1; have hfz32_2 := blk_frozen BK648.out 2; have hfz32_3 := blk_frozen BK648.out 3; have hfz32_4 := blk_frozen BK648.out 4; have hfz32_5 := blk_frozen BK648.out 5; obtain ⟨hcz33_0, hcz33_1, hcz33_2, hfz33_0, hfz33_1, hfz33_2⟩ := b3 BK640) | (go_at_call 90; (with_reducible refine (L_lineErr.calls k a1_0 a1_1 a1_2 t649 _ A4.out).mono ?_); rintro e w34 ⟨rfl, hb⟩; replace BK640 := m0 (blk_below (g := gb640) (o := .cells #[.int .i64 a1_0, .int .i64 a1_1, .int .i64 a1_2] 56 (0, 0)) (bq BK640.out) hb); replace BK648 := m0 (blk_below (g := gb648) (o := .cells #[.int .i64 t641, .int .i64 t642, .int .i64 t643, .int .i64 t644, .int .i64 t645, .int .i64 t646] 149 (0, 0)) (bq BK648.out) hb); replace HB := sb HB hb; (try clear hb)) | ((with_reducible refine gate_dst (N := 21) rfl ?_); refine Kd.R_lit (Kd.int .i64) _ 24 ?hg (N := 21) ?hd (xs := ([t647, t649] : List Int)) (inner := [.int .i64 t647, .int .i64 t649]) (ok := fun _ => True) (okp := fun _ => True) ?hr ?hp (fun _ hk => hk) trivial (Below.refl _ _) (Nat.le_refl _) (by simp) ?_; (case hd => rfl); (case hg => rfl); (case hr => first | (go_simp; done) | (go_simp; rfl)); (case hp => exact (Reps.one (show Kd.M (Kd.int .i64) _ _ _ t647 [.int .i64 t647] from rfl) (Reps.one (show Kd.M (Kd.int .i64) _ _ _ t649 [.int .i64 t649] from rfl) (Reps.none _ _)))); intro v651 w35 ho36 hb hg_ hnew_; clear hg_ hnew_; (first | rw [← Ny650.out] at ho36 | (simp only [Int.reduceToNat] at ho36; rw [← Ny650.out] at ho36)); have HO652 := m0 (Kd.R_lower ho36 (below_size bz)); replace BK640 := bb BK640 hb; replace BK648 := bb BK648 hb; replace HB := sb HB hb; clear hb ho36; obtain ⟨Ao37, co37, eo37⟩ := Kd.R_slice HO652.out; subst eo37) | (go_at_call 75; (with_reducible refine (L_first.calls k _ _ y650 t653 _ ?side1 ?side2 A5.out).mono ?_); (case side1 => exact bc (Kd.R_reads' HO652.out).2.2); (case side2 => exact (Kd.R_reads' HO652.out).2.1); rintro e w' ⟨rfl, ⟨nd, rfl⟩⟩; (try first | exact ⟨rfl, _, World.drewN_drewN _ _ _⟩ | exact ⟨rfl, _, Eq.trans (World.drewN_drewN _ _ _) (congrArg (World.drewN _) (Nat.add_assoc _ _ _))⟩))))
  go_ret2
  exact ez
end
section
def Rf_CheckReadings.l0 : Nat → List (S85) → Int → Option (Int × Int)
  | 0, _, _ => none
  | k + 1, x0, x4 => if x4 < (x0.length : Int) then (if 0 ≤ x4 then ((Bs_Within.f ((rd_T85 x0 x4).f0) 0 2000).bind fun t657 => (if t657 = true then ((Bs_Within.f ((rd_T85 x0 x4).f1) 0 2000).bind fun t659 => (if t659 = true then ((Bs_Within.f ((rd_T85 x0 x4).f2) 0 1000).bind fun t661 => (if t661 = true then (Rf_CheckReadings.l0 k x0 (wrap64 (x4 + 1))) else (some (x4, 2)))) else (some (x4, 2)))) else (some (x4, 2)))) else (none)) else (some (0, 0))
def Rf_CheckReadings.f (k : Nat) (l0 : List (S85)) : Option (Int × Int) := if (l0.length : Int) = 0 then (some (0, 10)) else (if (l0.length : Int) > 8 then (some (0, 8)) else (Rf_CheckReadings.l0 k l0 0))
theorem Rf_CheckReadings.mono_l : ∀ k, (∀ y0 y1, LeO (Rf_CheckReadings.l0 k y0 y1) (Rf_CheckReadings.l0 (k + 1) y0 y1))
  | 0 => fun _ _ r h => by simp [Rf_CheckReadings.l0] at h
  | k + 1 => by
    have ih0 := Rf_CheckReadings.mono_l k
    · intro y0 y1
      unfold Rf_CheckReadings.l0
      repeat' with_reducible first
        | exact ih0 ..
        | exact LeO.refl ..
        | exact LeO.none ..
        | refine LeO.ite ?_ ?_
        | refine LeO.bind ?_ (fun _ => ?_)
theorem Rf_CheckReadings.mono : ∀ a0 k, LeO (Rf_CheckReadings.f k a0) (Rf_CheckReadings.f (k + 1) a0) := by
  intro a0 k
  have ih0 := Rf_CheckReadings.mono_l k
  unfold Rf_CheckReadings.f
  repeat' with_reducible first
    | exact ih0 ..
    | exact LeO.refl ..
    | exact LeO.none ..
    | refine LeO.ite ?_ ?_
    | refine LeO.bind ?_ (fun _ => ?_)
theorem Rf_CheckReadings.calls (k : Nat) (A0 : Option Addr) (c0 : Nat) (l0 : List (S85)) (r1 : Int) (r2 : Int) (w : World) (hr0 : Kd.C k85 w A0 l0.length l0) (hc0 : l0.length ≤ c0) (h : Rf_CheckReadings.f k l0 = some (r1, r2)) :
    Calls Try.prog 58 #[.slice A0 l0.length c0] w fun e w' => e = .returned (.tuple #[.int .i64 r1, .int .i64 r2]) ∧ Drawn0 w w' := by
  have HR0 := m0 hr0
  have HC0 := m0 hc0
  clear hr0 hc0
  have H : (if (l0.length : Int) = 0 then (some (0, 10)) else (if (l0.length : Int) > 8 then (some (0, 8)) else (Rf_CheckReadings.l0 k l0 0))) = some (r1, r2) := h
  clear h
  by_cases c2 : (l0.length : Int) = 0
  · rw [if_pos c2] at H
    have c2b0 := beq_iff_eq.mpr c2
    have c2b1 := bne_eq_false_iff_eq.mpr c2
    clear c2
    simp only [Option.some.injEq, Prod.mk.injEq] at H
    obtain ⟨rfl, rfl⟩ := H
    go_enter Try.func58, Try.ntmps58
    go_wp2
    go_ret2
    exact ⟨by first | rfl | (simp; done) | (simp [*]; done), by repeat (first | exact Drawn0.refl _ | apply Drawn0.step)⟩
  · rw [if_neg c2] at H
    have c2b0 := beq_eq_false_iff_ne.mpr c2
    have c2b1 := bne_iff_ne.mpr c2
    have c2b2 : ¬ (l0 = []) := fun h_ => c2 (by rw [h_]; rfl)
    by_cases c3 : (l0.length : Int) > 8
    · rw [if_pos c3] at H
      have c3b0 := decide_eq_true c3
      have c3b1 : decide (8 < l0.length) = true := decide_eq_true (by omega)
      clear c3
      simp only [Option.some.injEq, Prod.mk.injEq] at H
      obtain ⟨rfl, rfl⟩ := H
      go_enter Try.func58, Try.ntmps58
      go_wp2
      go_ret2
      exact ⟨by first | rfl | (simp; done) | (simp [*]; done), by repeat (first | exact Drawn0.refl _ | apply Drawn0.step)⟩
    · rw [if_neg c3] at H
      have c3b0 := decide_eq_false c3
      have c3b1 : decide (8 < l0.length) = false := decide_eq_false (by omega)
      clear c3
      have H' := m0 H
      clear H
      go_enter Try.func58, Try.ntmps58
      go_wp2
      go_loopg [4] k (fun kq v4 w' => ∃ (x4_1 : Int), v4 = .int .i64 x4_1 ∧ Aside0 (Rf_CheckReadings.l0 kq l0 x4_1 = some (r1, r2)) ∧ Aside0 (kq ≤ k) ∧ Drawn0 w w')
      case atStart => exact ⟨(0), (by first | rfl | (simp; done) | (simp [*]; done)), H', ⟨Nat.le_refl _⟩, by repeat (first | exact Drawn0.refl _ | apply Drawn0.step)⟩
      case round =>
        clear H'
        obtain ⟨x4_1, rfl, HA, HK1, ⟨m1, rfl⟩⟩ := hrel
        cases gk with
        | zero => exact absurd HA.out (by simp [Rf_CheckReadings.l0])
        | succ k1 =>
          have H := HA.out
          clear HA
          simp only [Rf_CheckReadings.l0] at H
          by_cases c4 : x4_1 < (l0.length : Int)
          · rw [if_pos c4] at H
            have c4b0 := decide_eq_true c4
            clear c4
            by_cases c5 : 0 ≤ x4_1
            · rw [if_pos c5] at H
              have c5b0 := decide_eq_true c5
              clear c5
              replace H := ob H
              obtain ⟨t657, A6, H⟩ := H
              (try dsimp only at H)
              replace A6 := m0 A6
              by_cases c7 : t657 = true
              · subst c7
                rw [if_pos rfl] at H
                replace H := ob H
                obtain ⟨t659, A8, H⟩ := H
                (try dsimp only at H)
                replace A8 := m0 A8
                by_cases c9 : t659 = true
                · subst c9
                  rw [if_pos rfl] at H
                  replace H := ob H
                  obtain ⟨t661, A10, H⟩ := H
                  (try dsimp only at H)
                  replace A10 := m0 A10
                  by_cases c11 : t661 = true
                  · subst c11
                    rw [if_pos rfl] at H
                    have H' := m0 H
                    clear H
                    have p656 : 0 ≤ (x4_1 : Int) := od
                    have q656 : x4_1 < (l0.length : Int) := od
                    obtain ⟨ad656, e656, hx656_0, hx656_1, hx656_2⟩ := at_T85 HR0.out x4_1 p656 q656
                    cases e656
                    replace p656 := eq_true p656
                    replace q656 := eq_true q656
                    go_wp2_with (first | ((with_reducible refine gate_callee (f := 24) rfl ?_); refine gl (some 22) Try.func24 #[.int .i64 ((rd_T85 l0 x4_1).f0), .int .i64 0, .int .i64 2000] ?_; (with_reducible refine (Bs_Within.calls ((rd_T85 l0 x4_1).f0) 0 2000 true _ A6.out).mono ?_); rintro e w' ⟨rfl, ⟨nd, rfl⟩⟩; refine ⟨_, rfl, ?_⟩; have p658 : 0 ≤ (x4_1 : Int) := od; have q658 : x4_1 < (l0.length : Int) := od; obtain ⟨ad658, e658, hx658_0, hx658_1, hx658_2⟩ := at_T85 HR0.out x4_1 p658 q658; obtain rfl : ad656 = ad658 := (by injection e658); replace p658 := eq_true p658; replace q658 := eq_true q658) | (go_at_call 24; (with_reducible refine (Bs_Within.calls ((rd_T85 l0 x4_1).f1) 0 2000 true _ A8.out).mono ?_); rintro e w' ⟨rfl, ⟨nd, rfl⟩⟩; have p660 : 0 ≤ (x4_1 : Int) := od; have q660 : x4_1 < (l0.length : Int) := od; obtain ⟨ad660, e660, hx660_0, hx660_1, hx660_2⟩ := at_T85 HR0.out x4_1 p660 q660; obtain rfl : ad656 = ad660 := (by injection e660); replace p660 := eq_true p660; replace q660 := eq_true q660) | (go_at_call 24; (with_reducible refine (Bs_Within.calls ((rd_T85 l0 x4_1).f2) 0 1000 true _ A10.out).mono ?_); rintro e w' ⟨rfl, ⟨nd, rfl⟩⟩))
                    go_roundg k1
                    case measure => have := HK1.out; omega
                    case rel => exact ⟨(wrap64 (x4_1 + 1)), (by first | rfl | (simp; done) | (simp [*]; done)), H', ⟨by have := HK1.out; omega⟩, by repeat (first | exact Drawn0.refl _ | apply Drawn0.step)⟩
                  · replace c11 := Bool.eq_false_iff.mpr c11
                    subst c11
                    rw [if_neg (show ¬ (false = true) by decide)] at H
                    simp only [Option.some.injEq, Prod.mk.injEq] at H
                    obtain ⟨rfl, rfl⟩ := H
                    have p656 : 0 ≤ (x4_1 : Int) := od
                    have q656 : x4_1 < (l0.length : Int) := od
                    obtain ⟨ad656, e656, hx656_0, hx656_1, hx656_2⟩ := at_T85 HR0.out x4_1 p656 q656
                    cases e656
                    replace p656 := eq_true p656
                    replace q656 := eq_true q656
                    go_wp2_with (first | ((with_reducible refine gate_callee (f := 24) rfl ?_); refine gl (some 22) Try.func24 #[.int .i64 ((rd_T85 l0 x4_1).f0), .int .i64 0, .int .i64 2000] ?_; (with_reducible refine (Bs_Within.calls ((rd_T85 l0 x4_1).f0) 0 2000 true _ A6.out).mono ?_); rintro e w' ⟨rfl, ⟨nd, rfl⟩⟩; refine ⟨_, rfl, ?_⟩; have p658 : 0 ≤ (x4_1 : Int) := od; have q658 : x4_1 < (l0.length : Int) := od; obtain ⟨ad658, e658, hx658_0, hx658_1, hx658_2⟩ := at_T85 HR0.out x4_1 p658 q658; obtain rfl : ad656 = ad658 := (by injection e658); replace p658 := eq_true p658; replace q658 := eq_true q658) | (go_at_call 24; (with_reducible refine (Bs_Within.calls ((rd_T85 l0 x4_1).f1) 0 2000 true _ A8.out).mono ?_); rintro e w' ⟨rfl, ⟨nd, rfl⟩⟩; have p660 : 0 ≤ (x4_1 : Int) := od; have q660 : x4_1 < (l0.length : Int) := od; obtain ⟨ad660, e660, hx660_0, hx660_1, hx660_2⟩ := at_T85 HR0.out x4_1 p660 q660; obtain rfl : ad656 = ad660 := (by injection e660); replace p660 := eq_true p660; replace q660 := eq_true q660) | (go_at_call 24; (with_reducible refine (Bs_Within.calls ((rd_T85 l0 x4_1).f2) 0 1000 false _ A10.out).mono ?_); rintro e w' ⟨rfl, ⟨nd, rfl⟩⟩))
                    go_ret2
                    exact ⟨by first | rfl | (simp; done) | (simp [*]; done), by repeat (first | exact Drawn0.refl _ | apply Drawn0.step)⟩
                · replace c9 := Bool.eq_false_iff.mpr c9
                  subst c9
                  rw [if_neg (show ¬ (false = true) by decide)] at H
                  simp only [Option.some.injEq, Prod.mk.injEq] at H
                  obtain ⟨rfl, rfl⟩ := H
                  have p656 : 0 ≤ (x4_1 : Int) := od
                  have q656 : x4_1 < (l0.length : Int) := od
                  obtain ⟨ad656, e656, hx656_0, hx656_1, hx656_2⟩ := at_T85 HR0.out x4_1 p656 q656
                  cases e656
                  replace p656 := eq_true p656
                  replace q656 := eq_true q656
                  go_wp2_with (first | ((with_reducible refine gate_callee (f := 24) rfl ?_); refine gl (some 22) Try.func24 #[.int .i64 ((rd_T85 l0 x4_1).f0), .int .i64 0, .int .i64 2000] ?_; (with_reducible refine (Bs_Within.calls ((rd_T85 l0 x4_1).f0) 0 2000 true _ A6.out).mono ?_); rintro e w' ⟨rfl, ⟨nd, rfl⟩⟩; refine ⟨_, rfl, ?_⟩; have p658 : 0 ≤ (x4_1 : Int) := od; have q658 : x4_1 < (l0.length : Int) := od; obtain ⟨ad658, e658, hx658_0, hx658_1, hx658_2⟩ := at_T85 HR0.out x4_1 p658 q658; obtain rfl : ad656 = ad658 := (by injection e658); replace p658 := eq_true p658; replace q658 := eq_true q658) | (go_at_call 24; (with_reducible refine (Bs_Within.calls ((rd_T85 l0 x4_1).f1) 0 2000 false _ A8.out).mono ?_); rintro e w' ⟨rfl, ⟨nd, rfl⟩⟩))
                  go_ret2
                  exact ⟨by first | rfl | (simp; done) | (simp [*]; done), by repeat (first | exact Drawn0.refl _ | apply Drawn0.step)⟩
              · replace c7 := Bool.eq_false_iff.mpr c7
                subst c7
                rw [if_neg (show ¬ (false = true) by decide)] at H
                simp only [Option.some.injEq, Prod.mk.injEq] at H
                obtain ⟨rfl, rfl⟩ := H
                have p656 : 0 ≤ (x4_1 : Int) := od
                have q656 : x4_1 < (l0.length : Int) := od
                obtain ⟨ad656, e656, hx656_0, hx656_1, hx656_2⟩ := at_T85 HR0.out x4_1 p656 q656
                cases e656
                replace p656 := eq_true p656
                replace q656 := eq_true q656
                go_wp2_with (first | ((with_reducible refine gate_callee (f := 24) rfl ?_); refine gl (some 22) Try.func24 #[.int .i64 ((rd_T85 l0 x4_1).f0), .int .i64 0, .int .i64 2000] ?_; (with_reducible refine (Bs_Within.calls ((rd_T85 l0 x4_1).f0) 0 2000 false _ A6.out).mono ?_); rintro e w' ⟨rfl, ⟨nd, rfl⟩⟩; refine ⟨_, rfl, ?_⟩))
                go_ret2
                exact ⟨by first | rfl | (simp; done) | (simp [*]; done), by repeat (first | exact Drawn0.refl _ | apply Drawn0.step)⟩
            · rw [if_neg c5] at H
              exact absurd H (by simp)
          · rw [if_neg c4] at H
            have c4b0 := decide_eq_false c4
            clear c4
            simp only [Option.some.injEq, Prod.mk.injEq] at H
            obtain ⟨rfl, rfl⟩ := H
            go_wp2
            go_ret2
            exact ⟨by first | rfl | (simp; done) | (simp [*]; done), by repeat (first | exact Drawn0.refl _ | apply Drawn0.step)⟩
end
section
def Rf_ReadingsErr.f (k : Nat) (l0 : List (S85)) : Option (Int) := (Rf_CheckReadings.f k l0).bind fun bt662 => (some bt662.2)
theorem Rf_ReadingsErr.mono : ∀ a0 k, LeO (Rf_ReadingsErr.f k a0) (Rf_ReadingsErr.f (k + 1) a0) := by
 intro a0 k
 unfold Rf_ReadingsErr.f
 repeat' with_reducible first
  | exact Rf_CheckReadings.mono ..
  | exact LeO.refl ..
  | exact LeO.none ..
  | refine LeO.ite ?_ ?_
  | refine LeO.bind ?_ (fun _ => ?_)
theorem Rf_ReadingsErr.calls (k : Nat) (A0 : Option Addr) (c0 : Nat) (l0 : List (S85)) (r : Int) (w : World) (hr0 : Kd.C k85 w A0 l0.length l0) (hc0 : l0.length ≤ c0) (h : Rf_ReadingsErr.f k l0 = some r) :
  Calls Try.prog 41 #[.slice A0 l0.length c0] w fun e w' => e = .returned (.int .i64 r) ∧ Drawn0 w w' := by
 have HR0 := m0 hr0
 have HC0 := m0 hc0
 clear hr0 hc0
 have H : ((Rf_CheckReadings.f k l0).bind fun bt662 => (some bt662.2)) = some r := h
 clear h
 replace H := ob H
 obtain ⟨⟨t662, t663⟩, A2, H⟩ := H
 (try dsimp only at H)
 replace A2 := m0 A2
 obtain rfl := Option.some.inj H
 go_enter Try.func41, Try.ntmps41
 go_wp2_with (first | ((with_reducible refine gate_callee (f := 58) rfl ?_); refine gl (some 7) Try.func58 #[.slice A0 l0.length c0] ?_; (with_reducible refine (Rf_CheckReadings.calls k _ _ l0 t662 t663 _ ?side1 ?side2 A2.out).mono ?_); (case side1 => repeat (first | exact HR0.out | (with_reducible refine Kd.C_alloc ?_ _) | (with_reducible refine Kd.C_drewN ?_ _) | (with_reducible refine Kd.C_drew ?_))); (case side2 => exact HC0.out); rintro e w' ⟨rfl, ⟨nd, rfl⟩⟩; refine ⟨_, rfl, ?_⟩))
 go_ret
 exact ⟨by first | rfl | (simp; done) | (simp [*]; done), by repeat (first | exact Drawn0.refl _ | apply Drawn0.step)⟩
end
section
def Rf_AreEqual.l0 : Nat → List (S85) → Int → Option (Bool)
 | 0, _, _ => none
 | k + 1, x0, x3 => if x3 < (x0.length : Int) then (if 0 ≤ x3 then (if 0 < (x0.length : Int) then (if ((rd_T85 x0 x3).f0) = ((rd_T85 x0 0).f0) then (Rf_AreEqual.l0 k x0 (wrap64 (x3 + 1))) else (some false)) else (none)) else (none)) else (some true)
def Rf_AreEqual.f (k : Nat) (l0 : List (S85)) : Option (Bool) := Rf_AreEqual.l0 k l0 0
theorem Rf_AreEqual.mono_l : ∀ k, (∀ y0 y1, LeO (Rf_AreEqual.l0 k y0 y1) (Rf_AreEqual.l0 (k + 1) y0 y1))
 | 0 => fun _ _ r h => by simp [Rf_AreEqual.l0] at h
 | k + 1 => by
  have ih0 := Rf_AreEqual.mono_l k
  ·intro y0 y1
   unfold Rf_AreEqual.l0
   repeat' with_reducible first
    | exact ih0 ..
    | exact LeO.refl ..
    | exact LeO.none ..
    | refine LeO.ite ?_ ?_
    | refine LeO.bind ?_ (fun _ => ?_)
theorem Rf_AreEqual.mono : ∀ a0 k, LeO (Rf_AreEqual.f k a0) (Rf_AreEqual.f (k + 1) a0) := by
 intro a0 k
 have ih0 := Rf_AreEqual.mono_l k
 unfold Rf_AreEqual.f
 repeat' with_reducible first
  | exact ih0 ..
  | exact LeO.refl ..
  | exact LeO.none ..
  | refine LeO.ite ?_ ?_
  | refine LeO.bind ?_ (fun _ => ?_)
theorem Rf_AreEqual.calls (k : Nat) (A0 : Option Addr) (c0 : Nat) (l0 : List (S85)) (r : Bool) (w : World) (hr0 : Kd.C k85 w A0 l0.length l0) (hc0 : l0.length ≤ c0) (h : Rf_AreEqual.f k l0 = some r) :
  Calls Try.prog 42 #[.slice A0 l0.length c0] w fun e w' => e = .returned (.bool r) ∧ Drawn0 w w' := by
 have HR0 := m0 hr0
 have HC0 := m0 hc0
 clear hr0 hc0
 have H : (Rf_AreEqual.l0 k l0 0) = some r := h
 clear h
 have H' := m0 H
 clear H
 go_enter Try.func42, Try.ntmps42
 go_wp2
 repeat (go_quiet (fail); try go_wp2)
 go_loopg [3] k (fun kq v3 w' => ∃ (x3_1 : Int), v3 = .int .i64 x3_1 ∧ Aside0 (Rf_AreEqual.l0 kq l0 x3_1 = some r) ∧ Aside0 (kq ≤ k) ∧ Drawn0 w w')
 case atStart => exact ⟨(0), (by first | rfl | (simp; done) | (simp [*]; done)), H', ⟨Nat.le_refl _⟩, by repeat (first | exact Drawn0.refl _ | apply Drawn0.step)⟩
 case round =>
  clear H'
  obtain ⟨x3_1, rfl, HA, HK1, ⟨m1, rfl⟩⟩ := hrel
  cases gk with
  | zero => exact absurd HA.out (by simp [Rf_AreEqual.l0])
  | succ k1 =>
   have H := HA.out
   clear HA
   simp only [Rf_AreEqual.l0] at H
   by_cases c2 : x3_1 < (l0.length : Int)
   ·rw [if_pos c2] at H
    have c2b0 := decide_eq_true c2
    clear c2
    by_cases c3 : 0 ≤ x3_1
    ·rw [if_pos c3] at H
     have c3b0 := decide_eq_true c3
     clear c3
     by_cases c4 : 0 < (l0.length : Int)
     ·rw [if_pos c4] at H
      have c4b0 := decide_eq_true c4
      have c4b1 : decide (0 < l0.length) = true := decide_eq_true (by omega)
      clear c4
      by_cases c5 : ((rd_T85 l0 x3_1).f0) = ((rd_T85 l0 0).f0)
      ·rw [if_pos c5] at H
       have c5b0 := beq_iff_eq.mpr c5
       have c5b1 := bne_eq_false_iff_eq.mpr c5
       clear c5
       have H' := m0 H
       clear H
       have p664 : 0 ≤ (x3_1 : Int) := od
       have q664 : x3_1 < (l0.length : Int) := od
       obtain ⟨ad664, e664, hx664_0, hx664_1, hx664_2⟩ := at_T85 HR0.out x3_1 p664 q664
       cases e664
       replace p664 := eq_true p664
       replace q664 := eq_true q664
       have p665 : 0 ≤ (0 : Int) := (by omega)
       have q665 : 0 < (l0.length : Int) := od
       obtain ⟨ad665, e665, hx665_0, hx665_1, hx665_2⟩ := at_T85 HR0.out 0 p665 q665
       obtain rfl : ad664 = ad665 := (by injection e665)
       have qi665 : (0 < l0.length) = True := eq_true (by omega)
       (try rw [show ((0 : Int)).toNat = 0 from rfl] at hx665_0)
       (try rw [show 0 * 3 = 0 from rfl] at hx665_0)
       (try rw [Addr.add_zero'] at hx665_0)
       (try rw [show ((0 : Int)).toNat = 0 from rfl] at hx665_1)
       (try rw [show 0 * 3 = 0 from rfl] at hx665_1)
       (try rw [Addr.add_zero'] at hx665_1)
       (try rw [show ((0 : Int)).toNat = 0 from rfl] at hx665_2)
       (try rw [show 0 * 3 = 0 from rfl] at hx665_2)
       (try rw [Addr.add_zero'] at hx665_2)
       replace p665 := eq_true p665
       replace q665 := eq_true q665
       go_wp2
       repeat (go_quiet (fail); try go_wp2)
       go_roundg k1
       case measure => have := HK1.out; omega
       case rel => exact ⟨(wrap64 (x3_1 + 1)), (by first | rfl | (simp; done) | (simp [*]; done)), H', ⟨by have := HK1.out; omega⟩, by repeat (first | exact Drawn0.refl _ | apply Drawn0.step)⟩
      ·rw [if_neg c5] at H
       have c5b0 := beq_eq_false_iff_ne.mpr c5
       have c5b1 := bne_iff_ne.mpr c5
       obtain rfl := Option.some.inj H
       have p664 : 0 ≤ (x3_1 : Int) := od
       have q664 : x3_1 < (l0.length : Int) := od
       obtain ⟨ad664, e664, hx664_0, hx664_1, hx664_2⟩ := at_T85 HR0.out x3_1 p664 q664
       cases e664
       replace p664 := eq_true p664
       replace q664 := eq_true q664
       have p665 : 0 ≤ (0 : Int) := (by omega)
       have q665 : 0 < (l0.length : Int) := od
       obtain ⟨ad665, e665, hx665_0, hx665_1, hx665_2⟩ := at_T85 HR0.out 0 p665 q665
       obtain rfl : ad664 = ad665 := (by injection e665)
       have qi665 : (0 < l0.length) = True := eq_true (by omega)
       (try rw [show ((0 : Int)).toNat = 0 from rfl] at hx665_0)
       (try rw [show 0 * 3 = 0 from rfl] at hx665_0)
       (try rw [Addr.add_zero'] at hx665_0)
       (try rw [show ((0 : Int)).toNat = 0 from rfl] at hx665_1)
       (try rw [show 0 * 3 = 0 from rfl] at hx665_1)
       (try rw [Addr.add_zero'] at hx665_1)
       (try rw [show ((0 : Int)).toNat = 0 from rfl] at hx665_2)
       (try rw [show 0 * 3 = 0 from rfl] at hx665_2)
       (try rw [Addr.add_zero'] at hx665_2)
       replace p665 := eq_true p665
       replace q665 := eq_true q665
       go_wp2
       repeat (go_quiet (fail); try go_wp2)
       go_ret
       exact ⟨by first | rfl | (simp; done) | (simp [*]; done), by repeat (first | exact Drawn0.refl _ | apply Drawn0.step)⟩
     ·rw [if_neg c4] at H
      exact absurd H (by simp)
    ·rw [if_neg c3] at H
     exact absurd H (by simp)
   ·rw [if_neg c2] at H
    have c2b0 := decide_eq_false c2
    clear c2
    obtain rfl := Option.some.inj H
    go_wp2
    repeat (go_quiet (fail); try go_wp2)
    go_ret
    exact ⟨by first | rfl | (simp; done) | (simp [*]; done), by repeat (first | exact Drawn0.refl _ | apply Drawn0.step)⟩
end
section
def Bs_IsSmall.f (a0_0 : Int) (a0_1 : Int) : Option (Bool) := (Bs_Within.f a0_0 (-1000000000) 1000000000).bind fun t994 => (if t994 = true then ((Bs_Within.f a0_1 1 1000000000).bind fun t995 => (some t995)) else (some false))
theorem Bs_IsSmall.calls (a0_0 : Int) (a0_1 : Int) (r : Bool) (w : World) (h : Bs_IsSmall.f a0_0 a0_1 = some r) :
  Calls Try.prog 46 #[.agg #[.int .i64 a0_0, .int .i64 a0_1]] w fun e w' => e = .returned (.bool r) ∧ Below w.heap.size w w' := by
 have hu73 := Try.underlying73
 have HB := m0 (Below.refl w.heap.size w)
 have H : ((Bs_Within.f a0_0 (-1000000000) 1000000000).bind fun t994 => (if t994 = true then ((Bs_Within.f a0_1 1 1000000000).bind fun t995 => (some t995)) else (some false))) = some r := h
 clear h
 replace H := ob H
 obtain ⟨t994, A2, H⟩ := H
 (try dsimp only at H)
 replace A2 := m0 A2
 by_cases c3 : t994 = true
 ·subst c3
  rw [if_pos rfl] at H
  replace H := ob H
  obtain ⟨t995, A4, H⟩ := H
  (try dsimp only at H)
  replace A4 := m0 A4
  obtain rfl := Option.some.inj H
  go_enter Try.func46, Try.ntmps46
  go_wp2_with (first | ((with_reducible refine gate_dst (N := 1) rfl ?_); refine be 1 73 #[.int .i64 a0_0, .int .i64 a0_1] ?_; intro gb993 hg w5 hbox hb; have BK993 := m0 hbox; have GE993 := gw w hg; replace HB := sb HB hb; clear hb hbox hg; obtain ⟨_, _, _, _⟩ := b2 BK993) | ((with_reducible refine gate_callee (f := 24) rfl ?_); refine gl (some 5) Try.func24 #[.int .i64 a0_0, .int .i64 (-1000000000), .int .i64 1000000000] ?_; (with_reducible refine (Bs_Within.calls a0_0 (-1000000000) 1000000000 true _ A2.out).mono ?_); rintro e w' ⟨rfl, ⟨nd, rfl⟩⟩; refine ⟨_, rfl, ?_⟩) | (go_at_call 24; (with_reducible refine (Bs_Within.calls a0_1 1 1000000000 t995 _ A4.out).mono ?_); rintro e w' ⟨rfl, ⟨nd, rfl⟩⟩))
  go_ret
  exact ez
 ·replace c3 := Bool.eq_false_iff.mpr c3
  subst c3
  rw [if_neg (show ¬ (false = true) by decide)] at H
  obtain rfl := Option.some.inj H
  go_enter Try.func46, Try.ntmps46
  go_wp2_with (first | ((with_reducible refine gate_dst (N := 1) rfl ?_); refine be 1 73 #[.int .i64 a0_0, .int .i64 a0_1] ?_; intro gb993 hg w7 hbox hb; have BK993 := m0 hbox; have GE993 := gw w hg; replace HB := sb HB hb; clear hb hbox hg; obtain ⟨_, _, _, _⟩ := b2 BK993) | ((with_reducible refine gate_callee (f := 24) rfl ?_); refine gl (some 5) Try.func24 #[.int .i64 a0_0, .int .i64 (-1000000000), .int .i64 1000000000] ?_; (with_reducible refine (Bs_Within.calls a0_0 (-1000000000) 1000000000 false _ A2.out).mono ?_); rintro e w' ⟨rfl, ⟨nd, rfl⟩⟩; refine ⟨_, rfl, ?_⟩))
  go_ret
  exact ez
end
section
def Bs_Floor.f (a0 : Int) (a1 : Int) : Option (Int) := if a1 = 0 then (none) else (if (Int.tmod a0 a1) < 0 then (some (wrap64 ((wrap64 (Int.tdiv a0 a1)) - 1))) else (some (wrap64 (Int.tdiv a0 a1))))
theorem Bs_Floor.calls (a0 : Int) (a1 : Int) (r : Int) (w : World) (h : Bs_Floor.f a0 a1 = some r) :
  Calls Try.prog 92 #[.int .i64 a0, .int .i64 a1] w fun e w' => e = .returned (.int .i64 r) ∧ Drawn0 w w' := by
 have H : (if a1 = 0 then (none) else (if (Int.tmod a0 a1) < 0 then (some (wrap64 ((wrap64 (Int.tdiv a0 a1)) - 1))) else (some (wrap64 (Int.tdiv a0 a1))))) = some r := h
 clear h
 by_cases c3 : a1 = 0
 ·rw [if_pos c3] at H
  exact absurd H (by simp)
 ·rw [if_neg c3] at H
  have c3b0 := beq_eq_false_iff_ne.mpr c3
  have c3b1 := bne_iff_ne.mpr c3
  by_cases c4 : (Int.tmod a0 a1) < 0
  ·rw [if_pos c4] at H
   have c4b0 := decide_eq_true c4
   clear c4
   obtain rfl := Option.some.inj H
   go_enter Try.func92, Try.ntmps92
   go_wp2
   go_ret
   exact ⟨by first | rfl | (simp; done) | (simp [*]; done), by repeat (first | exact Drawn0.refl _ | apply Drawn0.step)⟩
  ·rw [if_neg c4] at H
   have c4b0 := decide_eq_false c4
   clear c4
   obtain rfl := Option.some.inj H
   go_enter Try.func92, Try.ntmps92
   go_wp2
   go_ret
   exact ⟨by first | rfl | (simp; done) | (simp [*]; done), by repeat (first | exact Drawn0.refl _ | apply Drawn0.step)⟩
end
section
mutual
def Bs_Compare.l0 : Nat → Int → Int → Int → Int → Option (Int)
  | 0, _, _, _, _ => none
  | k + 1, x0, x1, x2, x3 => (Bs_Floor.f x0 x1).bind fun t1089 => ((Bs_Floor.f x2 x3).bind fun t1090 => (if t1089 < t1090 then (some (-1)) else (if t1089 > t1090 then (some 1) else (if (wrap64 (x0 - (wrap64 (t1089 * x1)))) = 0 then (Bs_Compare.j1 k (wrap64 (x0 - (wrap64 (t1089 * x1)))) x1 (wrap64 (x2 - (wrap64 (t1090 * x3)))) x3 ((wrap64 (x2 - (wrap64 (t1090 * x3)))) == 0)) else (Bs_Compare.j1 k (wrap64 (x0 - (wrap64 (t1089 * x1)))) x1 (wrap64 (x2 - (wrap64 (t1090 * x3)))) x3 false)))))
def Bs_Compare.j1 : Nat → Int → Int → Int → Int → Bool → Option (Int)
  | 0, _, _, _, _, _ => none
  | k + 1, x0, x1, x2, x3, x38 => if x38 = true then (some 0) else (if x0 = 0 then (some (-1)) else (if x2 = 0 then (some 1) else (Bs_Compare.l0 k x3 x2 x1 x0)))
end
def Bs_Compare.f (k : Nat) (a0 : Int) (a1 : Int) (a2 : Int) (a3 : Int) : Option (Int) := Bs_Compare.l0 k a0 a1 a2 a3
theorem Bs_Compare.mono_l : ∀ k, (∀ y0 y1 y2 y3, LeO (Bs_Compare.l0 k y0 y1 y2 y3) (Bs_Compare.l0 (k + 1) y0 y1 y2 y3)) ∧ (∀ y0 y1 y2 y3 y4, LeO (Bs_Compare.j1 k y0 y1 y2 y3 y4) (Bs_Compare.j1 (k + 1) y0 y1 y2 y3 y4))
  | 0 => ⟨fun _ _ _ _ r h => by simp [Bs_Compare.l0] at h, fun _ _ _ _ _ r h => by simp [Bs_Compare.j1] at h⟩
  | k + 1 => by
    obtain ⟨ih0, ih1⟩ := Bs_Compare.mono_l k
    refine ⟨?_, ?_⟩
    · intro y0 y1 y2 y3
      unfold Bs_Compare.l0
      repeat' with_reducible first
        | exact ih0 ..
        | exact ih1 ..
        | exact LeO.refl ..
        | exact LeO.none ..
        | refine LeO.ite ?_ ?_
        | refine LeO.bind ?_ (fun _ => ?_)
    · intro y0 y1 y2 y3 y4
      unfold Bs_Compare.j1
      repeat' with_reducible first
        | exact ih0 ..
        | exact ih1 ..
        | exact LeO.refl ..
        | exact LeO.none ..
        | refine LeO.ite ?_ ?_
        | refine LeO.bind ?_ (fun _ => ?_)
theorem Bs_Compare.mono : ∀ a0 a1 a2 a3 k, LeO (Bs_Compare.f k a0 a1 a2 a3) (Bs_Compare.f (k + 1) a0 a1 a2 a3) := by
  intro a0 a1 a2 a3 k
  obtain ⟨ih0, ih1⟩ := Bs_Compare.mono_l k
  unfold Bs_Compare.f
  repeat' with_reducible first
    | exact ih0 ..
    | exact ih1 ..
    | exact LeO.refl ..
    | exact LeO.none ..
    | refine LeO.ite ?_ ?_
    | refine LeO.bind ?_ (fun _ => ?_)
theorem Bs_Compare.calls (k : Nat) (a0 : Int) (a1 : Int) (a2 : Int) (a3 : Int) (r : Int) (w : World) (h : Bs_Compare.f k a0 a1 a2 a3 = some r) :
    Calls Try.prog 47 #[.int .i64 a0, .int .i64 a1, .int .i64 a2, .int .i64 a3] w fun e w' => e = .returned (.int .i64 r) ∧ Drawn0 w w' := by
  have H : (Bs_Compare.l0 k a0 a1 a2 a3) = some r := h
  clear h
  have H' := m0 H
  clear H
  go_enter Try.func47, Try.ntmps47
  go_wp2
  go_loopg [0, 1, 2, 3] k (fun kq v0 v1 v2 v3 w' => ∃ (x0_1 : Int) (x1_1 : Int) (x2_1 : Int) (x3_1 : Int), v0 = .int .i64 x0_1 ∧ v1 = .int .i64 x1_1 ∧ v2 = .int .i64 x2_1 ∧ v3 = .int .i64 x3_1 ∧ Aside0 (Bs_Compare.l0 kq x0_1 x1_1 x2_1 x3_1 = some r) ∧ Aside0 (kq ≤ k) ∧ Drawn0 w w')
  case atStart => exact ⟨(a0), (a1), (a2), (a3), (by first | rfl | (simp; done) | (simp [*]; done)), (by first | rfl | (simp; done) | (simp [*]; done)), (by first | rfl | (simp; done) | (simp [*]; done)), (by first | rfl | (simp; done) | (simp [*]; done)), H', ⟨Nat.le_refl _⟩, by repeat (first | exact Drawn0.refl _ | apply Drawn0.step)⟩
  case round =>
    clear H'
    obtain ⟨x0_1, x1_1, x2_1, x3_1, rfl, rfl, rfl, rfl, HA, HK1, ⟨m1, rfl⟩⟩ := hrel
    cases gk with
    | zero => exact absurd HA.out (by simp [Bs_Compare.l0])
    | succ k1 =>
      have H := HA.out
      clear HA
      simp only [Bs_Compare.l0] at H
      replace H := ob H
      obtain ⟨t1089, A5, H⟩ := H
      (try dsimp only at H)
      replace A5 := m0 A5
      replace H := ob H
      obtain ⟨t1090, A6, H⟩ := H
      (try dsimp only at H)
      replace A6 := m0 A6
      by_cases c7 : t1089 < t1090
      · rw [if_pos c7] at H
        have c7b0 := decide_eq_true c7
        clear c7
        obtain rfl := Option.some.inj H
        go_wp2_with (first | ((with_reducible refine gate_callee (f := 92) rfl ?_); refine gl (some 13) Try.func92 #[.int .i64 x0_1, .int .i64 x1_1] ?_; (with_reducible refine (Bs_Floor.calls x0_1 x1_1 t1089 _ A5.out).mono ?_); rintro e w' ⟨rfl, ⟨nd, rfl⟩⟩; refine ⟨_, rfl, ?_⟩) | ((with_reducible refine gate_callee (f := 92) rfl ?_); refine gl (some 16) Try.func92 #[.int .i64 x2_1, .int .i64 x3_1] ?_; (with_reducible refine (Bs_Floor.calls x2_1 x3_1 t1090 _ A6.out).mono ?_); rintro e w' ⟨rfl, ⟨nd, rfl⟩⟩; refine ⟨_, rfl, ?_⟩))
        go_ret
        exact ⟨by first | rfl | (simp; done) | (simp [*]; done), by repeat (first | exact Drawn0.refl _ | apply Drawn0.step)⟩
      · rw [if_neg c7] at H
        have c7b0 := decide_eq_false c7
        clear c7
        by_cases c8 : t1089 > t1090
        · rw [if_pos c8] at H
          have c8b0 := decide_eq_true c8
          clear c8
          obtain rfl := Option.some.inj H
          go_wp2_with (first | ((with_reducible refine gate_callee (f := 92) rfl ?_); refine gl (some 13) Try.func92 #[.int .i64 x0_1, .int .i64 x1_1] ?_; (with_reducible refine (Bs_Floor.calls x0_1 x1_1 t1089 _ A5.out).mono ?_); rintro e w' ⟨rfl, ⟨nd, rfl⟩⟩; refine ⟨_, rfl, ?_⟩) | ((with_reducible refine gate_callee (f := 92) rfl ?_); refine gl (some 16) Try.func92 #[.int .i64 x2_1, .int .i64 x3_1] ?_; (with_reducible refine (Bs_Floor.calls x2_1 x3_1 t1090 _ A6.out).mono ?_); rintro e w' ⟨rfl, ⟨nd, rfl⟩⟩; refine ⟨_, rfl, ?_⟩))
          go_ret
          exact ⟨by first | rfl | (simp; done) | (simp [*]; done), by repeat (first | exact Drawn0.refl _ | apply Drawn0.step)⟩
        · rw [if_neg c8] at H
          have c8b0 := decide_eq_false c8
          clear c8
          have HC9 := m0 H
          clear H
          go_upto_region 7 with (first | ((with_reducible refine gate_callee (f := 92) rfl ?_); refine gl (some 13) Try.func92 #[.int .i64 x0_1, .int .i64 x1_1] ?_; (with_reducible refine (Bs_Floor.calls x0_1 x1_1 t1089 _ A5.out).mono ?_); rintro e w' ⟨rfl, ⟨nd, rfl⟩⟩; refine ⟨_, rfl, ?_⟩) | ((with_reducible refine gate_callee (f := 92) rfl ?_); refine gl (some 16) Try.func92 #[.int .i64 x2_1, .int .i64 x3_1] ?_; (with_reducible refine (Bs_Floor.calls x2_1 x3_1 t1090 _ A6.out).mono ?_); rintro e w' ⟨rfl, ⟨nd, rfl⟩⟩; refine ⟨_, rfl, ?_⟩))
          (try simp only [Act.put, List.setIfInBounds_toArray, List.set_cons_zero, List.set_cons_succ])
          go_cut [38] (fun v38 wc => ∃ (kq : Nat) (x38_8 : Bool), v38 = .bool x38_8 ∧ Aside0 (Bs_Compare.j1 kq (wrap64 (x0_1 - (wrap64 (t1089 * x1_1)))) x1_1 (wrap64 (x2_1 - (wrap64 (t1090 * x3_1)))) x3_1 x38_8 = some r) ∧ Aside0 (kq ≤ k1) ∧ Drawn0 w wc)
          case first =>
            have H := HC9.out
            clear HC9
            by_cases c10 : (wrap64 (x0_1 - (wrap64 (t1089 * x1_1)))) = 0
            · rw [if_pos c10] at H
              have c10b0 := beq_iff_eq.mpr c10
              have c10b1 := bne_eq_false_iff_eq.mpr c10
              clear c10
              (first | rw [c10b0] | (simp only [i64_w, i32_w]; rw [c10b0]) | skip)
              have H' := m0 H
              clear H
              go_wp2
              go_meet
              case rel => exact ⟨_, (((wrap64 (x2_1 - (wrap64 (t1090 * x3_1)))) == 0)), (by first | rfl | (simp; done) | (simp [*]; done)), H', ⟨by have := HK1.out; first | omega | exact Nat.le_refl _⟩, by repeat (first | exact Drawn0.refl _ | apply Drawn0.step)⟩
            · rw [if_neg c10] at H
              have c10b0 := beq_eq_false_iff_ne.mpr c10
              have c10b1 := bne_iff_ne.mpr c10
              (first | rw [c10b0] | (simp only [i64_w, i32_w]; rw [c10b0]) | skip)
              have H' := m0 H
              clear H
              go_wp2
              go_meet
              case rel => exact ⟨_, (false), (by first | rfl | (simp; done) | (simp [*]; done)), H', ⟨by have := HK1.out; first | omega | exact Nat.le_refl _⟩, by repeat (first | exact Drawn0.refl _ | apply Drawn0.step)⟩
          case rest =>
            clear HC9
            obtain ⟨kq, x38_8, rfl, HA, HJ8, ⟨mc8, rfl⟩⟩ := hcut
            cases kq with
            | zero => exact absurd HA.out (by simp [Bs_Compare.j1])
            | succ kj8 =>
              have H := HA.out
              clear HA
              simp only [Bs_Compare.j1] at H
              by_cases c11 : x38_8 = true
              · subst c11
                rw [if_pos rfl] at H
                obtain rfl := Option.some.inj H
                go_wp2
                go_ret
                exact ⟨by first | rfl | (simp; done) | (simp [*]; done), by repeat (first | exact Drawn0.refl _ | apply Drawn0.step)⟩
              · replace c11 := Bool.eq_false_iff.mpr c11
                subst c11
                rw [if_neg (show ¬ (false = true) by decide)] at H
                by_cases c12 : (wrap64 (x0_1 - (wrap64 (t1089 * x1_1)))) = 0
                · rw [if_pos c12] at H
                  have c12b0 := beq_iff_eq.mpr c12
                  have c12b1 := bne_eq_false_iff_eq.mpr c12
                  clear c12
                  obtain rfl := Option.some.inj H
                  go_wp2
                  go_ret
                  exact ⟨by first | rfl | (simp; done) | (simp [*]; done), by repeat (first | exact Drawn0.refl _ | apply Drawn0.step)⟩
                · rw [if_neg c12] at H
                  have c12b0 := beq_eq_false_iff_ne.mpr c12
                  have c12b1 := bne_iff_ne.mpr c12
                  by_cases c13 : (wrap64 (x2_1 - (wrap64 (t1090 * x3_1)))) = 0
                  · rw [if_pos c13] at H
                    have c13b0 := beq_iff_eq.mpr c13
                    have c13b1 := bne_eq_false_iff_eq.mpr c13
                    clear c13
                    obtain rfl := Option.some.inj H
                    go_wp2
                    go_ret
                    exact ⟨by first | rfl | (simp; done) | (simp [*]; done), by repeat (first | exact Drawn0.refl _ | apply Drawn0.step)⟩
                  · rw [if_neg c13] at H
                    have c13b0 := beq_eq_false_iff_ne.mpr c13
                    have c13b1 := bne_iff_ne.mpr c13
                    have H' := m0 H
                    clear H
                    go_wp2
                    go_roundg kj8
                    case measure => have := HK1.out; have := HJ8.out; omega
                    case rel => exact ⟨(x3_1), ((wrap64 (x2_1 - (wrap64 (t1090 * x3_1))))), (x1_1), ((wrap64 (x0_1 - (wrap64 (t1089 * x1_1))))), (by first | rfl | (simp; done) | (simp [*]; done)), (by first | rfl | (simp; done) | (simp [*]; done)), (by first | rfl | (simp; done) | (simp [*]; done)), (by first | rfl | (simp; done) | (simp [*]; done)), H', ⟨by have := HK1.out; have := HJ8.out; omega⟩, by repeat (first | exact Drawn0.refl _ | apply Drawn0.step)⟩
end
end Go.Proofs.Ytibhfahbabgbaaa.A
