/- Walks of the program's functions (printed, made shorter), each with what it computes. -/
import Derived.Test.YtjnkphmcndaijaaDoorSpd04
import Derived.Test.YtjnkphmcndaijaaDoorSpd14
import Derived.Test.YtjnkphmcndaijaaDoorSpd18
import Derived.Test.YtjnkphmcndaijaaDoorSpd03
import Derived.Test.YtjnkphmcndaijaaDoorSpd13
namespace Go.Proofs.YtjnkphmcndaijaaDoor.A
set_option maxHeartbeats 8000000
set_option maxRecDepth 100000
open Go.RowKit Go.Proofs.YtjnkphmcndaijaaDoorW.PrintWords Go.Proofs.YtjnkphmcndaijaaDoorW.PrintLast Go.Proofs.YtjnkphmcndaijaaDoorW.PrintMore
attribute [local go_sem] max2_int min2_int max_two min_two max_three min_three max_four min_four
set_option linter.unusedVariables false
set_option linter.unusedSimpArgs false
section
def Bs_RatioOf.f (k : Nat) (a0 : Int) (a1 : Int) : Option (Int × List Int × Int × List Int) := (Bs_WideOf.f k a0).bind fun bt729 => ((Bs_WideOf.f k a1).bind fun bt733 => ((Bs_RatioMake.f k bt729.1 bt729.2 bt733.1 bt733.2).bind fun bt737 => (some (bt737.1, bt737.2.1, bt737.2.2.1, bt737.2.2.2))))
theorem Bs_RatioOf.mono : ∀ a0 a1 k, LeO (Bs_RatioOf.f k a0 a1) (Bs_RatioOf.f (k + 1) a0 a1) := by
 intro a0 a1 k
 unfold Bs_RatioOf.f
 repeat' with_reducible first
  | exact Bs_RatioMake.mono ..
  | exact Bs_WideOf.mono ..
  | exact LeO.refl ..
  | exact LeO.none ..
  | refine LeO.ite ?_ ?_
  | refine LeO.bind ?_ (fun _ => ?_)
theorem Bs_RatioOf.calls (k : Nat) (a0 : Int) (a1 : Int) (r1 : Int) (r2 : List Int) (r3 : Int) (r4 : List Int) (w : World) (h : Bs_RatioOf.f k a0 a1 = some (r1, r2, r3, r4)) :
  Calls Tryd.prog 118 #[.int .i64 a0, .int .i64 a1] w fun e w' => ∃ v1_ v3_ : Value, e = .returned (.agg #[.int .i64 r1, v1_, .int .i64 r3, v3_]) ∧ Kd.V (Kd.int .i64) 3 w' w.heap.size (fun k_ => (w.heap.size ≤ k_)) v1_ r2 ∧ Kd.V (Kd.int .i64) 3 w' w.heap.size (fun k_ => (w.heap.size ≤ k_)) v3_ r4 ∧ Below w.heap.size w w' := by
 have hu137 := Tryd.underlying137
 have HB := m0 (Below.refl w.heap.size w)
 have H : ((Bs_WideOf.f k a0).bind fun bt729 => ((Bs_WideOf.f k a1).bind fun bt733 => ((Bs_RatioMake.f k bt729.1 bt729.2 bt733.1 bt733.2).bind fun bt737 => (some (bt737.1, bt737.2.1, bt737.2.2.1, bt737.2.2.2))))) = some (r1, r2, r3, r4) := h
 clear h
 replace H := ob H
 obtain ⟨⟨t729, t730⟩, A3, H⟩ := H
 (try dsimp only at H)
 replace A3 := m0 A3
 replace H := ob H
 obtain ⟨⟨t733, t734⟩, A4, H⟩ := H
 (try dsimp only at H)
 replace A4 := m0 A4
 replace H := ob H
 obtain ⟨⟨t737, t738, t741, t742⟩, A5, H⟩ := H
 (try dsimp only at H)
 replace A5 := m0 A5
 simp only [Option.some.injEq, Prod.mk.injEq] at H
 obtain ⟨rfl, rfl, rfl, rfl⟩ := H
 go_enter Tryd.func118, Tryd.ntmps118
 go_wp2_with (first | ((with_reducible refine gate_dst (N := 4) rfl ?_); refine be 4 137 #[.int .i64 0, .slice none 0 0, .int .i64 0, .slice none 0 0] ?_; intro gb728 hg w6 hbox hb; have BK728 := m0 hbox; have GE728 := gw w hg; replace HB := sb HB hb; clear hb hbox hg) | ((with_reducible refine gate_callee (f := 139) rfl ?_); refine gl (some 6) Tryd.func139 #[.int .i64 a0] ?_; (with_reducible refine (Bs_WideOf.calls k a0 t729 t730 _ A3.out).mono ?_); rintro e w7 ⟨v731, rfl, ho0, hb⟩; refine ⟨_, rfl, ?_⟩; have HO732 := m0 (Kd.V_lower (Kd.V_mono (ok' := fun k_ => (w.heap.size ≤ k_) ∧ k_ ≠ gb728) ho0 (fun k_ hk_ => ⟨(Nat.le_trans (below_size bz) hk_), (Kd.freshB (g := gb728) (o := .cells #[.int .i64 0, .slice none 0 0, .int .i64 0, .slice none 0 0] 137 (0, 0)) (bk BK728.out) k_ hk_)⟩)) (below_size bz)); replace BK728 := bb BK728 hb; replace HB := sb HB hb; (try clear hb); (try clear ho0)) | ((with_reducible refine gate_callee (f := 139) rfl ?_); refine gl (some 8) Tryd.func139 #[.int .i64 a1] ?_; (with_reducible refine (Bs_WideOf.calls k a1 t733 t734 _ A4.out).mono ?_); rintro e w8 ⟨v735, rfl, ho0, hb⟩; refine ⟨_, rfl, ?_⟩; replace HO732 := vb HO732 hb; have HO736 := m0 (Kd.V_lower (Kd.V_mono (ok' := fun k_ => (w.heap.size ≤ k_) ∧ k_ ≠ gb728) ho0 (fun k_ hk_ => ⟨(Nat.le_trans (below_size bz) hk_), (Kd.freshB (g := gb728) (o := .cells #[.int .i64 0, .slice none 0 0, .int .i64 0, .slice none 0 0] 137 (0, 0)) (bk BK728.out) k_ hk_)⟩)) (below_size bz)); replace BK728 := bb BK728 hb; replace HB := sb HB hb; (try clear hb); (try clear ho0); obtain ⟨Ao9, co9, eo9⟩ := Kd.V_slice HO732.out; subst eo9; obtain ⟨Ao10, co10, eo10⟩ := Kd.V_slice HO736.out; subst eo10) | ((with_reducible refine gate_callee (f := 136) rfl ?_); refine gl (some 9) Tryd.func136 #[.agg #[.int .i64 t729, .slice Ao9 t730.length co9], .agg #[.int .i64 t733, .slice Ao10 t734.length co10]] ?_; (with_reducible refine (Bs_RatioMake.calls k t729 (fun k_ => ((w.heap.size ≤ k_) ∧ k_ ≠ gb728)) _ _ t730 t733 (fun k_ => ((w.heap.size ≤ k_) ∧ k_ ≠ gb728)) _ _ t734 t737 t738 t741 t742 _ ?side1 ?side2 A5.out).mono ?_); (case side1 => exact HO732.out); (case side2 => exact HO736.out); rintro e w11 ⟨v739, v743, rfl, ho0, ho1, hb⟩; refine ⟨_, rfl, ?_⟩; replace HO732 := vb HO732 hb; replace HO736 := vb HO736 hb; have HO740 := m0 (Kd.V_lower (Kd.V_mono (ok' := fun k_ => (w.heap.size ≤ k_) ∧ k_ ≠ gb728) ho0 (fun k_ hk_ => ⟨Or.elim hk_ (fun hs_ => Or.elim hs_ (fun hs_ => hs_.1) (fun hs_ => hs_.1)) (fun hn_ => (Nat.le_trans (below_size bz) hn_)), Or.elim hk_ (fun hs_ => Or.elim hs_ (fun hs_ => hs_.2) (fun hs_ => hs_.2)) (fun hn_ => (Kd.freshB (g := gb728) (o := .cells #[.int .i64 0, .slice none 0 0, .int .i64 0, .slice none 0 0] 137 (0, 0)) (bk BK728.out) k_ hn_))⟩)) (below_size bz)); have HO744 := m0 (Kd.V_lower (Kd.V_mono (ok' := fun k_ => (w.heap.size ≤ k_) ∧ k_ ≠ gb728) ho1 (fun k_ hk_ => ⟨Or.elim hk_ (fun hs_ => Or.elim hs_ (fun hs_ => hs_.1) (fun hs_ => hs_.1)) (fun hn_ => (Nat.le_trans (below_size bz) hn_)), Or.elim hk_ (fun hs_ => Or.elim hs_ (fun hs_ => hs_.2) (fun hs_ => hs_.2)) (fun hn_ => (Kd.freshB (g := gb728) (o := .cells #[.int .i64 0, .slice none 0 0, .int .i64 0, .slice none 0 0] 137 (0, 0)) (bk BK728.out) k_ hn_))⟩)) (below_size bz)); replace BK728 := bb BK728 hb; replace HB := sb HB hb; (try clear hb); (try clear ho0); (try clear ho1); obtain ⟨_, _, _, _, _, _, _, _⟩ := b4 BK728; obtain ⟨Ao13, co13, eo13⟩ := Kd.V_slice HO740.out; subst eo13; obtain ⟨Ao14, co14, eo14⟩ := Kd.V_slice HO744.out; subst eo14))
 refine bodyPost_ret (results_cell_row rfl _ _ gb728 137 #[.int .i64 t737, .slice Ao13 t738.length co13, .int .i64 t741, .slice Ao14 t742.length co14] (0, 0) _ rfl (bq BK728.out) Tryd.underlying137 rfl (by kernel_rfl)) rfl ?_
 exact ⟨_, _, by first | rfl | (simp [errW_none, errW_some] <;> rfl) | (simp [*, errW_none, errW_some] <;> rfl), by (with_reducible repeat (first | apply Kd.V_alloc | apply Kd.V_drewN | apply Kd.V_drew)); exact Kd.V_mono (Kd.V_far (p := ⟨gb728, 3, none⟩) (Kd.V_far (p := ⟨gb728, 2, none⟩) (Kd.V_far (p := ⟨gb728, 1, none⟩) (Kd.V_far (p := ⟨gb728, 0, none⟩) (Kd.V_mono HO740.out (fun k_ hk => (⟨hk, hk.2⟩ : _ ∧ k_ ≠ gb728))) (fun _ hk => hk.2) (.int .i64 t737)) (fun _ hk => hk.2) (.slice Ao13 t738.length co13)) (fun _ hk => hk.2) (.int .i64 t741)) (fun _ hk => hk.2) (.slice Ao14 t742.length co14)) (fun _ hk => hk.1.1), by (with_reducible repeat (first | apply Kd.V_alloc | apply Kd.V_drewN | apply Kd.V_drew)); exact Kd.V_mono (Kd.V_far (p := ⟨gb728, 3, none⟩) (Kd.V_far (p := ⟨gb728, 2, none⟩) (Kd.V_far (p := ⟨gb728, 1, none⟩) (Kd.V_far (p := ⟨gb728, 0, none⟩) (Kd.V_mono HO744.out (fun k_ hk => (⟨hk, hk.2⟩ : _ ∧ k_ ≠ gb728))) (fun _ hk => hk.2) (.int .i64 t737)) (fun _ hk => hk.2) (.slice Ao13 t738.length co13)) (fun _ hk => hk.2) (.int .i64 t741)) (fun _ hk => hk.2) (.slice Ao14 t742.length co14)) (fun _ hk => hk.1.1), by repeat (first | (with_reducible first | exact HB.out | apply below_alloc | apply pw_below_drewN | apply below_drew1 | refine below_set ?_ GE728.out) | exact HB.out)⟩
end
section
def Bs_RatioFrom.f (k : Nat) (a0_0 : Int) (a0_1 : Int) : Option (Int × List Int × Int × List Int) := (Bs_RatioOf.f k a0_0 a0_1).bind fun bt747 => (some (bt747.1, bt747.2.1, bt747.2.2.1, bt747.2.2.2))
theorem Bs_RatioFrom.mono : ∀ a0 a1 k, LeO (Bs_RatioFrom.f k a0 a1) (Bs_RatioFrom.f (k + 1) a0 a1) := by
 intro a0 a1 k
 unfold Bs_RatioFrom.f
 repeat' with_reducible first
  | exact Bs_RatioOf.mono ..
  | exact LeO.refl ..
  | exact LeO.none ..
  | refine LeO.ite ?_ ?_
  | refine LeO.bind ?_ (fun _ => ?_)
theorem Bs_RatioFrom.calls (k : Nat) (a0_0 : Int) (a0_1 : Int) (r1 : Int) (r2 : List Int) (r3 : Int) (r4 : List Int) (w : World) (h : Bs_RatioFrom.f k a0_0 a0_1 = some (r1, r2, r3, r4)) :
  Calls Tryd.prog 116 #[.agg #[.int .i64 a0_0, .int .i64 a0_1]] w fun e w' => ∃ v1_ v3_ : Value, e = .returned (.agg #[.int .i64 r1, v1_, .int .i64 r3, v3_]) ∧ Kd.V (Kd.int .i64) 3 w' w.heap.size (fun k_ => (w.heap.size ≤ k_)) v1_ r2 ∧ Kd.V (Kd.int .i64) 3 w' w.heap.size (fun k_ => (w.heap.size ≤ k_)) v3_ r4 ∧ Below w.heap.size w w' := by
 have hu26 := Tryd.underlying26
 have hu137 := Tryd.underlying137
 have HB := m0 (Below.refl w.heap.size w)
 have H : ((Bs_RatioOf.f k a0_0 a0_1).bind fun bt747 => (some (bt747.1, bt747.2.1, bt747.2.2.1, bt747.2.2.2))) = some (r1, r2, r3, r4) := h
 clear h
 replace H := ob H
 obtain ⟨⟨t747, t748, t751, t752⟩, A2, H⟩ := H
 (try dsimp only at H)
 replace A2 := m0 A2
 simp only [Option.some.injEq, Prod.mk.injEq] at H
 obtain ⟨rfl, rfl, rfl, rfl⟩ := H
 go_enter Tryd.func116, Tryd.ntmps116
 go_wp2_with (first | ((with_reducible refine gate_dst (N := 1) rfl ?_); refine be 1 26 #[.int .i64 a0_0, .int .i64 a0_1] ?_; intro gb745 hg w3 hbox hb; have BK745 := m0 hbox; have GE745 := gw w hg; replace HB := sb HB hb; clear hb hbox hg) | ((with_reducible refine gate_dst (N := 2) rfl ?_); refine be 2 137 #[.int .i64 0, .slice none 0 0, .int .i64 0, .slice none 0 0] ?_; intro gb746 hg w4 hbox hb; have BK746 := m0 hbox; have GE746 := gw w hg; replace HB := sb HB hb; have NB745_746 := nl BK745 hg; have NB746_745 := ng (nl BK745 hg); replace BK745 := bb BK745 hb; clear hb hbox hg; have hnb5 := NB745_746.out; have hnc5 := NB746_745.out; obtain ⟨_, _, _, _⟩ := b2 BK745) | ((with_reducible refine gate_callee (f := 118) rfl ?_); refine gl (some 7) Tryd.func118 #[.int .i64 a0_0, .int .i64 a0_1] ?_; (with_reducible refine (Bs_RatioOf.calls k a0_0 a0_1 t747 t748 t751 t752 _ A2.out).mono ?_); rintro e w7 ⟨v749, v753, rfl, ho0, ho1, hb⟩; refine ⟨_, rfl, ?_⟩; have HO750 := m0 (Kd.V_lower (Kd.V_mono (ok' := fun k_ => (w.heap.size ≤ k_) ∧ k_ ≠ gb745 ∧ k_ ≠ gb746) ho0 (fun k_ hk_ => ⟨(Nat.le_trans (below_size bz) hk_), (Kd.freshB (g := gb745) (o := .cells #[.int .i64 a0_0, .int .i64 a0_1] 26 (0, 0)) (bk BK745.out) k_ hk_), (Kd.freshB (g := gb746) (o := .cells #[.int .i64 0, .slice none 0 0, .int .i64 0, .slice none 0 0] 137 (0, 0)) (bk BK746.out) k_ hk_)⟩)) (below_size bz)); have HO754 := m0 (Kd.V_lower (Kd.V_mono (ok' := fun k_ => (w.heap.size ≤ k_) ∧ k_ ≠ gb745 ∧ k_ ≠ gb746) ho1 (fun k_ hk_ => ⟨(Nat.le_trans (below_size bz) hk_), (Kd.freshB (g := gb745) (o := .cells #[.int .i64 a0_0, .int .i64 a0_1] 26 (0, 0)) (bk BK745.out) k_ hk_), (Kd.freshB (g := gb746) (o := .cells #[.int .i64 0, .slice none 0 0, .int .i64 0, .slice none 0 0] 137 (0, 0)) (bk BK746.out) k_ hk_)⟩)) (below_size bz)); replace BK745 := bb BK745 hb; replace BK746 := bb BK746 hb; replace HB := sb HB hb; (try clear hb); (try clear ho0); (try clear ho1); obtain ⟨_, _, _, _, _, _, _, _⟩ := b4 BK746; obtain ⟨Ao9, co9, eo9⟩ := Kd.V_slice HO750.out; subst eo9; obtain ⟨Ao10, co10, eo10⟩ := Kd.V_slice HO754.out; subst eo10))
 refine bodyPost_ret (results_cell_row rfl _ _ gb746 137 #[.int .i64 t747, .slice Ao9 t748.length co9, .int .i64 t751, .slice Ao10 t752.length co10] (0, 0) _ rfl (bq BK746.out) Tryd.underlying137 rfl (by kernel_rfl)) rfl ?_
 exact ⟨_, _, by first | rfl | (simp [errW_none, errW_some] <;> rfl) | (simp [*, errW_none, errW_some] <;> rfl), by (with_reducible repeat (first | apply Kd.V_alloc | apply Kd.V_drewN | apply Kd.V_drew)); exact Kd.V_mono (Kd.V_far (p := ⟨gb746, 3, none⟩) (Kd.V_far (p := ⟨gb746, 2, none⟩) (Kd.V_far (p := ⟨gb746, 1, none⟩) (Kd.V_far (p := ⟨gb746, 0, none⟩) (Kd.V_mono HO750.out (fun k_ hk => (⟨hk, hk.2.2⟩ : _ ∧ k_ ≠ gb746))) (fun _ hk => hk.2) (.int .i64 t747)) (fun _ hk => hk.2) (.slice Ao9 t748.length co9)) (fun _ hk => hk.2) (.int .i64 t751)) (fun _ hk => hk.2) (.slice Ao10 t752.length co10)) (fun _ hk => hk.1.1), by (with_reducible repeat (first | apply Kd.V_alloc | apply Kd.V_drewN | apply Kd.V_drew)); exact Kd.V_mono (Kd.V_far (p := ⟨gb746, 3, none⟩) (Kd.V_far (p := ⟨gb746, 2, none⟩) (Kd.V_far (p := ⟨gb746, 1, none⟩) (Kd.V_far (p := ⟨gb746, 0, none⟩) (Kd.V_mono HO754.out (fun k_ hk => (⟨hk, hk.2.2⟩ : _ ∧ k_ ≠ gb746))) (fun _ hk => hk.2) (.int .i64 t747)) (fun _ hk => hk.2) (.slice Ao9 t748.length co9)) (fun _ hk => hk.2) (.int .i64 t751)) (fun _ hk => hk.2) (.slice Ao10 t752.length co10)) (fun _ hk => hk.1.1), by repeat (first | (with_reducible first | exact HB.out | apply below_alloc | apply pw_below_drewN | apply below_drew1 | refine below_set ?_ GE745.out | refine below_set ?_ GE746.out) | exact HB.out)⟩
end
section
def Bs_RatioInt.f (k : Nat) (a0 : Int) : Option (Int × List Int × Int × List Int) := (Bs_WideOf.f k a0).bind fun bt756 => ((Bs_WideOf.f k 1).bind fun bt760 => (some (bt756.1, bt756.2, bt760.1, bt760.2)))
theorem Bs_RatioInt.mono : ∀ a0 k, LeO (Bs_RatioInt.f k a0) (Bs_RatioInt.f (k + 1) a0) := by
 intro a0 k
 unfold Bs_RatioInt.f
 repeat' with_reducible first
  | exact Bs_WideOf.mono ..
  | exact LeO.refl ..
  | exact LeO.none ..
  | refine LeO.ite ?_ ?_
  | refine LeO.bind ?_ (fun _ => ?_)
theorem Bs_RatioInt.calls (k : Nat) (a0 : Int) (r1 : Int) (r2 : List Int) (r3 : Int) (r4 : List Int) (w : World) (h : Bs_RatioInt.f k a0 = some (r1, r2, r3, r4)) :
  Calls Tryd.prog 117 #[.int .i64 a0] w fun e w' => ∃ v1_ v3_ : Value, e = .returned (.agg #[.int .i64 r1, v1_, .int .i64 r3, v3_]) ∧ Kd.V (Kd.int .i64) 3 w' w.heap.size (fun k_ => (w.heap.size ≤ k_)) v1_ r2 ∧ Kd.V (Kd.int .i64) 3 w' w.heap.size (fun k_ => (w.heap.size ≤ k_)) v3_ r4 ∧ Below w.heap.size w w' := by
 have hu137 := Tryd.underlying137
 have HB := m0 (Below.refl w.heap.size w)
 have H : ((Bs_WideOf.f k a0).bind fun bt756 => ((Bs_WideOf.f k 1).bind fun bt760 => (some (bt756.1, bt756.2, bt760.1, bt760.2)))) = some (r1, r2, r3, r4) := h
 clear h
 replace H := ob H
 obtain ⟨⟨t756, t757⟩, A2, H⟩ := H
 (try dsimp only at H)
 replace A2 := m0 A2
 replace H := ob H
 obtain ⟨⟨t760, t761⟩, A3, H⟩ := H
 (try dsimp only at H)
 replace A3 := m0 A3
 simp only [Option.some.injEq, Prod.mk.injEq] at H
 obtain ⟨rfl, rfl, rfl, rfl⟩ := H
 go_enter Tryd.func117, Tryd.ntmps117
 go_wp2_with (first | ((with_reducible refine gate_dst (N := 2) rfl ?_); refine be 2 137 #[.int .i64 0, .slice none 0 0, .int .i64 0, .slice none 0 0] ?_; intro gb755 hg w4 hbox hb; have BK755 := m0 hbox; have GE755 := gw w hg; replace HB := sb HB hb; clear hb hbox hg) | ((with_reducible refine gate_callee (f := 139) rfl ?_); refine gl (some 4) Tryd.func139 #[.int .i64 a0] ?_; (with_reducible refine (Bs_WideOf.calls k a0 t756 t757 _ A2.out).mono ?_); rintro e w5 ⟨v758, rfl, ho0, hb⟩; refine ⟨_, rfl, ?_⟩; have HO759 := m0 (Kd.V_lower (Kd.V_mono (ok' := fun k_ => (w.heap.size ≤ k_) ∧ k_ ≠ gb755) ho0 (fun k_ hk_ => ⟨(Nat.le_trans (below_size bz) hk_), (Kd.freshB (g := gb755) (o := .cells #[.int .i64 0, .slice none 0 0, .int .i64 0, .slice none 0 0] 137 (0, 0)) (bk BK755.out) k_ hk_)⟩)) (below_size bz)); replace BK755 := bb BK755 hb; replace HB := sb HB hb; (try clear hb); (try clear ho0)) | ((with_reducible refine gate_callee (f := 139) rfl ?_); refine gl (some 5) Tryd.func139 #[.int .i64 1] ?_; (with_reducible refine (Bs_WideOf.calls k 1 t760 t761 _ A3.out).mono ?_); rintro e w6 ⟨v762, rfl, ho0, hb⟩; refine ⟨_, rfl, ?_⟩; replace HO759 := vb HO759 hb; have HO763 := m0 (Kd.V_lower (Kd.V_mono (ok' := fun k_ => (w.heap.size ≤ k_) ∧ k_ ≠ gb755) ho0 (fun k_ hk_ => ⟨(Nat.le_trans (below_size bz) hk_), (Kd.freshB (g := gb755) (o := .cells #[.int .i64 0, .slice none 0 0, .int .i64 0, .slice none 0 0] 137 (0, 0)) (bk BK755.out) k_ hk_)⟩)) (below_size bz)); replace BK755 := bb BK755 hb; replace HB := sb HB hb; (try clear hb); (try clear ho0); obtain ⟨Ao7, co7, eo7⟩ := Kd.V_slice HO763.out; subst eo7; obtain ⟨Ao8, co8, eo8⟩ := Kd.V_slice HO759.out; subst eo8; obtain ⟨_, _, _, _, _, _, _, _⟩ := b4 BK755))
 refine bodyPost_ret (results_cell_row rfl _ _ gb755 137 #[.int .i64 t756, .slice Ao8 t757.length co8, .int .i64 t760, .slice Ao7 t761.length co7] (0, 0) _ rfl (bq BK755.out) Tryd.underlying137 rfl (by kernel_rfl)) rfl ?_
 exact ⟨_, _, by first | rfl | (simp [errW_none, errW_some] <;> rfl) | (simp [*, errW_none, errW_some] <;> rfl), by (with_reducible repeat (first | apply Kd.V_alloc | apply Kd.V_drewN | apply Kd.V_drew)); exact Kd.V_mono (Kd.V_far (p := ⟨gb755, 3, none⟩) (Kd.V_far (p := ⟨gb755, 2, none⟩) (Kd.V_far (p := ⟨gb755, 1, none⟩) (Kd.V_far (p := ⟨gb755, 0, none⟩) (Kd.V_mono HO759.out (fun k_ hk => (⟨hk, hk.2⟩ : _ ∧ k_ ≠ gb755))) (fun _ hk => hk.2) (.int .i64 t756)) (fun _ hk => hk.2) (.slice Ao8 t757.length co8)) (fun _ hk => hk.2) (.int .i64 t760)) (fun _ hk => hk.2) (.slice Ao7 t761.length co7)) (fun _ hk => hk.1.1), by (with_reducible repeat (first | apply Kd.V_alloc | apply Kd.V_drewN | apply Kd.V_drew)); exact Kd.V_mono (Kd.V_far (p := ⟨gb755, 3, none⟩) (Kd.V_far (p := ⟨gb755, 2, none⟩) (Kd.V_far (p := ⟨gb755, 1, none⟩) (Kd.V_far (p := ⟨gb755, 0, none⟩) (Kd.V_mono HO763.out (fun k_ hk => (⟨hk, hk.2⟩ : _ ∧ k_ ≠ gb755))) (fun _ hk => hk.2) (.int .i64 t756)) (fun _ hk => hk.2) (.slice Ao8 t757.length co8)) (fun _ hk => hk.2) (.int .i64 t760)) (fun _ hk => hk.2) (.slice Ao7 t761.length co7)) (fun _ hk => hk.1.1), by repeat (first | (with_reducible first | exact HB.out | apply below_alloc | apply pw_below_drewN | apply below_drew1 | refine below_set ?_ GE755.out) | exact HB.out)⟩
end
section
def Rf_Speed.f (k : Nat) (a0_0 : Int) (a0_1 : Int) (a1_0 : Int) (a1_1 : Int) (a1_2 : Int) : Option (Int × Int × Bool) := (Bs_RatioFrom.f k a0_0 a0_1).bind fun bt767 => ((Bs_RatioInt.f k a1_0).bind fun bt775 => ((Bs_RatioSub.f k bt767.1 bt767.2.1 bt767.2.2.1 bt767.2.2.2 bt775.1 bt775.2.1 bt775.2.2.1 bt775.2.2.2).bind fun bt783 => ((Bs_RatioOf.f k a1_1 a1_2).bind fun bt791 => ((Bs_RatioMul.f k bt783.1 bt783.2.1 bt783.2.2.1 bt783.2.2.2 bt791.1 bt791.2.1 bt791.2.2.1 bt791.2.2.2).bind fun bt799 => ((Bs_RatioFrac.f k bt799.1 bt799.2.1 bt799.2.2.1 bt799.2.2.2).bind fun bt807 => (some (bt807.1, bt807.2.1, bt807.2.2)))))))
theorem Rf_Speed.mono : ∀ a0 a1 a2 a3 a4 k, LeO (Rf_Speed.f k a0 a1 a2 a3 a4) (Rf_Speed.f (k + 1) a0 a1 a2 a3 a4) := by
 intro a0 a1 a2 a3 a4 k
 unfold Rf_Speed.f
 repeat' with_reducible first
  | exact Bs_RatioFrac.mono ..
  | exact Bs_RatioFrom.mono ..
  | exact Bs_RatioInt.mono ..
  | exact Bs_RatioMul.mono ..
  | exact Bs_RatioOf.mono ..
  | exact Bs_RatioSub.mono ..
  | exact LeO.refl ..
  | exact LeO.none ..
  | refine LeO.ite ?_ ?_
  | refine LeO.bind ?_ (fun _ => ?_)
def Rf_Speed.T1 : Bool × List (List Nat × List Nat) := (true, [([], []), ([0], [0]), ([], []), ([2], [2]), ([3, 1], [3]), ([1, 4, 4], [1, 4]), ([], []), ([6], [6]), ([], []), ([8], [8]), ([7, 9, 5], [7, 9]), ([5, 10, 10], [5, 10]), ([11, 11], [11]), ([12], [12]), ([12], [12]), ([13, 12, 0, 1, 2, 3, 4, 5, 6, 7, 8, 9, 10, 11, 12, 13, 14], [13]), ([14, 15, 0, 1, 2, 3, 4, 5, 6, 7, 8, 9, 10, 11, 12, 13, 14, 15], [14])])
def Rf_Speed.B1 : List Nat := [0, 1, 0, 4, 15, 31, 0, 64, 0, 256, 1023, 2047, 4095, 8191, 8191, 32767, 65535]
theorem Rf_Speed.tab1 : rtab .any (opsOf Tryd.f48 1) = Rf_Speed.T1 := by kernel_rfl
theorem Rf_Speed.bits1 : waitsOk Rf_Speed.T1.2 Rf_Speed.B1 = true := by kernel_rfl
theorem Rf_Speed.calls (k : Nat) (a0_0 : Int) (a0_1 : Int) (a1_0 : Int) (a1_1 : Int) (a1_2 : Int) (r1 : Int) (r2 : Int) (r3 : Bool) (w : World) (h : Rf_Speed.f k a0_0 a0_1 a1_0 a1_1 a1_2 = some (r1, r2, r3)) :
  Calls Tryd.prog 48 #[.agg #[.int .i64 a0_0, .int .i64 a0_1], .agg #[.int .i64 a1_0, .int .i64 a1_1, .int .i64 a1_2]] w fun e w' => e = .returned (.tuple #[.agg #[.int .i64 r1, .int .i64 r2], .bool r3]) ∧ Below w.heap.size w w' := by
 have hu26 := Tryd.underlying26
 have hu63 := Tryd.underlying63
 have HB := m0 (Below.refl w.heap.size w)
 have H : ((Bs_RatioFrom.f k a0_0 a0_1).bind fun bt767 => ((Bs_RatioInt.f k a1_0).bind fun bt775 => ((Bs_RatioSub.f k bt767.1 bt767.2.1 bt767.2.2.1 bt767.2.2.2 bt775.1 bt775.2.1 bt775.2.2.1 bt775.2.2.2).bind fun bt783 => ((Bs_RatioOf.f k a1_1 a1_2).bind fun bt791 => ((Bs_RatioMul.f k bt783.1 bt783.2.1 bt783.2.2.1 bt783.2.2.2 bt791.1 bt791.2.1 bt791.2.2.1 bt791.2.2.2).bind fun bt799 => ((Bs_RatioFrac.f k bt799.1 bt799.2.1 bt799.2.2.1 bt799.2.2.2).bind fun bt807 => (some (bt807.1, bt807.2.1, bt807.2.2)))))))) = some (r1, r2, r3) := h
 clear h
 replace H := ob H
 obtain ⟨⟨t767, t768, t771, t772⟩, A3, H⟩ := H
 (try dsimp only at H)
 replace A3 := m0 A3
 replace H := ob H
 obtain ⟨⟨t775, t776, t779, t780⟩, A4, H⟩ := H
 (try dsimp only at H)
 replace A4 := m0 A4
 replace H := ob H
 obtain ⟨⟨t783, t784, t787, t788⟩, A5, H⟩ := H
 (try dsimp only at H)
 replace A5 := m0 A5
 replace H := ob H
 obtain ⟨⟨t791, t792, t795, t796⟩, A6, H⟩ := H
 (try dsimp only at H)
 replace A6 := m0 A6
 replace H := ob H
 obtain ⟨⟨t799, t800, t803, t804⟩, A7, H⟩ := H
 (try dsimp only at H)
 replace A7 := m0 A7
 replace H := ob H
 obtain ⟨⟨t807, t808, t809⟩, A8, H⟩ := H
 (try dsimp only at H)
 replace A8 := m0 A8
 simp only [Option.some.injEq, Prod.mk.injEq] at H
 obtain ⟨rfl, rfl, rfl⟩ := H
 go_enter Tryd.func48, Tryd.ntmps48
 try go_wp2_with (first | ((with_reducible refine gate_dst (N := 2) rfl ?_); refine be 2 26 #[.int .i64 a0_0, .int .i64 a0_1] ?_; intro gb764 hg w9 hbox hb; have BK764 := m0 hbox; have GE764 := gw w hg; replace HB := sb HB hb; clear hb hbox hg) | ((with_reducible refine gate_dst (N := 3) rfl ?_); refine be 3 63 #[.int .i64 a1_0, .int .i64 a1_1, .int .i64 a1_2] ?_; intro gb765 hg w10 hbox hb; have BK765 := m0 hbox; have GE765 := gw w hg; replace HB := sb HB hb; have NB764_765 := nl BK764 hg; have NB765_764 := ng (nl BK764 hg); replace BK764 := bb BK764 hb; clear hb hbox hg) | ((with_reducible refine gate_dst (N := 4) rfl ?_); refine be 4 26 #[.int .i64 0, .int .i64 0] ?_; intro gb766 hg w11 hbox hb; have BK766 := m0 hbox; have GE766 := gw w hg; replace HB := sb HB hb; have NB764_766 := nl BK764 hg; have NB766_764 := ng (nl BK764 hg); replace BK764 := bb BK764 hb; have NB765_766 := nl BK765 hg; have NB766_765 := ng (nl BK765 hg); replace BK765 := bb BK765 hb; clear hb hbox hg))
 replace BK764 := bd BK764; replace BK765 := bd BK765; replace BK766 := bd BK766; replace HB := sd HB
 refine start_ (n := 17) (S := fun w' => w'.cell? ⟨gb764, 0, none⟩ = some (.int .i64 a0_0) ∧ w'.cell? ⟨gb764, 1, none⟩ = some (.int .i64 a0_1) ∧ w'.cell? ⟨gb765, 0, none⟩ = some (.int .i64 a1_0) ∧ w'.cell? ⟨gb765, 1, none⟩ = some (.int .i64 a1_1) ∧ w'.cell? ⟨gb765, 2, none⟩ = some (.int .i64 a1_2)) (ds := []) #[false, false, false, false, false, false, false, false, false, false, false, false, false, false, false, false, false] (by kernel_rfl) rfl rfl cz (fun hH => ?_); refine with_tabW Rf_Speed.tab1 Rf_Speed.bits1 (fun HT_ HW_ => ?_)
 generalize w11.drew = w12 at BK764 BK765 BK766 HB hH ⊢
 refine pZ 2 (some 8) (bs 17 4) HT_ ?_
 refine pZ 6 (some 12) (bs 17 68) HT_ ?_
 refine pZ 8 (some 14) (bs 17 324) HT_ ?_
 refine takeZ 0 (some 6) (bs 17 325) (take_ofW HT_.out HW_.out (by kernel_rfl)) hH ?_
 refine takeZ 3 (some 9) (bs 17 333) (take_ofW HT_.out HW_.out (by kernel_rfl)) hH ?_
 refine takeZ 7 (some 13) (bs 17 461) (take_ofW HT_.out HW_.out (by kernel_rfl)) hH ?_
 refine takeZ 9 (some 15) (bs 17 973) (take_ofW HT_.out HW_.out (by kernel_rfl)) hH ?_
 refine oneZ 1 (some 7) (bs 17 975) (one_of HT_.out (by kernel_rfl)) fun K hK => ?_
 refine gz Tryd.func116 #[.agg #[.int .i64 a0_0, .int .i64 a0_1]] ?_
 with_reducible refine (Bs_RatioFrom.calls k a0_0 a0_1 t767 t768 t771 t772 _ A3.out).mono ?_
 rintro e w13 ⟨v769, v773, rfl, ho0, ho1, hb⟩
 refine ⟨_, rfl, ?_⟩
 have HO770 := m0 (Kd.V_lower (Kd.V_mono (ok' := fun k_ => k_ ≠ gb764 ∧ k_ ≠ gb765 ∧ k_ ≠ gb766) ho0 (fun k_ hk_ => ⟨(Kd.freshB (g := gb764) (o := .cells #[.int .i64 a0_0, .int .i64 a0_1] 26 (0, 0)) (bk BK764.out) k_ hk_), (Kd.freshB (g := gb765) (o := .cells #[.int .i64 a1_0, .int .i64 a1_1, .int .i64 a1_2] 63 (0, 0)) (bk BK765.out) k_ hk_), (Kd.freshB (g := gb766) (o := .cells #[.int .i64 0, .int .i64 0] 26 (0, 0)) (bk BK766.out) k_ hk_)⟩)) (below_size bz)); have HO774 := m0 (Kd.V_lower (Kd.V_mono (ok' := fun k_ => k_ ≠ gb764 ∧ k_ ≠ gb765 ∧ k_ ≠ gb766) ho1 (fun k_ hk_ => ⟨(Kd.freshB (g := gb764) (o := .cells #[.int .i64 a0_0, .int .i64 a0_1] 26 (0, 0)) (bk BK764.out) k_ hk_), (Kd.freshB (g := gb765) (o := .cells #[.int .i64 a1_0, .int .i64 a1_1, .int .i64 a1_2] 63 (0, 0)) (bk BK765.out) k_ hk_), (Kd.freshB (g := gb766) (o := .cells #[.int .i64 0, .int .i64 0] 26 (0, 0)) (bk BK766.out) k_ hk_)⟩)) (below_size bz)); replace BK764 := bb BK764 hb; replace BK765 := bb BK765 hb; replace BK766 := bb BK766 hb; replace HB := sb HB hb
 (try clear hb)
 (try clear ho0)
 (try clear ho1)
 refine hK.out _ _ cz (fun hH => ?_)
 clear hK K
 refine norm_ (a' := ?_) ?_ ?_
 rotate_left
 ·show Act.put _ (some 7) _ = _
  exact pz
 refine oneZ 4 (some 10) (bs 17 991) (one_of HT_.out (by kernel_rfl)) fun K hK => ?_
 refine gz Tryd.func117 #[.int .i64 a1_0] ?_
 with_reducible refine (Bs_RatioInt.calls k a1_0 t775 t776 t779 t780 _ A4.out).mono ?_
 rintro e w14 ⟨v777, v781, rfl, ho0, ho1, hb⟩
 refine ⟨_, rfl, ?_⟩
 replace HO770 := vb HO770 hb; replace HO774 := vb HO774 hb; have HO778 := m0 (Kd.V_lower (Kd.V_mono (ok' := fun k_ => k_ ≠ gb764 ∧ k_ ≠ gb765 ∧ k_ ≠ gb766) ho0 (fun k_ hk_ => ⟨(Kd.freshB (g := gb764) (o := .cells #[.int .i64 a0_0, .int .i64 a0_1] 26 (0, 0)) (bk BK764.out) k_ hk_), (Kd.freshB (g := gb765) (o := .cells #[.int .i64 a1_0, .int .i64 a1_1, .int .i64 a1_2] 63 (0, 0)) (bk BK765.out) k_ hk_), (Kd.freshB (g := gb766) (o := .cells #[.int .i64 0, .int .i64 0] 26 (0, 0)) (bk BK766.out) k_ hk_)⟩)) (below_size bz)); have HO782 := m0 (Kd.V_lower (Kd.V_mono (ok' := fun k_ => k_ ≠ gb764 ∧ k_ ≠ gb765 ∧ k_ ≠ gb766) ho1 (fun k_ hk_ => ⟨(Kd.freshB (g := gb764) (o := .cells #[.int .i64 a0_0, .int .i64 a0_1] 26 (0, 0)) (bk BK764.out) k_ hk_), (Kd.freshB (g := gb765) (o := .cells #[.int .i64 a1_0, .int .i64 a1_1, .int .i64 a1_2] 63 (0, 0)) (bk BK765.out) k_ hk_), (Kd.freshB (g := gb766) (o := .cells #[.int .i64 0, .int .i64 0] 26 (0, 0)) (bk BK766.out) k_ hk_)⟩)) (below_size bz)); replace BK764 := bb BK764 hb; replace BK765 := bb BK765 hb; replace BK766 := bb BK766 hb; replace HB := sb HB hb
 (try clear hb)
 (try clear ho0)
 (try clear ho1)
 obtain ⟨Ao15, co15, eo15⟩ := Kd.V_slice HO770.out
 subst eo15
 obtain ⟨Ao16, co16, eo16⟩ := Kd.V_slice HO774.out
 subst eo16
 obtain ⟨Ao17, co17, eo17⟩ := Kd.V_slice HO778.out
 subst eo17
 obtain ⟨Ao18, co18, eo18⟩ := Kd.V_slice HO782.out
 subst eo18
 refine hK.out _ _ cz (fun hH => ?_)
 clear hK K
 refine norm_ (a' := ?_) ?_ ?_
 rotate_left
 ·show Act.put _ (some 10) _ = _
  exact pz
 refine oneZ 5 (some 11) (bs 17 1023) (one_of HT_.out (by kernel_rfl)) fun K hK => ?_
 refine gz Tryd.func115 #[.agg #[.int .i64 t767, .slice Ao15 t768.length co15, .int .i64 t771, .slice Ao16 t772.length co16], .agg #[.int .i64 t775, .slice Ao17 t776.length co17, .int .i64 t779, .slice Ao18 t780.length co18]] ?_
 with_reducible refine (Bs_RatioSub.calls k t767 _ _ t768 t771 _ _ t772 t775 (fun k_ => (k_ ≠ gb764 ∧ (k_ ≠ gb765 ∧ k_ ≠ gb766))) _ _ t776 t779 (fun k_ => (k_ ≠ gb764 ∧ (k_ ≠ gb765 ∧ k_ ≠ gb766))) _ _ t780 t783 t784 t787 t788 _ ?side1 ?side2 ?side3 ?side4 ?side5 ?side6 A5.out).mono ?_
 (case side1 => exact bc (Kd.V_reads' HO770.out).2.2)
 (case side2 => exact (Kd.V_reads' HO770.out).2.1)
 (case side3 => exact bc (Kd.V_reads' HO774.out).2.2)
 (case side4 => exact (Kd.V_reads' HO774.out).2.1)
 (case side5 => exact HO778.out)
 (case side6 => exact HO782.out)
 rintro e w19 ⟨v785, v789, rfl, ho0, ho1, hb⟩
 refine ⟨_, rfl, ?_⟩
 replace HO770 := vb HO770 hb; replace HO774 := vb HO774 hb; replace HO778 := vb HO778 hb; replace HO782 := vb HO782 hb; have HO786 := m0 (Kd.V_lower (Kd.V_mono (ok' := fun k_ => k_ ≠ gb764 ∧ k_ ≠ gb765 ∧ k_ ≠ gb766) ho0 (fun k_ hk_ => ⟨Or.elim hk_ (fun hs_ => Or.elim hs_ (fun hs_ => hs_.1) (fun hs_ => hs_.1)) (fun hn_ => (Kd.freshB (g := gb764) (o := .cells #[.int .i64 a0_0, .int .i64 a0_1] 26 (0, 0)) (bk BK764.out) k_ hn_)), Or.elim hk_ (fun hs_ => Or.elim hs_ (fun hs_ => hs_.2.1) (fun hs_ => hs_.2.1)) (fun hn_ => (Kd.freshB (g := gb765) (o := .cells #[.int .i64 a1_0, .int .i64 a1_1, .int .i64 a1_2] 63 (0, 0)) (bk BK765.out) k_ hn_)), Or.elim hk_ (fun hs_ => Or.elim hs_ (fun hs_ => hs_.2.2) (fun hs_ => hs_.2.2)) (fun hn_ => (Kd.freshB (g := gb766) (o := .cells #[.int .i64 0, .int .i64 0] 26 (0, 0)) (bk BK766.out) k_ hn_))⟩)) (below_size bz)); have HO790 := m0 (Kd.V_lower (Kd.V_mono (ok' := fun k_ => k_ ≠ gb764 ∧ k_ ≠ gb765 ∧ k_ ≠ gb766) ho1 (fun k_ hk_ => ⟨Or.elim hk_ (fun hs_ => Or.elim hs_ (fun hs_ => hs_.1) (fun hs_ => hs_.1)) (fun hn_ => (Kd.freshB (g := gb764) (o := .cells #[.int .i64 a0_0, .int .i64 a0_1] 26 (0, 0)) (bk BK764.out) k_ hn_)), Or.elim hk_ (fun hs_ => Or.elim hs_ (fun hs_ => hs_.2.1) (fun hs_ => hs_.2.1)) (fun hn_ => (Kd.freshB (g := gb765) (o := .cells #[.int .i64 a1_0, .int .i64 a1_1, .int .i64 a1_2] 63 (0, 0)) (bk BK765.out) k_ hn_)), Or.elim hk_ (fun hs_ => Or.elim hs_ (fun hs_ => hs_.2.2) (fun hs_ => hs_.2.2)) (fun hn_ => (Kd.freshB (g := gb766) (o := .cells #[.int .i64 0, .int .i64 0] 26 (0, 0)) (bk BK766.out) k_ hn_))⟩)) (below_size bz)); replace BK764 := bb BK764 hb; replace BK765 := bb BK765 hb; replace BK766 := bb BK766 hb; replace HB := sb HB hb
 (try clear hb)
 (try clear ho0)
 (try clear ho1)
 refine hK.out _ _ cz (fun hH => ?_)
 clear hK K
 refine norm_ (a' := ?_) ?_ ?_
 rotate_left
 ·show Act.put _ (some 11) _ = _
  exact pz
 refine oneZ 10 (some 16) (bs 17 2047) (one_of HT_.out (by kernel_rfl)) fun K hK => ?_
 refine gz Tryd.func118 #[.int .i64 a1_1, .int .i64 a1_2] ?_
 with_reducible refine (Bs_RatioOf.calls k a1_1 a1_2 t791 t792 t795 t796 _ A6.out).mono ?_
 rintro e w20 ⟨v793, v797, rfl, ho0, ho1, hb⟩
 refine ⟨_, rfl, ?_⟩
 replace HO770 := vb HO770 hb; replace HO774 := vb HO774 hb; replace HO778 := vb HO778 hb; replace HO782 := vb HO782 hb; replace HO786 := vb HO786 hb; replace HO790 := vb HO790 hb; have HO794 := m0 (Kd.V_lower (Kd.V_mono (ok' := fun k_ => k_ ≠ gb764 ∧ k_ ≠ gb765 ∧ k_ ≠ gb766) ho0 (fun k_ hk_ => ⟨(Kd.freshB (g := gb764) (o := .cells #[.int .i64 a0_0, .int .i64 a0_1] 26 (0, 0)) (bk BK764.out) k_ hk_), (Kd.freshB (g := gb765) (o := .cells #[.int .i64 a1_0, .int .i64 a1_1, .int .i64 a1_2] 63 (0, 0)) (bk BK765.out) k_ hk_), (Kd.freshB (g := gb766) (o := .cells #[.int .i64 0, .int .i64 0] 26 (0, 0)) (bk BK766.out) k_ hk_)⟩)) (below_size bz)); have HO798 := m0 (Kd.V_lower (Kd.V_mono (ok' := fun k_ => k_ ≠ gb764 ∧ k_ ≠ gb765 ∧ k_ ≠ gb766) ho1 (fun k_ hk_ => ⟨(Kd.freshB (g := gb764) (o := .cells #[.int .i64 a0_0, .int .i64 a0_1] 26 (0, 0)) (bk BK764.out) k_ hk_), (Kd.freshB (g := gb765) (o := .cells #[.int .i64 a1_0, .int .i64 a1_1, .int .i64 a1_2] 63 (0, 0)) (bk BK765.out) k_ hk_), (Kd.freshB (g := gb766) (o := .cells #[.int .i64 0, .int .i64 0] 26 (0, 0)) (bk BK766.out) k_ hk_)⟩)) (below_size bz)); replace BK764 := bb BK764 hb; replace BK765 := bb BK765 hb; replace BK766 := bb BK766 hb; replace HB := sb HB hb
 (try clear hb)
 (try clear ho0)
 (try clear ho1)
 obtain ⟨Ao21, co21, eo21⟩ := Kd.V_slice HO786.out
 subst eo21
 obtain ⟨Ao22, co22, eo22⟩ := Kd.V_slice HO790.out
 subst eo22
 obtain ⟨Ao23, co23, eo23⟩ := Kd.V_slice HO794.out
 subst eo23
 obtain ⟨Ao24, co24, eo24⟩ := Kd.V_slice HO798.out
 subst eo24
 refine hK.out _ _ cz (fun hH => ?_)
 clear hK K
 refine norm_ (a' := ?_) ?_ ?_
 rotate_left
 ·show Act.put _ (some 16) _ = _
  exact pz
 refine oneZ 11 (some 17) (bs 17 4095) (one_of HT_.out (by kernel_rfl)) fun K hK => ?_
 refine gz Tryd.func114 #[.agg #[.int .i64 t783, .slice Ao21 t784.length co21, .int .i64 t787, .slice Ao22 t788.length co22], .agg #[.int .i64 t791, .slice Ao23 t792.length co23, .int .i64 t795, .slice Ao24 t796.length co24]] ?_
 with_reducible refine (Bs_RatioMul.calls k t783 _ _ t784 t787 _ _ t788 t791 _ _ t792 t795 _ _ t796 t799 t800 t803 t804 _ ?side1 ?side2 ?side3 ?side4 ?side5 ?side6 ?side7 ?side8 A7.out).mono ?_
 (case side1 => exact bc (Kd.V_reads' HO786.out).2.2)
 (case side2 => exact (Kd.V_reads' HO786.out).2.1)
 (case side3 => exact bc (Kd.V_reads' HO790.out).2.2)
 (case side4 => exact (Kd.V_reads' HO790.out).2.1)
 (case side5 => exact bc (Kd.V_reads' HO794.out).2.2)
 (case side6 => exact (Kd.V_reads' HO794.out).2.1)
 (case side7 => exact bc (Kd.V_reads' HO798.out).2.2)
 (case side8 => exact (Kd.V_reads' HO798.out).2.1)
 rintro e w25 ⟨v801, v805, rfl, ho0, ho1, hb⟩
 refine ⟨_, rfl, ?_⟩
 replace HO770 := vb HO770 hb; replace HO774 := vb HO774 hb; replace HO778 := vb HO778 hb; replace HO782 := vb HO782 hb; replace HO786 := vb HO786 hb; replace HO790 := vb HO790 hb; replace HO794 := vb HO794 hb; replace HO798 := vb HO798 hb; have HO802 := m0 (Kd.V_lower (Kd.V_mono (ok' := fun k_ => k_ ≠ gb764 ∧ k_ ≠ gb765 ∧ k_ ≠ gb766) ho0 (fun k_ hk_ => ⟨(Kd.freshB (g := gb764) (o := .cells #[.int .i64 a0_0, .int .i64 a0_1] 26 (0, 0)) (bk BK764.out) k_ hk_), (Kd.freshB (g := gb765) (o := .cells #[.int .i64 a1_0, .int .i64 a1_1, .int .i64 a1_2] 63 (0, 0)) (bk BK765.out) k_ hk_), (Kd.freshB (g := gb766) (o := .cells #[.int .i64 0, .int .i64 0] 26 (0, 0)) (bk BK766.out) k_ hk_)⟩)) (below_size bz)); have HO806 := m0 (Kd.V_lower (Kd.V_mono (ok' := fun k_ => k_ ≠ gb764 ∧ k_ ≠ gb765 ∧ k_ ≠ gb766) ho1 (fun k_ hk_ => ⟨(Kd.freshB (g := gb764) (o := .cells #[.int .i64 a0_0, .int .i64 a0_1] 26 (0, 0)) (bk BK764.out) k_ hk_), (Kd.freshB (g := gb765) (o := .cells #[.int .i64 a1_0, .int .i64 a1_1, .int .i64 a1_2] 63 (0, 0)) (bk BK765.out) k_ hk_), (Kd.freshB (g := gb766) (o := .cells #[.int .i64 0, .int .i64 0] 26 (0, 0)) (bk BK766.out) k_ hk_)⟩)) (below_size bz)); replace BK764 := bb BK764 hb; replace BK765 := bb BK765 hb; replace BK766 := bb BK766 hb; replace HB := sb HB hb
 (try clear hb)
 (try clear ho0)
 (try clear ho1)
 obtain ⟨Ao26, co26, eo26⟩ := Kd.V_slice HO802.out
 subst eo26
 obtain ⟨Ao27, co27, eo27⟩ := Kd.V_slice HO806.out
 subst eo27
 refine hK.out _ _ cz (fun hH => ?_)
 clear hK K
 refine norm_ (a' := ?_) ?_ ?_
 rotate_left
 ·show Act.put _ (some 17) _ = _
  exact pz
 refine oneZ 12 (some 18) (bs 17 8191) (one_of HT_.out (by kernel_rfl)) fun K hK => ?_
 refine gz Tryd.func113 #[.agg #[.int .i64 t799, .slice Ao26 t800.length co26, .int .i64 t803, .slice Ao27 t804.length co27]] ?_
 with_reducible refine (Bs_RatioFrac.calls k t799 _ _ t800 t803 _ _ t804 t807 t808 t809 _ ?side1 ?side2 ?side3 ?side4 A8.out).mono ?_
 (case side1 => exact bc (Kd.V_reads' HO802.out).2.2)
 (case side2 => exact (Kd.V_reads' HO802.out).2.1)
 (case side3 => exact bc (Kd.V_reads' HO806.out).2.2)
 (case side4 => exact (Kd.V_reads' HO806.out).2.1)
 rintro e w28 ⟨rfl, hb⟩
 refine ⟨_, rfl, ?_⟩
 replace HO770 := vb HO770 hb; replace HO774 := vb HO774 hb; replace HO778 := vb HO778 hb; replace HO782 := vb HO782 hb; replace HO786 := vb HO786 hb; replace HO790 := vb HO790 hb; replace HO794 := vb HO794 hb; replace HO798 := vb HO798 hb; replace HO802 := vb HO802 hb; replace HO806 := vb HO806 hb; replace BK764 := bb BK764 hb; replace BK765 := bb BK765 hb; replace BK766 := bb BK766 hb; replace HB := sb HB hb
 (try clear hb)
 refine hK.out _ _ cz (fun hH => ?_)
 clear hK K
 refine norm_ (a' := ?_) ?_ ?_
 rotate_left
 ·show Act.put _ (some 18) _ = _
  exact pz
 refine pZ 13 (some 19) (bs 17 16383) HT_ ?_
 refine pZ 14 (some 20) (bs 17 32767) HT_ ?_
 refine oneZ 15 (none) (bs 17 65535) (one_of HT_.out (by kernel_rfl)) fun K hK => ?_
 have hs29 : w28.cell? ⟨gb766, 0, none⟩ = some (.int .i64 0) := (blk_cell BK766.out 0).trans rfl
 have hfs29 := blk_frozen BK766.out 0
 have hs30 : w28.cell? ⟨gb766, 1, none⟩ = some (.int .i64 0) := (blk_cell BK766.out 1).trans rfl
 have hfs30 := blk_frozen BK766.out 1
 refine skip_ (w1 := ?_) (by rfl) rfl ?_ ?_
 rotate_left
 ·go_simp
  rfl
 refine hK.out _ _ (cf hH) (fun hH => ?_)
 clear hK K
 refine pZ 16 (some 5) (bs 17 131071) HT_ ?_
 refine done_ (done_of HT_.out (by kernel_rfl)) ?_
 try go_wp2
 refine bodyPost_ret (results_ct rfl _ _ gb766 26 #[.int .i64 t807, .int .i64 t808] (0, 0) _ rfl (bq BK766.out) Tryd.underlying26 rfl (by kernel_rfl)) rfl ?_
 exact ez
end
section
def Rf_Position.f (k : Nat) (a0_0 : Int) (a0_1 : Int) (a1_0 : Int) (a1_1 : Int) (a1_2 : Int) : Option (Int × Int × Bool) := (Bs_RatioFrom.f k a0_0 a0_1).bind fun bt813 => ((Bs_RatioOf.f k a1_2 a1_1).bind fun bt821 => ((Bs_RatioMul.f k bt813.1 bt813.2.1 bt813.2.2.1 bt813.2.2.2 bt821.1 bt821.2.1 bt821.2.2.1 bt821.2.2.2).bind fun bt829 => ((Bs_RatioInt.f k a1_0).bind fun bt837 => ((Bs_RatioAdd.f k bt829.1 bt829.2.1 bt829.2.2.1 bt829.2.2.2 bt837.1 bt837.2.1 bt837.2.2.1 bt837.2.2.2).bind fun bt845 => ((Bs_RatioFrac.f k bt845.1 bt845.2.1 bt845.2.2.1 bt845.2.2.2).bind fun bt853 => (some (bt853.1, bt853.2.1, bt853.2.2)))))))
theorem Rf_Position.mono : ∀ a0 a1 a2 a3 a4 k, LeO (Rf_Position.f k a0 a1 a2 a3 a4) (Rf_Position.f (k + 1) a0 a1 a2 a3 a4) := by
 intro a0 a1 a2 a3 a4 k
 unfold Rf_Position.f
 repeat' with_reducible first
  | exact Bs_RatioAdd.mono ..
  | exact Bs_RatioFrac.mono ..
  | exact Bs_RatioFrom.mono ..
  | exact Bs_RatioInt.mono ..
  | exact Bs_RatioMul.mono ..
  | exact Bs_RatioOf.mono ..
  | exact LeO.refl ..
  | exact LeO.none ..
  | refine LeO.ite ?_ ?_
  | refine LeO.bind ?_ (fun _ => ?_)
def Rf_Position.T1 : Bool × List (List Nat × List Nat) := (true, [([], []), ([0], [0]), ([], []), ([2], [2]), ([], []), ([4], [4]), ([3, 5, 1], [3, 5]), ([1, 6, 6], [1, 6]), ([], []), ([8], [8]), ([9, 7], [9]), ([7, 10, 10], [7, 10]), ([11, 11], [11]), ([12], [12]), ([12], [12]), ([13, 12, 0, 1, 2, 3, 4, 5, 6, 7, 8, 9, 10, 11, 12, 13, 14], [13]), ([14, 15, 0, 1, 2, 3, 4, 5, 6, 7, 8, 9, 10, 11, 12, 13, 14, 15], [14])])
def Rf_Position.B1 : List Nat := [0, 1, 0, 4, 0, 16, 63, 127, 0, 256, 1023, 2047, 4095, 8191, 8191, 32767, 65535]
theorem Rf_Position.tab1 : rtab .any (opsOf Tryd.f49 1) = Rf_Position.T1 := by kernel_rfl
theorem Rf_Position.bits1 : waitsOk Rf_Position.T1.2 Rf_Position.B1 = true := by kernel_rfl
theorem Rf_Position.calls (k : Nat) (a0_0 : Int) (a0_1 : Int) (a1_0 : Int) (a1_1 : Int) (a1_2 : Int) (r1 : Int) (r2 : Int) (r3 : Bool) (w : World) (h : Rf_Position.f k a0_0 a0_1 a1_0 a1_1 a1_2 = some (r1, r2, r3)) :
  Calls Tryd.prog 49 #[.agg #[.int .i64 a0_0, .int .i64 a0_1], .agg #[.int .i64 a1_0, .int .i64 a1_1, .int .i64 a1_2]] w fun e w' => e = .returned (.tuple #[.agg #[.int .i64 r1, .int .i64 r2], .bool r3]) ∧ Below w.heap.size w w' := by
 have hu26 := Tryd.underlying26
 have hu63 := Tryd.underlying63
 have HB := m0 (Below.refl w.heap.size w)
 have H : ((Bs_RatioFrom.f k a0_0 a0_1).bind fun bt813 => ((Bs_RatioOf.f k a1_2 a1_1).bind fun bt821 => ((Bs_RatioMul.f k bt813.1 bt813.2.1 bt813.2.2.1 bt813.2.2.2 bt821.1 bt821.2.1 bt821.2.2.1 bt821.2.2.2).bind fun bt829 => ((Bs_RatioInt.f k a1_0).bind fun bt837 => ((Bs_RatioAdd.f k bt829.1 bt829.2.1 bt829.2.2.1 bt829.2.2.2 bt837.1 bt837.2.1 bt837.2.2.1 bt837.2.2.2).bind fun bt845 => ((Bs_RatioFrac.f k bt845.1 bt845.2.1 bt845.2.2.1 bt845.2.2.2).bind fun bt853 => (some (bt853.1, bt853.2.1, bt853.2.2)))))))) = some (r1, r2, r3) := h
 clear h
 replace H := ob H
 obtain ⟨⟨t813, t814, t817, t818⟩, A3, H⟩ := H
 (try dsimp only at H)
 replace A3 := m0 A3
 replace H := ob H
 obtain ⟨⟨t821, t822, t825, t826⟩, A4, H⟩ := H
 (try dsimp only at H)
 replace A4 := m0 A4
 replace H := ob H
 obtain ⟨⟨t829, t830, t833, t834⟩, A5, H⟩ := H
 (try dsimp only at H)
 replace A5 := m0 A5
 replace H := ob H
 obtain ⟨⟨t837, t838, t841, t842⟩, A6, H⟩ := H
 (try dsimp only at H)
 replace A6 := m0 A6
 replace H := ob H
 obtain ⟨⟨t845, t846, t849, t850⟩, A7, H⟩ := H
 (try dsimp only at H)
 replace A7 := m0 A7
 replace H := ob H
 obtain ⟨⟨t853, t854, t855⟩, A8, H⟩ := H
 (try dsimp only at H)
 replace A8 := m0 A8
 simp only [Option.some.injEq, Prod.mk.injEq] at H
 obtain ⟨rfl, rfl, rfl⟩ := H
 go_enter Tryd.func49, Tryd.ntmps49
 try go_wp2_with (first | ((with_reducible refine gate_dst (N := 2) rfl ?_); refine be 2 26 #[.int .i64 a0_0, .int .i64 a0_1] ?_; intro gb810 hg w9 hbox hb; have BK810 := m0 hbox; have GE810 := gw w hg; replace HB := sb HB hb; clear hb hbox hg) | ((with_reducible refine gate_dst (N := 3) rfl ?_); refine be 3 63 #[.int .i64 a1_0, .int .i64 a1_1, .int .i64 a1_2] ?_; intro gb811 hg w10 hbox hb; have BK811 := m0 hbox; have GE811 := gw w hg; replace HB := sb HB hb; have NB810_811 := nl BK810 hg; have NB811_810 := ng (nl BK810 hg); replace BK810 := bb BK810 hb; clear hb hbox hg) | ((with_reducible refine gate_dst (N := 4) rfl ?_); refine be 4 26 #[.int .i64 0, .int .i64 0] ?_; intro gb812 hg w11 hbox hb; have BK812 := m0 hbox; have GE812 := gw w hg; replace HB := sb HB hb; have NB810_812 := nl BK810 hg; have NB812_810 := ng (nl BK810 hg); replace BK810 := bb BK810 hb; have NB811_812 := nl BK811 hg; have NB812_811 := ng (nl BK811 hg); replace BK811 := bb BK811 hb; clear hb hbox hg))
 replace BK810 := bd BK810; replace BK811 := bd BK811; replace BK812 := bd BK812; replace HB := sd HB
 refine start_ (n := 17) (S := fun w' => w'.cell? ⟨gb810, 0, none⟩ = some (.int .i64 a0_0) ∧ w'.cell? ⟨gb810, 1, none⟩ = some (.int .i64 a0_1) ∧ w'.cell? ⟨gb811, 0, none⟩ = some (.int .i64 a1_0) ∧ w'.cell? ⟨gb811, 1, none⟩ = some (.int .i64 a1_1) ∧ w'.cell? ⟨gb811, 2, none⟩ = some (.int .i64 a1_2)) (ds := []) #[false, false, false, false, false, false, false, false, false, false, false, false, false, false, false, false, false] (by kernel_rfl) rfl rfl cz (fun hH => ?_); refine with_tabW Rf_Position.tab1 Rf_Position.bits1 (fun HT_ HW_ => ?_)
 generalize w11.drew = w12 at BK810 BK811 BK812 HB hH ⊢
 refine pZ 2 (some 8) (bs 17 4) HT_ ?_
 refine pZ 4 (some 10) (bs 17 20) HT_ ?_
 refine pZ 8 (some 14) (bs 17 276) HT_ ?_
 refine takeZ 0 (some 6) (bs 17 277) (take_ofW HT_.out HW_.out (by kernel_rfl)) hH ?_
 refine takeZ 3 (some 9) (bs 17 285) (take_ofW HT_.out HW_.out (by kernel_rfl)) hH ?_
 refine takeZ 5 (some 11) (bs 17 317) (take_ofW HT_.out HW_.out (by kernel_rfl)) hH ?_
 refine takeZ 9 (some 15) (bs 17 829) (take_ofW HT_.out HW_.out (by kernel_rfl)) hH ?_
 refine oneZ 1 (some 7) (bs 17 831) (one_of HT_.out (by kernel_rfl)) fun K hK => ?_
 refine gz Tryd.func116 #[.agg #[.int .i64 a0_0, .int .i64 a0_1]] ?_
 with_reducible refine (Bs_RatioFrom.calls k a0_0 a0_1 t813 t814 t817 t818 _ A3.out).mono ?_
 rintro e w13 ⟨v815, v819, rfl, ho0, ho1, hb⟩
 refine ⟨_, rfl, ?_⟩
 have HO816 := m0 (Kd.V_lower (Kd.V_mono (ok' := fun k_ => k_ ≠ gb810 ∧ k_ ≠ gb811 ∧ k_ ≠ gb812) ho0 (fun k_ hk_ => ⟨(Kd.freshB (g := gb810) (o := .cells #[.int .i64 a0_0, .int .i64 a0_1] 26 (0, 0)) (bk BK810.out) k_ hk_), (Kd.freshB (g := gb811) (o := .cells #[.int .i64 a1_0, .int .i64 a1_1, .int .i64 a1_2] 63 (0, 0)) (bk BK811.out) k_ hk_), (Kd.freshB (g := gb812) (o := .cells #[.int .i64 0, .int .i64 0] 26 (0, 0)) (bk BK812.out) k_ hk_)⟩)) (below_size bz)); have HO820 := m0 (Kd.V_lower (Kd.V_mono (ok' := fun k_ => k_ ≠ gb810 ∧ k_ ≠ gb811 ∧ k_ ≠ gb812) ho1 (fun k_ hk_ => ⟨(Kd.freshB (g := gb810) (o := .cells #[.int .i64 a0_0, .int .i64 a0_1] 26 (0, 0)) (bk BK810.out) k_ hk_), (Kd.freshB (g := gb811) (o := .cells #[.int .i64 a1_0, .int .i64 a1_1, .int .i64 a1_2] 63 (0, 0)) (bk BK811.out) k_ hk_), (Kd.freshB (g := gb812) (o := .cells #[.int .i64 0, .int .i64 0] 26 (0, 0)) (bk BK812.out) k_ hk_)⟩)) (below_size bz)); replace BK810 := bb BK810 hb; replace BK811 := bb BK811 hb; replace BK812 := bb BK812 hb; replace HB := sb HB hb
 (try clear hb)
 (try clear ho0)
 (try clear ho1)
 refine hK.out _ _ cz (fun hH => ?_)
 clear hK K
 refine norm_ (a' := ?_) ?_ ?_
 rotate_left
 ·show Act.put _ (some 7) _ = _
  exact pz
 refine oneZ 6 (some 12) (bs 17 895) (one_of HT_.out (by kernel_rfl)) fun K hK => ?_
 refine gz Tryd.func118 #[.int .i64 a1_2, .int .i64 a1_1] ?_
 with_reducible refine (Bs_RatioOf.calls k a1_2 a1_1 t821 t822 t825 t826 _ A4.out).mono ?_
 rintro e w14 ⟨v823, v827, rfl, ho0, ho1, hb⟩
 refine ⟨_, rfl, ?_⟩
 replace HO816 := vb HO816 hb; replace HO820 := vb HO820 hb; have HO824 := m0 (Kd.V_lower (Kd.V_mono (ok' := fun k_ => k_ ≠ gb810 ∧ k_ ≠ gb811 ∧ k_ ≠ gb812) ho0 (fun k_ hk_ => ⟨(Kd.freshB (g := gb810) (o := .cells #[.int .i64 a0_0, .int .i64 a0_1] 26 (0, 0)) (bk BK810.out) k_ hk_), (Kd.freshB (g := gb811) (o := .cells #[.int .i64 a1_0, .int .i64 a1_1, .int .i64 a1_2] 63 (0, 0)) (bk BK811.out) k_ hk_), (Kd.freshB (g := gb812) (o := .cells #[.int .i64 0, .int .i64 0] 26 (0, 0)) (bk BK812.out) k_ hk_)⟩)) (below_size bz)); have HO828 := m0 (Kd.V_lower (Kd.V_mono (ok' := fun k_ => k_ ≠ gb810 ∧ k_ ≠ gb811 ∧ k_ ≠ gb812) ho1 (fun k_ hk_ => ⟨(Kd.freshB (g := gb810) (o := .cells #[.int .i64 a0_0, .int .i64 a0_1] 26 (0, 0)) (bk BK810.out) k_ hk_), (Kd.freshB (g := gb811) (o := .cells #[.int .i64 a1_0, .int .i64 a1_1, .int .i64 a1_2] 63 (0, 0)) (bk BK811.out) k_ hk_), (Kd.freshB (g := gb812) (o := .cells #[.int .i64 0, .int .i64 0] 26 (0, 0)) (bk BK812.out) k_ hk_)⟩)) (below_size bz)); replace BK810 := bb BK810 hb; replace BK811 := bb BK811 hb; replace BK812 := bb BK812 hb; replace HB := sb HB hb
 (try clear hb)
 (try clear ho0)
 (try clear ho1)
 obtain ⟨Ao15, co15, eo15⟩ := Kd.V_slice HO816.out
 subst eo15
 obtain ⟨Ao16, co16, eo16⟩ := Kd.V_slice HO820.out
 subst eo16
 obtain ⟨Ao17, co17, eo17⟩ := Kd.V_slice HO824.out
 subst eo17
 obtain ⟨Ao18, co18, eo18⟩ := Kd.V_slice HO828.out
 subst eo18
 refine hK.out _ _ cz (fun hH => ?_)
 clear hK K
 refine norm_ (a' := ?_) ?_ ?_
 rotate_left
 ·show Act.put _ (some 12) _ = _
  exact pz
 refine oneZ 7 (some 13) (bs 17 1023) (one_of HT_.out (by kernel_rfl)) fun K hK => ?_
 refine gz Tryd.func114 #[.agg #[.int .i64 t813, .slice Ao15 t814.length co15, .int .i64 t817, .slice Ao16 t818.length co16], .agg #[.int .i64 t821, .slice Ao17 t822.length co17, .int .i64 t825, .slice Ao18 t826.length co18]] ?_
 with_reducible refine (Bs_RatioMul.calls k t813 _ _ t814 t817 _ _ t818 t821 _ _ t822 t825 _ _ t826 t829 t830 t833 t834 _ ?side1 ?side2 ?side3 ?side4 ?side5 ?side6 ?side7 ?side8 A5.out).mono ?_
 (case side1 => exact bc (Kd.V_reads' HO816.out).2.2)
 (case side2 => exact (Kd.V_reads' HO816.out).2.1)
 (case side3 => exact bc (Kd.V_reads' HO820.out).2.2)
 (case side4 => exact (Kd.V_reads' HO820.out).2.1)
 (case side5 => exact bc (Kd.V_reads' HO824.out).2.2)
 (case side6 => exact (Kd.V_reads' HO824.out).2.1)
 (case side7 => exact bc (Kd.V_reads' HO828.out).2.2)
 (case side8 => exact (Kd.V_reads' HO828.out).2.1)
 rintro e w19 ⟨v831, v835, rfl, ho0, ho1, hb⟩
 refine ⟨_, rfl, ?_⟩
 replace HO816 := vb HO816 hb; replace HO820 := vb HO820 hb; replace HO824 := vb HO824 hb; replace HO828 := vb HO828 hb; have HO832 := m0 (Kd.V_lower (Kd.V_mono (ok' := fun k_ => k_ ≠ gb810 ∧ k_ ≠ gb811 ∧ k_ ≠ gb812) ho0 (fun k_ hk_ => ⟨(Kd.freshB (g := gb810) (o := .cells #[.int .i64 a0_0, .int .i64 a0_1] 26 (0, 0)) (bk BK810.out) k_ hk_), (Kd.freshB (g := gb811) (o := .cells #[.int .i64 a1_0, .int .i64 a1_1, .int .i64 a1_2] 63 (0, 0)) (bk BK811.out) k_ hk_), (Kd.freshB (g := gb812) (o := .cells #[.int .i64 0, .int .i64 0] 26 (0, 0)) (bk BK812.out) k_ hk_)⟩)) (below_size bz)); have HO836 := m0 (Kd.V_lower (Kd.V_mono (ok' := fun k_ => k_ ≠ gb810 ∧ k_ ≠ gb811 ∧ k_ ≠ gb812) ho1 (fun k_ hk_ => ⟨(Kd.freshB (g := gb810) (o := .cells #[.int .i64 a0_0, .int .i64 a0_1] 26 (0, 0)) (bk BK810.out) k_ hk_), (Kd.freshB (g := gb811) (o := .cells #[.int .i64 a1_0, .int .i64 a1_1, .int .i64 a1_2] 63 (0, 0)) (bk BK811.out) k_ hk_), (Kd.freshB (g := gb812) (o := .cells #[.int .i64 0, .int .i64 0] 26 (0, 0)) (bk BK812.out) k_ hk_)⟩)) (below_size bz)); replace BK810 := bb BK810 hb; replace BK811 := bb BK811 hb; replace BK812 := bb BK812 hb; replace HB := sb HB hb
 (try clear hb)
 (try clear ho0)
 (try clear ho1)
 refine hK.out _ _ cz (fun hH => ?_)
 clear hK K
 refine norm_ (a' := ?_) ?_ ?_
 rotate_left
 ·show Act.put _ (some 13) _ = _
  exact pz
 refine oneZ 10 (some 16) (bs 17 2047) (one_of HT_.out (by kernel_rfl)) fun K hK => ?_
 refine gz Tryd.func117 #[.int .i64 a1_0] ?_
 with_reducible refine (Bs_RatioInt.calls k a1_0 t837 t838 t841 t842 _ A6.out).mono ?_
 rintro e w20 ⟨v839, v843, rfl, ho0, ho1, hb⟩
 refine ⟨_, rfl, ?_⟩
 replace HO816 := vb HO816 hb; replace HO820 := vb HO820 hb; replace HO824 := vb HO824 hb; replace HO828 := vb HO828 hb; replace HO832 := vb HO832 hb; replace HO836 := vb HO836 hb; have HO840 := m0 (Kd.V_lower (Kd.V_mono (ok' := fun k_ => k_ ≠ gb810 ∧ k_ ≠ gb811 ∧ k_ ≠ gb812) ho0 (fun k_ hk_ => ⟨(Kd.freshB (g := gb810) (o := .cells #[.int .i64 a0_0, .int .i64 a0_1] 26 (0, 0)) (bk BK810.out) k_ hk_), (Kd.freshB (g := gb811) (o := .cells #[.int .i64 a1_0, .int .i64 a1_1, .int .i64 a1_2] 63 (0, 0)) (bk BK811.out) k_ hk_), (Kd.freshB (g := gb812) (o := .cells #[.int .i64 0, .int .i64 0] 26 (0, 0)) (bk BK812.out) k_ hk_)⟩)) (below_size bz)); have HO844 := m0 (Kd.V_lower (Kd.V_mono (ok' := fun k_ => k_ ≠ gb810 ∧ k_ ≠ gb811 ∧ k_ ≠ gb812) ho1 (fun k_ hk_ => ⟨(Kd.freshB (g := gb810) (o := .cells #[.int .i64 a0_0, .int .i64 a0_1] 26 (0, 0)) (bk BK810.out) k_ hk_), (Kd.freshB (g := gb811) (o := .cells #[.int .i64 a1_0, .int .i64 a1_1, .int .i64 a1_2] 63 (0, 0)) (bk BK811.out) k_ hk_), (Kd.freshB (g := gb812) (o := .cells #[.int .i64 0, .int .i64 0] 26 (0, 0)) (bk BK812.out) k_ hk_)⟩)) (below_size bz)); replace BK810 := bb BK810 hb; replace BK811 := bb BK811 hb; replace BK812 := bb BK812 hb; replace HB := sb HB hb
 (try clear hb)
 (try clear ho0)
 (try clear ho1)
 obtain ⟨Ao21, co21, eo21⟩ := Kd.V_slice HO832.out
 subst eo21
 obtain ⟨Ao22, co22, eo22⟩ := Kd.V_slice HO836.out
 subst eo22
 obtain ⟨Ao23, co23, eo23⟩ := Kd.V_slice HO840.out
 subst eo23
 obtain ⟨Ao24, co24, eo24⟩ := Kd.V_slice HO844.out
 subst eo24
 refine hK.out _ _ cz (fun hH => ?_)
 clear hK K
 refine norm_ (a' := ?_) ?_ ?_
 rotate_left
 ·show Act.put _ (some 16) _ = _
  exact pz
 refine oneZ 11 (some 17) (bs 17 4095) (one_of HT_.out (by kernel_rfl)) fun K hK => ?_
 refine gz Tryd.func119 #[.agg #[.int .i64 t829, .slice Ao21 t830.length co21, .int .i64 t833, .slice Ao22 t834.length co22], .agg #[.int .i64 t837, .slice Ao23 t838.length co23, .int .i64 t841, .slice Ao24 t842.length co24]] ?_
 with_reducible refine (Bs_RatioAdd.calls k t829 _ _ t830 t833 _ _ t834 t837 _ _ t838 t841 _ _ t842 t845 t846 t849 t850 _ ?side1 ?side2 ?side3 ?side4 ?side5 ?side6 ?side7 ?side8 A7.out).mono ?_
 (case side1 => exact bc (Kd.V_reads' HO832.out).2.2)
 (case side2 => exact (Kd.V_reads' HO832.out).2.1)
 (case side3 => exact bc (Kd.V_reads' HO836.out).2.2)
 (case side4 => exact (Kd.V_reads' HO836.out).2.1)
 (case side5 => exact bc (Kd.V_reads' HO840.out).2.2)
 (case side6 => exact (Kd.V_reads' HO840.out).2.1)
 (case side7 => exact bc (Kd.V_reads' HO844.out).2.2)
 (case side8 => exact (Kd.V_reads' HO844.out).2.1)
 rintro e w25 ⟨v847, v851, rfl, ho0, ho1, hb⟩
 refine ⟨_, rfl, ?_⟩
 replace HO816 := vb HO816 hb; replace HO820 := vb HO820 hb; replace HO824 := vb HO824 hb; replace HO828 := vb HO828 hb; replace HO832 := vb HO832 hb; replace HO836 := vb HO836 hb; replace HO840 := vb HO840 hb; replace HO844 := vb HO844 hb; have HO848 := m0 (Kd.V_lower (Kd.V_mono (ok' := fun k_ => k_ ≠ gb810 ∧ k_ ≠ gb811 ∧ k_ ≠ gb812) ho0 (fun k_ hk_ => ⟨(Kd.freshB (g := gb810) (o := .cells #[.int .i64 a0_0, .int .i64 a0_1] 26 (0, 0)) (bk BK810.out) k_ hk_), (Kd.freshB (g := gb811) (o := .cells #[.int .i64 a1_0, .int .i64 a1_1, .int .i64 a1_2] 63 (0, 0)) (bk BK811.out) k_ hk_), (Kd.freshB (g := gb812) (o := .cells #[.int .i64 0, .int .i64 0] 26 (0, 0)) (bk BK812.out) k_ hk_)⟩)) (below_size bz)); have HO852 := m0 (Kd.V_lower (Kd.V_mono (ok' := fun k_ => k_ ≠ gb810 ∧ k_ ≠ gb811 ∧ k_ ≠ gb812) ho1 (fun k_ hk_ => ⟨(Kd.freshB (g := gb810) (o := .cells #[.int .i64 a0_0, .int .i64 a0_1] 26 (0, 0)) (bk BK810.out) k_ hk_), (Kd.freshB (g := gb811) (o := .cells #[.int .i64 a1_0, .int .i64 a1_1, .int .i64 a1_2] 63 (0, 0)) (bk BK811.out) k_ hk_), (Kd.freshB (g := gb812) (o := .cells #[.int .i64 0, .int .i64 0] 26 (0, 0)) (bk BK812.out) k_ hk_)⟩)) (below_size bz)); replace BK810 := bb BK810 hb; replace BK811 := bb BK811 hb; replace BK812 := bb BK812 hb; replace HB := sb HB hb
 (try clear hb)
 (try clear ho0)
 (try clear ho1)
 obtain ⟨Ao26, co26, eo26⟩ := Kd.V_slice HO848.out
 subst eo26
 obtain ⟨Ao27, co27, eo27⟩ := Kd.V_slice HO852.out
 subst eo27
 refine hK.out _ _ cz (fun hH => ?_)
 clear hK K
 refine norm_ (a' := ?_) ?_ ?_
 rotate_left
 ·show Act.put _ (some 17) _ = _
  exact pz
 refine oneZ 12 (some 18) (bs 17 8191) (one_of HT_.out (by kernel_rfl)) fun K hK => ?_
 refine gz Tryd.func113 #[.agg #[.int .i64 t845, .slice Ao26 t846.length co26, .int .i64 t849, .slice Ao27 t850.length co27]] ?_
 with_reducible refine (Bs_RatioFrac.calls k t845 _ _ t846 t849 _ _ t850 t853 t854 t855 _ ?side1 ?side2 ?side3 ?side4 A8.out).mono ?_
 (case side1 => exact bc (Kd.V_reads' HO848.out).2.2)
 (case side2 => exact (Kd.V_reads' HO848.out).2.1)
 (case side3 => exact bc (Kd.V_reads' HO852.out).2.2)
 (case side4 => exact (Kd.V_reads' HO852.out).2.1)
 rintro e w28 ⟨rfl, hb⟩
 refine ⟨_, rfl, ?_⟩
 replace HO816 := vb HO816 hb; replace HO820 := vb HO820 hb; replace HO824 := vb HO824 hb; replace HO828 := vb HO828 hb; replace HO832 := vb HO832 hb; replace HO836 := vb HO836 hb; replace HO840 := vb HO840 hb; replace HO844 := vb HO844 hb; replace HO848 := vb HO848 hb; replace HO852 := vb HO852 hb; replace BK810 := bb BK810 hb; replace BK811 := bb BK811 hb; replace BK812 := bb BK812 hb; replace HB := sb HB hb
 (try clear hb)
 refine hK.out _ _ cz (fun hH => ?_)
 clear hK K
 refine norm_ (a' := ?_) ?_ ?_
 rotate_left
 ·show Act.put _ (some 18) _ = _
  exact pz
 refine pZ 13 (some 19) (bs 17 16383) HT_ ?_
 refine pZ 14 (some 20) (bs 17 32767) HT_ ?_
 refine oneZ 15 (none) (bs 17 65535) (one_of HT_.out (by kernel_rfl)) fun K hK => ?_
 have hs29 : w28.cell? ⟨gb812, 0, none⟩ = some (.int .i64 0) := (blk_cell BK812.out 0).trans rfl
 have hfs29 := blk_frozen BK812.out 0
 have hs30 : w28.cell? ⟨gb812, 1, none⟩ = some (.int .i64 0) := (blk_cell BK812.out 1).trans rfl
 have hfs30 := blk_frozen BK812.out 1
 refine skip_ (w1 := ?_) (by rfl) rfl ?_ ?_
 rotate_left
 ·go_simp
  rfl
 refine hK.out _ _ (cf hH) (fun hH => ?_)
 clear hK K
 refine pZ 16 (some 5) (bs 17 131071) HT_ ?_
 refine done_ (done_of HT_.out (by kernel_rfl)) ?_
 try go_wp2
 refine bodyPost_ret (results_ct rfl _ _ gb812 26 #[.int .i64 t853, .int .i64 t854] (0, 0) _ rfl (bq BK812.out) Tryd.underlying26 rfl (by kernel_rfl)) rfl ?_
 exact ez
end
end Go.Proofs.YtjnkphmcndaijaaDoor.A
