/- Walks of the program's functions (printed, made shorter), each with what it computes. -/
import Derived.Test.YtjnkphmcndaijaaDoorSpd04
import Derived.Test.YtjnkphmcndaijaaDoorSpd14
import Derived.Test.YtjnkphmcndaijaaDoorSpd16
import Derived.Test.YtjnkphmcndaijaaDoorSpd15
import Derived.Test.YtjnkphmcndaijaaDoorSpd03
namespace Go.Proofs.YtjnkphmcndaijaaDoor.A
set_option maxHeartbeats 8000000
set_option maxRecDepth 100000
open Go.RowKit Go.Proofs.YtjnkphmcndaijaaDoorW.PrintWords Go.Proofs.YtjnkphmcndaijaaDoorW.PrintLast Go.Proofs.YtjnkphmcndaijaaDoorW.PrintMore
attribute [local go_sem] max2_int min2_int max_two min_two max_three min_three max_four min_four
set_option linter.unusedVariables false
set_option linter.unusedSimpArgs false
section
def Bs_wideGcd.l0 : Nat → Int → List Int → Int → List Int → Option (Int × List Int)
 | 0, _, _, _, _ => none
 | k + 1, x605000, x605001, x606000, x606001 => (Bs_WideSign.f x606000 x606001).bind fun t615 => (if t615 = 0 then (some (x605000, x605001)) else ((Bs_WideFloor.f k x605000 x605001 x606000 x606001).bind fun bt616 => ((Bs_WideMul.f k bt616.1 bt616.2 x606000 x606001).bind fun bt620 => ((Bs_WideSub.f k x605000 x605001 bt620.1 bt620.2).bind fun bt624 => (Bs_wideGcd.l0 k x606000 x606001 bt624.1 bt624.2)))))
def Bs_wideGcd.f (k : Nat) (a0_0 : Int) (l0_1 : List Int) (a1_0 : Int) (l1_1 : List Int) : Option (Int × List Int) := (Bs_wideSize.f a0_0 l0_1).bind fun bt607 => ((Bs_wideSize.f a1_0 l1_1).bind fun bt611 => (Bs_wideGcd.l0 k bt607.1 bt607.2 bt611.1 bt611.2))
theorem Bs_wideGcd.mono_l : ∀ k, (∀ y0 y1 y2 y3, LeO (Bs_wideGcd.l0 k y0 y1 y2 y3) (Bs_wideGcd.l0 (k + 1) y0 y1 y2 y3))
 | 0 => fun _ _ _ _ r h => by simp [Bs_wideGcd.l0] at h
 | k + 1 => by
  have ih0 := Bs_wideGcd.mono_l k
  ·intro y0 y1 y2 y3
   unfold Bs_wideGcd.l0
   repeat' with_reducible first
    | exact ih0 ..
    | exact Bs_WideFloor.mono ..
    | exact Bs_WideMul.mono ..
    | exact Bs_WideSub.mono ..
    | exact LeO.refl ..
    | exact LeO.none ..
    | refine LeO.ite ?_ ?_
    | refine LeO.bind ?_ (fun _ => ?_)
theorem Bs_wideGcd.mono : ∀ a0 a1 a2 a3 k, LeO (Bs_wideGcd.f k a0 a1 a2 a3) (Bs_wideGcd.f (k + 1) a0 a1 a2 a3) := by
 intro a0 a1 a2 a3 k
 have ih0 := Bs_wideGcd.mono_l k
 unfold Bs_wideGcd.f
 repeat' with_reducible first
  | exact ih0 ..
  | exact Bs_WideFloor.mono ..
  | exact Bs_WideMul.mono ..
  | exact Bs_WideSub.mono ..
  | exact LeO.refl ..
  | exact LeO.none ..
  | refine LeO.ite ?_ ?_
  | refine LeO.bind ?_ (fun _ => ?_)
def Bs_wideGcd.T3 : Bool × List (List Nat × List Nat) := (true, [([], []), ([], []), ([], []), ([1, 2], [1, 2]), ([], []), ([3, 4, 3], [3, 4]), ([0, 5, 5], [0, 5]), ([], []), ([7, 6, 6, 0, 1, 2, 3, 4, 5, 6, 7], [6, 7])])
def Bs_wideGcd.B3 : List Nat := [0, 0, 0, 6, 0, 30, 63, 0, 255]
theorem Bs_wideGcd.tab3 : rtab .any (opsOf Tryd.f147 3) = Bs_wideGcd.T3 := by kernel_rfl
theorem Bs_wideGcd.bits3 : waitsOk Bs_wideGcd.T3.2 Bs_wideGcd.B3 = true := by kernel_rfl
theorem Bs_wideGcd.calls (k : Nat) (a0_0 : Int) (P0_1_ : Nat → Prop) (A0_1 : Option Addr) (c0_1 : Nat) (l0_1 : List Int) (a1_0 : Int) (P1_1_ : Nat → Prop) (A1_1 : Option Addr) (c1_1 : Nat) (l1_1 : List Int) (r1 : Int) (r2 : List Int) (w : World) (hs0_1 : Kd.V (Kd.int .i64) 3 w w.heap.size (fun k_ => P0_1_ k_) (.slice A0_1 l0_1.length c0_1) l0_1) (hs1_1 : Kd.V (Kd.int .i64) 3 w w.heap.size (fun k_ => P1_1_ k_) (.slice A1_1 l1_1.length c1_1) l1_1) (h : Bs_wideGcd.f k a0_0 l0_1 a1_0 l1_1 = some (r1, r2)) :
  Calls Tryd.prog 147 #[.agg #[.int .i64 a0_0, .slice A0_1 l0_1.length c0_1], .agg #[.int .i64 a1_0, .slice A1_1 l1_1.length c1_1]] w fun e w' => ∃ v1_ : Value, e = .returned (.agg #[.int .i64 r1, v1_]) ∧ Kd.V (Kd.int .i64) 3 w' w.heap.size (fun k_ => ((P0_1_ k_ ∨ P1_1_ k_) ∨ w.heap.size ≤ k_)) v1_ r2 ∧ Below w.heap.size w w' := by
 have hu135 := Tryd.underlying135
 have HO0_1 := m0 (show Kd.V (Kd.int .i64) 3 w w.heap.size (fun k_ => ((P0_1_ k_ ∨ P1_1_ k_) ∨ w.heap.size ≤ k_)) (.slice A0_1 l0_1.length c0_1) l0_1 from Kd.V_mono hs0_1 (fun k_ hk => .inl (.inl hk)))
 have HO1_1 := m0 (show Kd.V (Kd.int .i64) 3 w w.heap.size (fun k_ => ((P0_1_ k_ ∨ P1_1_ k_) ∨ w.heap.size ≤ k_)) (.slice A1_1 l1_1.length c1_1) l1_1 from Kd.V_mono hs1_1 (fun k_ hk => .inl (.inr hk)))
 have HB := m0 (Below.refl w.heap.size w)
 have H : ((Bs_wideSize.f a0_0 l0_1).bind fun bt607 => ((Bs_wideSize.f a1_0 l1_1).bind fun bt611 => (Bs_wideGcd.l0 k bt607.1 bt607.2 bt611.1 bt611.2))) = some (r1, r2) := h
 clear h
 replace H := ob H
 obtain ⟨⟨t607, t608⟩, A3, H⟩ := H
 (try dsimp only at H)
 replace A3 := m0 A3
 replace H := ob H
 obtain ⟨⟨t611, t612⟩, A4, H⟩ := H
 (try dsimp only at H)
 replace A4 := m0 A4
 have H' := m0 H
 clear H
 go_enter Tryd.func147, Tryd.ntmps147
 try go_wp2_with (first | ((with_reducible refine gate_dst (N := 2) rfl ?_); refine be 2 135 #[.int .i64 a0_0, .slice A0_1 l0_1.length c0_1] ?_; intro gb604 hg w5 hbox hb; replace HO0_1 := ve HO0_1 hg hb; replace HO1_1 := ve HO1_1 hg hb; have BK604 := m0 hbox; have GE604 := gw w hg; replace HB := sb HB hb; clear hb hbox hg) | ((with_reducible refine gate_dst (N := 3) rfl ?_); refine be 3 135 #[.int .i64 a1_0, .slice A1_1 l1_1.length c1_1] ?_; intro gb605 hg w6 hbox hb; replace HO0_1 := ve HO0_1 hg hb; replace HO1_1 := ve HO1_1 hg hb; have BK605 := m0 hbox; have GE605 := gw w hg; replace HB := sb HB hb; have NB604_605 := nl BK604 hg; have NB605_604 := ng (nl BK604 hg); replace BK604 := bb BK604 hb; clear hb hbox hg) | ((with_reducible refine gate_dst (N := 4) rfl ?_); refine be 4 135 #[.int .i64 0, .slice none 0 0] ?_; intro gb606 hg w7 hbox hb; replace HO0_1 := ve HO0_1 hg hb; replace HO1_1 := ve HO1_1 hg hb; have BK606 := m0 hbox; have GE606 := gw w hg; replace HB := sb HB hb; have NB604_606 := nl BK604 hg; have NB606_604 := ng (nl BK604 hg); replace BK604 := bb BK604 hb; have NB605_606 := nl BK605 hg; have NB606_605 := ng (nl BK605 hg); replace BK605 := bb BK605 hb; clear hb hbox hg))
 replace HO0_1 := m0 (Kd.V_drew HO0_1.out); replace HO1_1 := m0 (Kd.V_drew HO1_1.out); replace BK604 := bd BK604; replace BK605 := bd BK605; replace BK606 := bd BK606; replace HB := sd HB
 refine start_ (n := 6) (S := fun w' => w'.cell? ⟨gb604, 0, none⟩ = some (.int .i64 a0_0) ∧ w'.cell? ⟨gb604, 1, none⟩ = some (.slice A0_1 l0_1.length c0_1) ∧ w'.cell? ⟨gb605, 0, none⟩ = some (.int .i64 a1_0) ∧ w'.cell? ⟨gb605, 1, none⟩ = some (.slice A1_1 l1_1.length c1_1)) (ds := [4, 5]) #[false, false, false, false, false, false] (by kernel_rfl) rfl rfl cz (fun hH => ?_)
 generalize w7.drew = w8 at HO0_1 HO1_1 BK604 BK605 BK606 HB hH ⊢
 refine takeZ 0 (some 6) #[true, false, false, false, false, false] (by kernel_rfl) hH ?_
 refine takeZ 2 (some 8) #[true, false, true, false, false, false] (by kernel_rfl) hH ?_
 refine oneZ 1 (some 7) #[true, true, true, false, false, false] (by kernel_rfl) fun K hK => ?_
 refine gz Tryd.func165 #[.agg #[.int .i64 a0_0, .slice A0_1 l0_1.length c0_1]] ?_
 with_reducible refine (Bs_wideSize.calls a0_0 (fun k_ => (((((P0_1_ k_ ∨ P1_1_ k_) ∨ w.heap.size ≤ k_) ∧ k_ ≠ gb604) ∧ k_ ≠ gb605) ∧ k_ ≠ gb606)) _ _ l0_1 t607 t608 _ ?side1 A3.out).mono ?_
 (case side1 => exact HO0_1.out)
 rintro e w9 ⟨v609, rfl, ho0, hb⟩
 refine ⟨_, rfl, ?_⟩
 replace HO0_1 := vb HO0_1 hb; replace HO1_1 := vb HO1_1 hb; have HO610 := m0 (Kd.V_lower (Kd.V_mono (ok' := fun k_ => ((P0_1_ k_ ∨ P1_1_ k_) ∨ w.heap.size ≤ k_) ∧ k_ ≠ gb604 ∧ k_ ≠ gb605 ∧ k_ ≠ gb606) ho0 (fun k_ hk_ => ⟨Or.elim hk_ (fun hs_ => hs_.1.1.1) (fun hn_ => (.inr (Nat.le_trans (below_size bz) hn_))), Or.elim hk_ (fun hs_ => hs_.1.1.2) (fun hn_ => (Kd.freshB (g := gb604) (o := .cells #[.int .i64 a0_0, .slice A0_1 l0_1.length c0_1] 135 (0, 0)) (bk BK604.out) k_ hn_)), Or.elim hk_ (fun hs_ => hs_.1.2) (fun hn_ => (Kd.freshB (g := gb605) (o := .cells #[.int .i64 a1_0, .slice A1_1 l1_1.length c1_1] 135 (0, 0)) (bk BK605.out) k_ hn_)), Or.elim hk_ (fun hs_ => hs_.2) (fun hn_ => (Kd.freshB (g := gb606) (o := .cells #[.int .i64 0, .slice none 0 0] 135 (0, 0)) (bk BK606.out) k_ hn_))⟩)) (below_size bz)); replace BK604 := bb BK604 hb; replace BK605 := bb BK605 hb; replace BK606 := bb BK606 hb; replace HB := sb HB hb
 (try clear hb)
 (try clear ho0)
 refine hK.out _ _ cz (fun hH => ?_)
 clear hK K
 refine norm_ (a' := ?_) ?_ ?_
 rotate_left
 ·show Act.put _ (some 7) _ = _
  exact pz
 refine oneZ 3 (some 9) #[true, true, true, true, false, false] (by kernel_rfl) fun K hK => ?_
 refine gz Tryd.func165 #[.agg #[.int .i64 a1_0, .slice A1_1 l1_1.length c1_1]] ?_
 with_reducible refine (Bs_wideSize.calls a1_0 (fun k_ => (((((P0_1_ k_ ∨ P1_1_ k_) ∨ w.heap.size ≤ k_) ∧ k_ ≠ gb604) ∧ k_ ≠ gb605) ∧ k_ ≠ gb606)) _ _ l1_1 t611 t612 _ ?side1 A4.out).mono ?_
 (case side1 => exact HO1_1.out)
 rintro e w10 ⟨v613, rfl, ho0, hb⟩
 refine ⟨_, rfl, ?_⟩
 replace HO0_1 := vb HO0_1 hb; replace HO1_1 := vb HO1_1 hb; replace HO610 := vb HO610 hb; have HO614 := m0 (Kd.V_lower (Kd.V_mono (ok' := fun k_ => ((P0_1_ k_ ∨ P1_1_ k_) ∨ w.heap.size ≤ k_) ∧ k_ ≠ gb604 ∧ k_ ≠ gb605 ∧ k_ ≠ gb606) ho0 (fun k_ hk_ => ⟨Or.elim hk_ (fun hs_ => hs_.1.1.1) (fun hn_ => (.inr (Nat.le_trans (below_size bz) hn_))), Or.elim hk_ (fun hs_ => hs_.1.1.2) (fun hn_ => (Kd.freshB (g := gb604) (o := .cells #[.int .i64 a0_0, .slice A0_1 l0_1.length c0_1] 135 (0, 0)) (bk BK604.out) k_ hn_)), Or.elim hk_ (fun hs_ => hs_.1.2) (fun hn_ => (Kd.freshB (g := gb605) (o := .cells #[.int .i64 a1_0, .slice A1_1 l1_1.length c1_1] 135 (0, 0)) (bk BK605.out) k_ hn_)), Or.elim hk_ (fun hs_ => hs_.2) (fun hn_ => (Kd.freshB (g := gb606) (o := .cells #[.int .i64 0, .slice none 0 0] 135 (0, 0)) (bk BK606.out) k_ hn_))⟩)) (below_size bz)); replace BK604 := bb BK604 hb; replace BK605 := bb BK605 hb; replace BK606 := bb BK606 hb; replace HB := sb HB hb
 (try clear hb)
 (try clear ho0)
 obtain ⟨Ao12, co12, eo12⟩ := Kd.V_slice HO610.out
 (first | subst eo12 | (injection eo12 with f1_ f2_ f3_; have f4_ := f1_.symm; have f5_ := f3_.symm; clear f1_ f2_ f3_; subst f4_; subst f5_))
 obtain ⟨Ao15, co15, eo15⟩ := Kd.V_slice HO614.out
 (first | subst eo15 | (injection eo15 with f1_ f2_ f3_; have f4_ := f1_.symm; have f5_ := f3_.symm; clear f1_ f2_ f3_; subst f4_; subst f5_))
 refine hK.out _ _ cz (fun hH => ?_)
 clear hK K
 refine norm_ (a' := ?_) ?_ ?_
 rotate_left
 ·show Act.put _ (some 9) _ = _
  exact pz
 refine last_ (i := 4) (N := none) #[true, true, true, true, true, false] rfl rfl (by kernel_rfl) (by decide) (fun K hK => ?_)
 have hs11 : w10.cell? ⟨gb604, 0, none⟩ = some (.int .i64 a0_0) := (blk_cell BK604.out 0).trans rfl
 have hfs11 := blk_frozen BK604.out 0
 have hns11_1 := NB605_604.out
 have hms11_1 := NB604_605.out
 have hs13 : w10.cell? ⟨gb604, 1, none⟩ = some (.slice A0_1 l0_1.length c0_1) := (blk_cell BK604.out 1).trans rfl
 have hfs13 := blk_frozen BK604.out 1
 have hns13_1 := NB605_604.out
 have hms13_1 := NB604_605.out
 refine skip_ (w1 := ?_) (by rfl) rfl ?_ ?_
 rotate_left
 ·go_simp
  rfl
 refine hK.out _ _ ?_
 clear hK K
 refine last_ (i := 5) (N := none) #[true, true, true, true, true, true] rfl rfl (by kernel_rfl) (by decide) (fun K hK => ?_)
 have hs14 : w10.cell? ⟨gb605, 0, none⟩ = some (.int .i64 a1_0) := (blk_cell BK605.out 0).trans rfl
 have hfs14 := blk_frozen BK605.out 0
 have hns14_0 := NB604_605.out
 have hms14_0 := NB605_604.out
 have hs16 : w10.cell? ⟨gb605, 1, none⟩ = some (.slice A1_1 l1_1.length c1_1) := (blk_cell BK605.out 1).trans rfl
 have hfs16 := blk_frozen BK605.out 1
 have hns16_0 := NB604_605.out
 have hms16_0 := NB605_604.out
 refine skip_ (w1 := ?_) (by rfl) rfl ?_ ?_
 rotate_left
 ·go_simp
  rfl
 refine hK.out _ _ ?_
 clear hK K
 refine done_ (by kernel_rfl) ?_
 try go_wp2
 go_loopg [] k (fun kq w' => ∃ (x605000_1 : Int) (x605001_1 : List Int) (x606000_1 : Int) (x606001_1 : List Int) (u605001 : Value) (u606001 : Value), Aside0 (Bs_wideGcd.l0 kq x605000_1 x605001_1 x606000_1 x606001_1 = some (r1, r2)) ∧ Aside0 (kq ≤ k) ∧ Aside0 (Kd.V (Kd.int .i64) 3 w' w.heap.size (fun k_ => ((P0_1_ k_ ∨ P1_1_ k_) ∨ w.heap.size ≤ k_) ∧ k_ ≠ gb604 ∧ k_ ≠ gb605 ∧ k_ ≠ gb606) u605001 x605001_1) ∧ Aside0 (Kd.V (Kd.int .i64) 3 w' w.heap.size (fun k_ => ((P0_1_ k_ ∨ P1_1_ k_) ∨ w.heap.size ≤ k_) ∧ k_ ≠ gb604 ∧ k_ ≠ gb605 ∧ k_ ≠ gb606) u606001 x606001_1) ∧ Aside0 (w'.heap[gb604]? = some (.cells #[.int .i64 x605000_1, u605001] 135 (0, 0))) ∧ Aside0 (w'.heap[gb605]? = some (.cells #[.int .i64 x606000_1, u606001] 135 (0, 0))) ∧ Aside0 (w'.heap[gb606]? = some (.cells #[.int .i64 0, (.slice none 0 0)] 135 (0, 0))) ∧ Aside0 (Below w.heap.size w w'))
 case atStart => exact ⟨(t607), (t608), (t611), (t612), (.slice Ao12 t608.length co12), (.slice Ao15 t612.length co15), H', ⟨Nat.le_refl _⟩, ⟨by (with_reducible repeat (first | apply Kd.V_alloc | apply Kd.V_drewN | apply Kd.V_drew)); exact Kd.V_mono (Kd.V_far (p := ⟨gb605, 1, none⟩) (Kd.V_far (p := ⟨gb605, 0, none⟩) (Kd.V_far (p := ⟨gb604, 1, none⟩) (Kd.V_far (p := ⟨gb604, 0, none⟩) (Kd.V_mono (Kd.V_mono HO610.out (fun k_ hk => (⟨hk, hk.2.1⟩ : _ ∧ k_ ≠ gb604))) (fun k_ hk => (⟨hk, hk.1.2.2.1⟩ : _ ∧ k_ ≠ gb605))) (fun _ hk => hk.1.2) (.int .i64 t607)) (fun _ hk => hk.1.2) (.slice Ao12 t608.length co12)) (fun _ hk => hk.2) (.int .i64 t611)) (fun _ hk => hk.2) (.slice Ao15 t612.length co15)) (fun _ hk => ⟨hk.1.1.1, ⟨hk.1.1.2.1, ⟨hk.1.1.2.2.1, hk.1.1.2.2.2⟩⟩⟩)⟩, ⟨by (with_reducible repeat (first | apply Kd.V_alloc | apply Kd.V_drewN | apply Kd.V_drew)); exact Kd.V_mono (Kd.V_far (p := ⟨gb605, 1, none⟩) (Kd.V_far (p := ⟨gb605, 0, none⟩) (Kd.V_far (p := ⟨gb604, 1, none⟩) (Kd.V_far (p := ⟨gb604, 0, none⟩) (Kd.V_mono (Kd.V_mono HO614.out (fun k_ hk => (⟨hk, hk.2.1⟩ : _ ∧ k_ ≠ gb604))) (fun k_ hk => (⟨hk, hk.1.2.2.1⟩ : _ ∧ k_ ≠ gb605))) (fun _ hk => hk.1.2) (.int .i64 t607)) (fun _ hk => hk.1.2) (.slice Ao12 t608.length co12)) (fun _ hk => hk.2) (.int .i64 t611)) (fun _ hk => hk.2) (.slice Ao15 t612.length co15)) (fun _ hk => ⟨hk.1.1.1, ⟨hk.1.1.2.1, ⟨hk.1.1.2.2.1, hk.1.1.2.2.2⟩⟩⟩)⟩, ⟨by (with_reducible repeat (first | refine blk_drewN ?_ _ | refine blk_drew ?_ | refine blk_alloc ?_ _)); refine blk_far ?_ NB604_605.out _; (with_reducible repeat (first | refine blk_drewN ?_ _ | refine blk_drew ?_ | refine blk_alloc ?_ _)); refine blk_far ?_ NB604_605.out _; (with_reducible repeat (first | refine blk_drewN ?_ _ | refine blk_drew ?_ | refine blk_alloc ?_ _)); refine blk_put (cs := #[.int .i64 t607, .slice A0_1 l0_1.length c0_1]) ?_ 1 _ rfl; (with_reducible repeat (first | refine blk_drewN ?_ _ | refine blk_drew ?_ | refine blk_alloc ?_ _)); refine blk_put (cs := #[.int .i64 a0_0, .slice A0_1 l0_1.length c0_1]) ?_ 0 _ rfl; (with_reducible repeat (first | refine blk_drewN ?_ _ | refine blk_drew ?_ | refine blk_alloc ?_ _)); exact BK604.out⟩, ⟨by (with_reducible repeat (first | refine blk_drewN ?_ _ | refine blk_drew ?_ | refine blk_alloc ?_ _)); refine blk_put (cs := #[.int .i64 t611, .slice A1_1 l1_1.length c1_1]) ?_ 1 _ rfl; (with_reducible repeat (first | refine blk_drewN ?_ _ | refine blk_drew ?_ | refine blk_alloc ?_ _)); refine blk_put (cs := #[.int .i64 a1_0, .slice A1_1 l1_1.length c1_1]) ?_ 0 _ rfl; (with_reducible repeat (first | refine blk_drewN ?_ _ | refine blk_drew ?_ | refine blk_alloc ?_ _)); refine blk_far ?_ NB605_604.out _; (with_reducible repeat (first | refine blk_drewN ?_ _ | refine blk_drew ?_ | refine blk_alloc ?_ _)); refine blk_far ?_ NB605_604.out _; (with_reducible repeat (first | refine blk_drewN ?_ _ | refine blk_drew ?_ | refine blk_alloc ?_ _)); exact BK605.out⟩, ⟨bq BK606.out⟩, ⟨bz⟩⟩
 case round =>
  clear H'
  obtain ⟨x605000_1, x605001_1, x606000_1, x606001_1, u605001, u606001, HA, HK1, HO_605001, HO_606001, BK604, BK605, BK606, HB⟩ := hrel
  cases gk with
  | zero => exact absurd HA.out (by simp [Bs_wideGcd.l0])
  | succ k1 =>
   have H := HA.out
   clear HA
   simp only [Bs_wideGcd.l0] at H
   replace H := ob H
   obtain ⟨t615, A17, H⟩ := H
   (try dsimp only at H)
   replace A17 := m0 A17
   by_cases c18 : t615 = 0
   ·rw [if_pos c18] at H
    have c18b0 := beq_iff_eq.mpr c18
    have c18b1 := bne_eq_false_iff_eq.mpr c18
    clear c18
    simp only [Option.some.injEq, Prod.mk.injEq] at H
    obtain ⟨rfl, rfl⟩ := H
    have hnb19 := NB605_604.out
    have hnc19 := NB604_605.out
    have hnb20 := NB605_606.out
    have hnc20 := NB606_605.out
    obtain ⟨_, _, _, _⟩ := b2 BK605
    obtain ⟨Ao22, co22, eo22⟩ := Kd.V_slice HO_606001.out
    subst eo22
    go_wp2_with (first | ((with_reducible refine gate_callee (f := 145) rfl ?_); refine gl (some 11) Tryd.func145 #[.agg #[.int .i64 x606000_1, .slice Ao22 x606001_1.length co22]] ?_; (with_reducible refine (Bs_WideSign.calls x606000_1 _ _ x606001_1 t615 _ ?side1 ?side2 A17.out).mono ?_); (case side1 => exact bc (Kd.V_reads' HO_606001.out).2.2); (case side2 => exact (Kd.V_reads' HO_606001.out).2.1); rintro e w23 ⟨rfl, hb⟩; refine ⟨_, rfl, ?_⟩; replace HO_605001 := vb HO_605001 hb; replace HO_606001 := vb HO_606001 hb; replace BK604 := bb BK604 hb; replace BK605 := bb BK605 hb; replace BK606 := bb BK606 hb; replace HB := sb HB hb; (try clear hb); have hnb24 := NB604_606.out; have hnc24 := NB606_604.out; obtain ⟨_, _, _, _⟩ := b2 BK604; obtain ⟨_, _, _, _⟩ := b2 BK606; obtain ⟨Ao27, co27, eo27⟩ := Kd.V_slice HO_605001.out; subst eo27))
    refine bodyPost_ret (results_cell_row rfl _ _ gb606 135 #[.int .i64 x605000_1, .slice Ao27 x605001_1.length co27] (0, 0) _ rfl (bq BK606.out) Tryd.underlying135 rfl (by kernel_rfl)) rfl ?_
    exact ⟨_, by first | rfl | (simp [errW_none, errW_some] <;> rfl) | (simp [*, errW_none, errW_some] <;> rfl), by (with_reducible repeat (first | apply Kd.V_alloc | apply Kd.V_drewN | apply Kd.V_drew)); exact Kd.V_mono (Kd.V_far (p := ⟨gb606, 1, none⟩) (Kd.V_far (p := ⟨gb606, 0, none⟩) (Kd.V_mono HO_605001.out (fun k_ hk => (⟨hk, hk.2.2.2⟩ : _ ∧ k_ ≠ gb606))) (fun _ hk => hk.2) (.int .i64 x605000_1)) (fun _ hk => hk.2) (.slice Ao27 x605001_1.length co27)) (fun _ hk => hk.1.1), by repeat (first | (with_reducible first | exact HB.out | apply below_alloc | apply pw_below_drewN | apply below_drew1 | refine below_set ?_ GE604.out | refine below_set ?_ GE605.out | refine below_set ?_ GE606.out) | exact HB.out)⟩
   ·rw [if_neg c18] at H
    have c18b0 := beq_eq_false_iff_ne.mpr c18
    have c18b1 := bne_iff_ne.mpr c18
    replace H := ob H
    obtain ⟨⟨t616, t617⟩, A28, H⟩ := H
    (try dsimp only at H)
    replace A28 := m0 A28
    replace H := ob H
    obtain ⟨⟨t620, t621⟩, A29, H⟩ := H
    (try dsimp only at H)
    replace A29 := m0 A29
    replace H := ob H
    obtain ⟨⟨t624, t625⟩, A30, H⟩ := H
    (try dsimp only at H)
    replace A30 := m0 A30
    have H' := m0 H
    clear H
    have hnb31 := NB605_604.out
    have hnc31 := NB604_605.out
    have hnb32 := NB605_606.out
    have hnc32 := NB606_605.out
    obtain ⟨_, _, _, _⟩ := b2 BK605
    obtain ⟨Ao34, co34, eo34⟩ := Kd.V_slice HO_606001.out
    subst eo34
    try go_wp2_with (first | ((with_reducible refine gate_callee (f := 145) rfl ?_); refine gl (some 11) Tryd.func145 #[.agg #[.int .i64 x606000_1, .slice Ao34 x606001_1.length co34]] ?_; (with_reducible refine (Bs_WideSign.calls x606000_1 _ _ x606001_1 t615 _ ?side1 ?side2 A17.out).mono ?_); (case side1 => exact bc (Kd.V_reads' HO_606001.out).2.2); (case side2 => exact (Kd.V_reads' HO_606001.out).2.1); rintro e w35 ⟨rfl, hb⟩; refine ⟨_, rfl, ?_⟩; replace HO_605001 := vb HO_605001 hb; replace HO_606001 := vb HO_606001 hb; replace BK604 := bb BK604 hb; replace BK605 := bb BK605 hb; replace BK606 := bb BK606 hb; replace HB := sb HB hb; (try clear hb); obtain ⟨Ao36, co36, eo36⟩ := Kd.V_slice HO_605001.out; subst eo36))
    replace HO_605001 := m0 (Kd.V_drew HO_605001.out); replace HO_606001 := m0 (Kd.V_drew HO_606001.out); replace BK604 := bd BK604; replace BK605 := bd BK605; replace BK606 := bd BK606; replace HB := sd HB
    refine start_ (n := 9) (S := fun w' => w'.cell? ⟨gb604, 0, none⟩ = some (.int .i64 x605000_1) ∧ w'.cell? ⟨gb604, 1, none⟩ = some (.slice Ao36 x605001_1.length co36) ∧ w'.cell? ⟨gb605, 0, none⟩ = some (.int .i64 x606000_1) ∧ w'.cell? ⟨gb605, 1, none⟩ = some (.slice Ao34 x606001_1.length co34)) (ds := []) #[false, false, false, false, false, false, false, false, false] (by kernel_rfl) rfl rfl cz (fun hH => ?_); refine with_tabW Bs_wideGcd.tab3 Bs_wideGcd.bits3 (fun HT_ HW_ => ?_)
    generalize w35.drew = w37 at HO_605001 HO_606001 BK604 BK605 BK606 HB hH ⊢
    refine takeZ 0 (some 13) #[true, false, false, false, false, false, false, false, false] (take_ofW HT_.out HW_.out (by kernel_rfl)) hH ?_
    refine takeZ 1 (some 14) #[true, true, false, false, false, false, false, false, false] (take_ofW HT_.out HW_.out (by kernel_rfl)) hH ?_
    refine takeZ 2 (some 15) #[true, true, true, false, false, false, false, false, false] (take_ofW HT_.out HW_.out (by kernel_rfl)) hH ?_
    refine takeZ 4 (some 17) #[true, true, true, false, true, false, false, false, false] (take_ofW HT_.out HW_.out (by kernel_rfl)) hH ?_
    refine join_ (σ := Value × Value × Value × Nat) 1 #[true, true, true, true, true, true, true, true, false] (fun s_ => [(16, .agg #[.int .i64 t616, s_.1]), (18, .agg #[.int .i64 t620, s_.2.1]), (19, .agg #[.int .i64 t624, s_.2.2.1]), (5, .pointer (some ⟨s_.2.2.2, 0, none⟩))]) (fun s_ w' => (w'.cell? ⟨gb604, 0, none⟩ = some (.int .i64 x605000_1) ∧ w'.cell? ⟨gb604, 1, none⟩ = some (.slice Ao36 x605001_1.length co36) ∧ w'.cell? ⟨gb605, 0, none⟩ = some (.int .i64 x606000_1) ∧ w'.cell? ⟨gb605, 1, none⟩ = some (.slice Ao34 x606001_1.length co34)) ∧ (Kd.V (Kd.int .i64) 3 w' w.heap.size (fun k_ => ((P0_1_ k_ ∨ P1_1_ k_) ∨ w.heap.size ≤ k_) ∧ k_ ≠ gb604 ∧ k_ ≠ gb605 ∧ k_ ≠ gb606 ∧ k_ ≠ s_.2.2.2) s_.1 t617) ∧ (Kd.V (Kd.int .i64) 3 w' w.heap.size (fun k_ => ((P0_1_ k_ ∨ P1_1_ k_) ∨ w.heap.size ≤ k_) ∧ k_ ≠ gb604 ∧ k_ ≠ gb605 ∧ k_ ≠ gb606 ∧ k_ ≠ s_.2.2.2) s_.2.1 t621) ∧ (Kd.V (Kd.int .i64) 3 w' w.heap.size (fun k_ => ((P0_1_ k_ ∨ P1_1_ k_) ∨ w.heap.size ≤ k_) ∧ k_ ≠ gb604 ∧ k_ ≠ gb605 ∧ k_ ≠ gb606 ∧ k_ ≠ s_.2.2.2) s_.2.2.1 t625) ∧ (Kd.V (Kd.int .i64) 3 w' w.heap.size (fun k_ => ((P0_1_ k_ ∨ P1_1_ k_) ∨ w.heap.size ≤ k_) ∧ k_ ≠ gb604 ∧ k_ ≠ gb605 ∧ k_ ≠ gb606 ∧ k_ ≠ s_.2.2.2) (.slice Ao36 x605001_1.length co36) x605001_1) ∧ (Kd.V (Kd.int .i64) 3 w' w.heap.size (fun k_ => ((P0_1_ k_ ∨ P1_1_ k_) ∨ w.heap.size ≤ k_) ∧ k_ ≠ gb604 ∧ k_ ≠ gb605 ∧ k_ ≠ gb606 ∧ k_ ≠ s_.2.2.2) (.slice Ao34 x606001_1.length co34) x606001_1) ∧ (w'.heap[gb604]? = some (.cells #[.int .i64 x605000_1, .slice Ao36 x605001_1.length co36] 135 (0, 0))) ∧ (w'.heap[gb605]? = some (.cells #[.int .i64 x606000_1, .slice Ao34 x606001_1.length co34] 135 (0, 0))) ∧ (w'.heap[gb606]? = some (.cells #[.int .i64 0, .slice none 0 0] 135 (0, 0))) ∧ (w'.heap[s_.2.2.2]? = some (.cells #[.int .i64 0, .slice none 0 0] 135 (0, 0))) ∧ (w.heap.size ≤ s_.2.2.2) ∧ (w.heap.size ≤ s_.2.2.2) ∧ (gb604 ≠ s_.2.2.2) ∧ (s_.2.2.2 ≠ gb604) ∧ (gb605 ≠ s_.2.2.2) ∧ (s_.2.2.2 ≠ gb605) ∧ (gb606 ≠ s_.2.2.2) ∧ (s_.2.2.2 ≠ gb606) ∧ (Below w.heap.size w w')) ?_ ?_
    rotate_left
    ·intro hCont
     refine two_ (i := 3) (j := 7) (Ni := some 16) (Nj := some 5) #[true, true, true, true, true, false, false, false, false] #[true, true, true, false, true, false, false, true, false] rfl rfl rfl rfl (two_of HT_.out (by kernel_rfl)) (by decide) (by decide) (fun K hK => ?_) (fun K hK => ?_)
     ·skip
      refine gz Tryd.func149 #[.agg #[.int .i64 x605000_1, .slice Ao36 x605001_1.length co36], .agg #[.int .i64 x606000_1, .slice Ao34 x606001_1.length co34]] ?_
      with_reducible refine (Bs_WideFloor.calls k1 x605000_1 _ _ x605001_1 x606000_1 (fun k_ => (((P0_1_ k_ ∨ P1_1_ k_) ∨ w.heap.size ≤ k_) ∧ (k_ ≠ gb604 ∧ (k_ ≠ gb605 ∧ k_ ≠ gb606)))) _ _ x606001_1 t616 t617 _ ?side1 ?side2 ?side3 A28.out).mono ?_
      (case side1 => exact bc (Kd.V_reads' HO_605001.out).2.2)
      (case side2 => exact (Kd.V_reads' HO_605001.out).2.1)
      (case side3 => exact HO_606001.out)
      rintro e w38 ⟨v618, rfl, ho0, hb⟩
      refine ⟨_, rfl, ?_⟩
      replace HO_605001 := vb HO_605001 hb; replace HO_606001 := vb HO_606001 hb; have HO619 := m0 (Kd.V_lower (Kd.V_mono (ok' := fun k_ => ((P0_1_ k_ ∨ P1_1_ k_) ∨ w.heap.size ≤ k_) ∧ k_ ≠ gb604 ∧ k_ ≠ gb605 ∧ k_ ≠ gb606) ho0 (fun k_ hk_ => ⟨Or.elim hk_ (fun hs_ => hs_.1) (fun hn_ => (.inr (Nat.le_trans (below_size bz) hn_))), Or.elim hk_ (fun hs_ => hs_.2.1) (fun hn_ => (Kd.freshB (g := gb604) (o := .cells #[.int .i64 x605000_1, .slice Ao36 x605001_1.length co36] 135 (0, 0)) (bk BK604.out) k_ hn_)), Or.elim hk_ (fun hs_ => hs_.2.2.1) (fun hn_ => (Kd.freshB (g := gb605) (o := .cells #[.int .i64 x606000_1, .slice Ao34 x606001_1.length co34] 135 (0, 0)) (bk BK605.out) k_ hn_)), Or.elim hk_ (fun hs_ => hs_.2.2.2) (fun hn_ => (Kd.freshB (g := gb606) (o := .cells #[.int .i64 0, .slice none 0 0] 135 (0, 0)) (bk BK606.out) k_ hn_))⟩)) (below_size bz)); replace BK604 := bb BK604 hb; replace BK605 := bb BK605 hb; replace BK606 := bb BK606 hb; replace HB := sb HB hb
      (try clear hb)
      (try clear ho0)
      obtain ⟨Ao39, co39, eo39⟩ := Kd.V_slice HO619.out
      (first | subst eo39 | (injection eo39 with f1_ f2_ f3_; have f4_ := f1_.symm; have f5_ := f3_.symm; clear f1_ f2_ f3_; subst f4_; subst f5_))
      refine hK.out _ _ cz (fun hH => ?_)
      clear hK K
      refine norm_ (a' := ?_) ?_ ?_
      rotate_left
      ·show Act.put _ (some 16) _ = _
       exact pz
      refine two_ (i := 5) (j := 7) (Ni := some 18) (Nj := some 5) #[true, true, true, true, true, true, false, false, false] #[true, true, true, true, true, false, false, true, false] rfl rfl rfl rfl (two_of HT_.out (by kernel_rfl)) (by decide) (by decide) (fun K hK => ?_) (fun K hK => ?_)
      ·skip
       refine gz Tryd.func137 #[.agg #[.int .i64 t616, .slice Ao39 t617.length co39], .agg #[.int .i64 x606000_1, .slice Ao34 x606001_1.length co34]] ?_
       with_reducible refine (Bs_WideMul.calls k1 t616 _ _ t617 x606000_1 _ _ x606001_1 t620 t621 _ ?side1 ?side2 ?side3 ?side4 A29.out).mono ?_
       (case side1 => exact bc (Kd.V_reads' HO619.out).2.2)
       (case side2 => exact (Kd.V_reads' HO619.out).2.1)
       (case side3 => exact bc (Kd.V_reads' HO_606001.out).2.2)
       (case side4 => exact (Kd.V_reads' HO_606001.out).2.1)
       rintro e w40 ⟨v622, rfl, ho0, hb⟩
       refine ⟨_, rfl, ?_⟩
       replace HO_605001 := vb HO_605001 hb; replace HO_606001 := vb HO_606001 hb; replace HO619 := vb HO619 hb; have HO623 := m0 (Kd.V_lower (Kd.V_mono (ok' := fun k_ => ((P0_1_ k_ ∨ P1_1_ k_) ∨ w.heap.size ≤ k_) ∧ k_ ≠ gb604 ∧ k_ ≠ gb605 ∧ k_ ≠ gb606) ho0 (fun k_ hk_ => ⟨(.inr (Nat.le_trans (below_size bz) hk_)), (Kd.freshB (g := gb604) (o := .cells #[.int .i64 x605000_1, .slice Ao36 x605001_1.length co36] 135 (0, 0)) (bk BK604.out) k_ hk_), (Kd.freshB (g := gb605) (o := .cells #[.int .i64 x606000_1, .slice Ao34 x606001_1.length co34] 135 (0, 0)) (bk BK605.out) k_ hk_), (Kd.freshB (g := gb606) (o := .cells #[.int .i64 0, .slice none 0 0] 135 (0, 0)) (bk BK606.out) k_ hk_)⟩)) (below_size bz)); replace BK604 := bb BK604 hb; replace BK605 := bb BK605 hb; replace BK606 := bb BK606 hb; replace HB := sb HB hb
       (try clear hb)
       (try clear ho0)
       obtain ⟨Ao41, co41, eo41⟩ := Kd.V_slice HO623.out
       (first | subst eo41 | (injection eo41 with f1_ f2_ f3_; have f4_ := f1_.symm; have f5_ := f3_.symm; clear f1_ f2_ f3_; subst f4_; subst f5_))
       refine hK.out _ _ cz (fun hH => ?_)
       clear hK K
       refine norm_ (a' := ?_) ?_ ?_
       rotate_left
       ·show Act.put _ (some 18) _ = _
        exact pz
       refine two_ (i := 6) (j := 7) (Ni := some 19) (Nj := some 5) #[true, true, true, true, true, true, true, false, false] #[true, true, true, true, true, true, false, true, false] rfl rfl rfl rfl (two_of HT_.out (by kernel_rfl)) (by decide) (by decide) (fun K hK => ?_) (fun K hK => ?_)
       ·skip
        refine gz Tryd.func166 #[.agg #[.int .i64 x605000_1, .slice Ao36 x605001_1.length co36], .agg #[.int .i64 t620, .slice Ao41 t621.length co41]] ?_
        with_reducible refine (Bs_WideSub.calls k1 x605000_1 (fun k_ => (((P0_1_ k_ ∨ P1_1_ k_) ∨ w.heap.size ≤ k_) ∧ (k_ ≠ gb604 ∧ (k_ ≠ gb605 ∧ k_ ≠ gb606)))) _ _ x605001_1 t620 (fun k_ => (((P0_1_ k_ ∨ P1_1_ k_) ∨ w.heap.size ≤ k_) ∧ (k_ ≠ gb604 ∧ (k_ ≠ gb605 ∧ k_ ≠ gb606)))) _ _ t621 t624 t625 _ ?side1 ?side2 A30.out).mono ?_
        (case side1 => exact HO_605001.out)
        (case side2 => exact HO623.out)
        rintro e w42 ⟨v626, rfl, ho0, hb⟩
        refine ⟨_, rfl, ?_⟩
        replace HO_605001 := vb HO_605001 hb; replace HO_606001 := vb HO_606001 hb; replace HO619 := vb HO619 hb; replace HO623 := vb HO623 hb; have HO627 := m0 (Kd.V_lower (Kd.V_mono (ok' := fun k_ => ((P0_1_ k_ ∨ P1_1_ k_) ∨ w.heap.size ≤ k_) ∧ k_ ≠ gb604 ∧ k_ ≠ gb605 ∧ k_ ≠ gb606) ho0 (fun k_ hk_ => ⟨Or.elim hk_ (fun hs_ => Or.elim hs_ (fun hs_ => hs_.1) (fun hs_ => hs_.1)) (fun hn_ => (.inr (Nat.le_trans (below_size bz) hn_))), Or.elim hk_ (fun hs_ => Or.elim hs_ (fun hs_ => hs_.2.1) (fun hs_ => hs_.2.1)) (fun hn_ => (Kd.freshB (g := gb604) (o := .cells #[.int .i64 x605000_1, .slice Ao36 x605001_1.length co36] 135 (0, 0)) (bk BK604.out) k_ hn_)), Or.elim hk_ (fun hs_ => Or.elim hs_ (fun hs_ => hs_.2.2.1) (fun hs_ => hs_.2.2.1)) (fun hn_ => (Kd.freshB (g := gb605) (o := .cells #[.int .i64 x606000_1, .slice Ao34 x606001_1.length co34] 135 (0, 0)) (bk BK605.out) k_ hn_)), Or.elim hk_ (fun hs_ => Or.elim hs_ (fun hs_ => hs_.2.2.2) (fun hs_ => hs_.2.2.2)) (fun hn_ => (Kd.freshB (g := gb606) (o := .cells #[.int .i64 0, .slice none 0 0] 135 (0, 0)) (bk BK606.out) k_ hn_))⟩)) (below_size bz)); replace BK604 := bb BK604 hb; replace BK605 := bb BK605 hb; replace BK606 := bb BK606 hb; replace HB := sb HB hb
        (try clear hb)
        (try clear ho0)
        refine hK.out _ _ cz (fun hH => ?_)
        clear hK K
        refine norm_ (a' := ?_) ?_ ?_
        rotate_left
        ·show Act.put _ (some 19) _ = _
         exact pz
        refine oneZ 7 (some 5) #[true, true, true, true, true, true, true, true, false] (one_of HT_.out (by kernel_rfl)) fun K hK => ?_
        refine box_step ?hg (N := 5) ?hd (cs := #[.int .i64 0, .slice none 0 0]) (t := 135) ?hr ?_; (case hd => rfl); (case hg => rfl); (case hr => first | (go_simp; done) | (go_simp; rfl))
        intro gb628 hg w43 hbox hb
        replace HO_605001 := ve HO_605001 hg hb; replace HO_606001 := ve HO_606001 hg hb; replace HO619 := ve HO619 hg hb; replace HO623 := ve HO623 hg hb; replace HO627 := ve HO627 hg hb; have BK628 := m0 hbox; have GW628 := gw w hg; have GE628 := gw w hg; replace HB := sb HB hb; have NB604_628 := nl BK604 hg; have NB628_604 := ng (nl BK604 hg); replace BK604 := bb BK604 hb; have NB605_628 := nl BK605 hg; have NB628_605 := ng (nl BK605 hg); replace BK605 := bb BK605 hb; have NB606_628 := nl BK606 hg; have NB628_606 := ng (nl BK606 hg); replace BK606 := bb BK606 hb
        clear hb hbox hg
        refine hK.out _ _ cz (fun hH => ?_)
        clear hK K
        refine norm_ (a' := ?_) ?_ ?_
        rotate_left
        ·show Act.put _ (some 5) _ = _
         exact pz
        exact norm_ (by simp only [putAll, Act.put, List.setIfInBounds_toArray, List.set_cons_zero, List.set_cons_succ]) (hCont (.slice Ao39 t617.length co39, .slice Ao41 t621.length co41, v626, gb628) _ ⟨hH, (by (with_reducible repeat (first | apply Kd.V_alloc | apply Kd.V_drewN | apply Kd.V_drew)); exact Kd.V_mono HO619.out (fun _ hk => ⟨hk.1.1, ⟨hk.1.2.1, ⟨hk.1.2.2.1, ⟨hk.1.2.2.2, hk.2⟩⟩⟩⟩)), (by (with_reducible repeat (first | apply Kd.V_alloc | apply Kd.V_drewN | apply Kd.V_drew)); exact Kd.V_mono HO623.out (fun _ hk => ⟨hk.1.1, ⟨hk.1.2.1, ⟨hk.1.2.2.1, ⟨hk.1.2.2.2, hk.2⟩⟩⟩⟩)), (by (with_reducible repeat (first | apply Kd.V_alloc | apply Kd.V_drewN | apply Kd.V_drew)); exact Kd.V_mono HO627.out (fun _ hk => ⟨hk.1.1, ⟨hk.1.2.1, ⟨hk.1.2.2.1, ⟨hk.1.2.2.2, hk.2⟩⟩⟩⟩)), (by (with_reducible repeat (first | apply Kd.V_alloc | apply Kd.V_drewN | apply Kd.V_drew)); exact Kd.V_mono HO_605001.out (fun _ hk => ⟨hk.1.1, ⟨hk.1.2.1, ⟨hk.1.2.2.1, ⟨hk.1.2.2.2, hk.2⟩⟩⟩⟩)), (by (with_reducible repeat (first | apply Kd.V_alloc | apply Kd.V_drewN | apply Kd.V_drew)); exact Kd.V_mono HO_606001.out (fun _ hk => ⟨hk.1.1, ⟨hk.1.2.1, ⟨hk.1.2.2.1, ⟨hk.1.2.2.2, hk.2⟩⟩⟩⟩)), (bk BK604.out), (bk BK605.out), (bk BK606.out), (bk BK628.out), GW628.out, GE628.out, NB604_628.out, NB628_604.out, NB605_628.out, NB628_605.out, NB606_628.out, NB628_606.out, bz⟩)
       ·skip
        refine box_step ?hg (N := 5) ?hd (cs := #[.int .i64 0, .slice none 0 0]) (t := 135) ?hr ?_; (case hd => rfl); (case hg => rfl); (case hr => first | (go_simp; done) | (go_simp; rfl))
        intro gb628 hg w41 hbox hb
        replace HO_605001 := ve HO_605001 hg hb; replace HO_606001 := ve HO_606001 hg hb; replace HO619 := ve HO619 hg hb; replace HO623 := ve HO623 hg hb; have BK628 := m0 hbox; have GW628 := gw w hg; have GE628 := gw w hg; replace HB := sb HB hb; have NB604_628 := nl BK604 hg; have NB628_604 := ng (nl BK604 hg); replace BK604 := bb BK604 hb; have NB605_628 := nl BK605 hg; have NB628_605 := ng (nl BK605 hg); replace BK605 := bb BK605 hb; have NB606_628 := nl BK606 hg; have NB628_606 := ng (nl BK606 hg); replace BK606 := bb BK606 hb
        clear hb hbox hg
        obtain ⟨Ao42, co42, eo42⟩ := Kd.V_slice HO623.out
        (first | subst eo42 | (injection eo42 with f1_ f2_ f3_; have f4_ := f1_.symm; have f5_ := f3_.symm; clear f1_ f2_ f3_; subst f4_; subst f5_))
        refine hK.out _ _ cz (fun hH => ?_)
        clear hK K
        refine norm_ (a' := ?_) ?_ ?_
        rotate_left
        ·show Act.put _ (some 5) _ = _
         exact pz
        refine oneZ 6 (some 19) #[true, true, true, true, true, true, true, true, false] (one_of HT_.out (by kernel_rfl)) fun K hK => ?_
        refine gz Tryd.func166 #[.agg #[.int .i64 x605000_1, .slice Ao36 x605001_1.length co36], .agg #[.int .i64 t620, .slice Ao42 t621.length co42]] ?_
        with_reducible refine (Bs_WideSub.calls k1 x605000_1 (fun k_ => ((((P0_1_ k_ ∨ P1_1_ k_) ∨ w.heap.size ≤ k_) ∧ (k_ ≠ gb604 ∧ (k_ ≠ gb605 ∧ k_ ≠ gb606))) ∧ k_ ≠ gb628)) _ _ x605001_1 t620 (fun k_ => ((((P0_1_ k_ ∨ P1_1_ k_) ∨ w.heap.size ≤ k_) ∧ (k_ ≠ gb604 ∧ (k_ ≠ gb605 ∧ k_ ≠ gb606))) ∧ k_ ≠ gb628)) _ _ t621 t624 t625 _ ?side1 ?side2 A30.out).mono ?_
        (case side1 => exact HO_605001.out)
        (case side2 => exact HO623.out)
        rintro e w43 ⟨v626, rfl, ho0, hb⟩
        refine ⟨_, rfl, ?_⟩
        replace HO_605001 := vb HO_605001 hb; replace HO_606001 := vb HO_606001 hb; replace HO619 := vb HO619 hb; replace HO623 := vb HO623 hb; have HO627 := m0 (Kd.V_lower (Kd.V_mono (ok' := fun k_ => ((P0_1_ k_ ∨ P1_1_ k_) ∨ w.heap.size ≤ k_) ∧ k_ ≠ gb604 ∧ k_ ≠ gb605 ∧ k_ ≠ gb606 ∧ k_ ≠ gb628) ho0 (fun k_ hk_ => ⟨Or.elim hk_ (fun hs_ => Or.elim hs_ (fun hs_ => hs_.1.1) (fun hs_ => hs_.1.1)) (fun hn_ => (.inr (Nat.le_trans (below_size bz) hn_))), Or.elim hk_ (fun hs_ => Or.elim hs_ (fun hs_ => hs_.1.2.1) (fun hs_ => hs_.1.2.1)) (fun hn_ => (Kd.freshB (g := gb604) (o := .cells #[.int .i64 x605000_1, .slice Ao36 x605001_1.length co36] 135 (0, 0)) (bk BK604.out) k_ hn_)), Or.elim hk_ (fun hs_ => Or.elim hs_ (fun hs_ => hs_.1.2.2.1) (fun hs_ => hs_.1.2.2.1)) (fun hn_ => (Kd.freshB (g := gb605) (o := .cells #[.int .i64 x606000_1, .slice Ao34 x606001_1.length co34] 135 (0, 0)) (bk BK605.out) k_ hn_)), Or.elim hk_ (fun hs_ => Or.elim hs_ (fun hs_ => hs_.1.2.2.2) (fun hs_ => hs_.1.2.2.2)) (fun hn_ => (Kd.freshB (g := gb606) (o := .cells #[.int .i64 0, .slice none 0 0] 135 (0, 0)) (bk BK606.out) k_ hn_)), Or.elim hk_ (fun hs_ => Or.elim hs_ (fun hs_ => hs_.2) (fun hs_ => hs_.2)) (fun hn_ => (Kd.freshB (g := gb628) (o := .cells #[.int .i64 0, .slice none 0 0] 135 (0, 0)) (bk BK628.out) k_ hn_))⟩)) (below_size bz)); replace BK604 := bb BK604 hb; replace BK605 := bb BK605 hb; replace BK606 := bb BK606 hb; replace BK628 := bb BK628 hb; replace HB := sb HB hb
        (try clear hb)
        (try clear ho0)
        refine hK.out _ _ cz (fun hH => ?_)
        clear hK K
        refine norm_ (a' := ?_) ?_ ?_
        rotate_left
        ·show Act.put _ (some 19) _ = _
         exact pz
        exact norm_ (by simp only [putAll, Act.put, List.setIfInBounds_toArray, List.set_cons_zero, List.set_cons_succ]) (hCont (.slice Ao39 t617.length co39, .slice Ao42 t621.length co42, v626, gb628) _ ⟨hH, (by (with_reducible repeat (first | apply Kd.V_alloc | apply Kd.V_drewN | apply Kd.V_drew)); exact Kd.V_mono HO619.out (fun _ hk => ⟨hk.1.1, ⟨hk.1.2.1, ⟨hk.1.2.2.1, ⟨hk.1.2.2.2, hk.2⟩⟩⟩⟩)), (by (with_reducible repeat (first | apply Kd.V_alloc | apply Kd.V_drewN | apply Kd.V_drew)); exact Kd.V_mono HO623.out (fun _ hk => ⟨hk.1.1, ⟨hk.1.2.1, ⟨hk.1.2.2.1, ⟨hk.1.2.2.2, hk.2⟩⟩⟩⟩)), (by (with_reducible repeat (first | apply Kd.V_alloc | apply Kd.V_drewN | apply Kd.V_drew)); exact HO627.out), (by (with_reducible repeat (first | apply Kd.V_alloc | apply Kd.V_drewN | apply Kd.V_drew)); exact Kd.V_mono HO_605001.out (fun _ hk => ⟨hk.1.1, ⟨hk.1.2.1, ⟨hk.1.2.2.1, ⟨hk.1.2.2.2, hk.2⟩⟩⟩⟩)), (by (with_reducible repeat (first | apply Kd.V_alloc | apply Kd.V_drewN | apply Kd.V_drew)); exact Kd.V_mono HO_606001.out (fun _ hk => ⟨hk.1.1, ⟨hk.1.2.1, ⟨hk.1.2.2.1, ⟨hk.1.2.2.2, hk.2⟩⟩⟩⟩)), (bk BK604.out), (bk BK605.out), (bk BK606.out), (bk BK628.out), GW628.out, GE628.out, NB604_628.out, NB628_604.out, NB605_628.out, NB628_605.out, NB606_628.out, NB628_606.out, bz⟩)
      ·skip
       refine box_step ?hg (N := 5) ?hd (cs := #[.int .i64 0, .slice none 0 0]) (t := 135) ?hr ?_; (case hd => rfl); (case hg => rfl); (case hr => first | (go_simp; done) | (go_simp; rfl))
       intro gb628 hg w39 hbox hb
       replace HO_605001 := ve HO_605001 hg hb; replace HO_606001 := ve HO_606001 hg hb; replace HO619 := ve HO619 hg hb; have BK628 := m0 hbox; have GW628 := gw w hg; have GE628 := gw w hg; replace HB := sb HB hb; have NB604_628 := nl BK604 hg; have NB628_604 := ng (nl BK604 hg); replace BK604 := bb BK604 hb; have NB605_628 := nl BK605 hg; have NB628_605 := ng (nl BK605 hg); replace BK605 := bb BK605 hb; have NB606_628 := nl BK606 hg; have NB628_606 := ng (nl BK606 hg); replace BK606 := bb BK606 hb
       clear hb hbox hg
       obtain ⟨Ao40, co40, eo40⟩ := Kd.V_slice HO619.out
       (first | subst eo40 | (injection eo40 with f1_ f2_ f3_; have f4_ := f1_.symm; have f5_ := f3_.symm; clear f1_ f2_ f3_; subst f4_; subst f5_))
       refine hK.out _ _ cz (fun hH => ?_)
       clear hK K
       refine norm_ (a' := ?_) ?_ ?_
       rotate_left
       ·show Act.put _ (some 5) _ = _
        exact pz
       refine oneZ 5 (some 18) #[true, true, true, true, true, true, false, true, false] (one_of HT_.out (by kernel_rfl)) fun K hK => ?_
       refine gz Tryd.func137 #[.agg #[.int .i64 t616, .slice Ao40 t617.length co40], .agg #[.int .i64 x606000_1, .slice Ao34 x606001_1.length co34]] ?_
       with_reducible refine (Bs_WideMul.calls k1 t616 _ _ t617 x606000_1 _ _ x606001_1 t620 t621 _ ?side1 ?side2 ?side3 ?side4 A29.out).mono ?_
       (case side1 => exact bc (Kd.V_reads' HO619.out).2.2)
       (case side2 => exact (Kd.V_reads' HO619.out).2.1)
       (case side3 => exact bc (Kd.V_reads' HO_606001.out).2.2)
       (case side4 => exact (Kd.V_reads' HO_606001.out).2.1)
       rintro e w41 ⟨v622, rfl, ho0, hb⟩
       refine ⟨_, rfl, ?_⟩
       replace HO_605001 := vb HO_605001 hb; replace HO_606001 := vb HO_606001 hb; replace HO619 := vb HO619 hb; have HO623 := m0 (Kd.V_lower (Kd.V_mono (ok' := fun k_ => ((P0_1_ k_ ∨ P1_1_ k_) ∨ w.heap.size ≤ k_) ∧ k_ ≠ gb604 ∧ k_ ≠ gb605 ∧ k_ ≠ gb606 ∧ k_ ≠ gb628) ho0 (fun k_ hk_ => ⟨(.inr (Nat.le_trans (below_size bz) hk_)), (Kd.freshB (g := gb604) (o := .cells #[.int .i64 x605000_1, .slice Ao36 x605001_1.length co36] 135 (0, 0)) (bk BK604.out) k_ hk_), (Kd.freshB (g := gb605) (o := .cells #[.int .i64 x606000_1, .slice Ao34 x606001_1.length co34] 135 (0, 0)) (bk BK605.out) k_ hk_), (Kd.freshB (g := gb606) (o := .cells #[.int .i64 0, .slice none 0 0] 135 (0, 0)) (bk BK606.out) k_ hk_), (Kd.freshB (g := gb628) (o := .cells #[.int .i64 0, .slice none 0 0] 135 (0, 0)) (bk BK628.out) k_ hk_)⟩)) (below_size bz)); replace BK604 := bb BK604 hb; replace BK605 := bb BK605 hb; replace BK606 := bb BK606 hb; replace BK628 := bb BK628 hb; replace HB := sb HB hb
       (try clear hb)
       (try clear ho0)
       obtain ⟨Ao42, co42, eo42⟩ := Kd.V_slice HO623.out
       (first | subst eo42 | (injection eo42 with f1_ f2_ f3_; have f4_ := f1_.symm; have f5_ := f3_.symm; clear f1_ f2_ f3_; subst f4_; subst f5_))
       refine hK.out _ _ cz (fun hH => ?_)
       clear hK K
       refine norm_ (a' := ?_) ?_ ?_
       rotate_left
       ·show Act.put _ (some 18) _ = _
        exact pz
       refine oneZ 6 (some 19) #[true, true, true, true, true, true, true, true, false] (one_of HT_.out (by kernel_rfl)) fun K hK => ?_
       refine gz Tryd.func166 #[.agg #[.int .i64 x605000_1, .slice Ao36 x605001_1.length co36], .agg #[.int .i64 t620, .slice Ao42 t621.length co42]] ?_
       with_reducible refine (Bs_WideSub.calls k1 x605000_1 (fun k_ => ((((P0_1_ k_ ∨ P1_1_ k_) ∨ w.heap.size ≤ k_) ∧ (k_ ≠ gb604 ∧ (k_ ≠ gb605 ∧ k_ ≠ gb606))) ∧ k_ ≠ gb628)) _ _ x605001_1 t620 (fun k_ => (((P0_1_ k_ ∨ P1_1_ k_) ∨ w.heap.size ≤ k_) ∧ (k_ ≠ gb604 ∧ (k_ ≠ gb605 ∧ (k_ ≠ gb606 ∧ k_ ≠ gb628))))) _ _ t621 t624 t625 _ ?side1 ?side2 A30.out).mono ?_
       (case side1 => exact HO_605001.out)
       (case side2 => exact HO623.out)
       rintro e w43 ⟨v626, rfl, ho0, hb⟩
       refine ⟨_, rfl, ?_⟩
       replace HO_605001 := vb HO_605001 hb; replace HO_606001 := vb HO_606001 hb; replace HO619 := vb HO619 hb; replace HO623 := vb HO623 hb; have HO627 := m0 (Kd.V_lower (Kd.V_mono (ok' := fun k_ => ((P0_1_ k_ ∨ P1_1_ k_) ∨ w.heap.size ≤ k_) ∧ k_ ≠ gb604 ∧ k_ ≠ gb605 ∧ k_ ≠ gb606 ∧ k_ ≠ gb628) ho0 (fun k_ hk_ => ⟨Or.elim hk_ (fun hs_ => Or.elim hs_ (fun hs_ => hs_.1.1) (fun hs_ => hs_.1)) (fun hn_ => (.inr (Nat.le_trans (below_size bz) hn_))), Or.elim hk_ (fun hs_ => Or.elim hs_ (fun hs_ => hs_.1.2.1) (fun hs_ => hs_.2.1)) (fun hn_ => (Kd.freshB (g := gb604) (o := .cells #[.int .i64 x605000_1, .slice Ao36 x605001_1.length co36] 135 (0, 0)) (bk BK604.out) k_ hn_)), Or.elim hk_ (fun hs_ => Or.elim hs_ (fun hs_ => hs_.1.2.2.1) (fun hs_ => hs_.2.2.1)) (fun hn_ => (Kd.freshB (g := gb605) (o := .cells #[.int .i64 x606000_1, .slice Ao34 x606001_1.length co34] 135 (0, 0)) (bk BK605.out) k_ hn_)), Or.elim hk_ (fun hs_ => Or.elim hs_ (fun hs_ => hs_.1.2.2.2) (fun hs_ => hs_.2.2.2.1)) (fun hn_ => (Kd.freshB (g := gb606) (o := .cells #[.int .i64 0, .slice none 0 0] 135 (0, 0)) (bk BK606.out) k_ hn_)), Or.elim hk_ (fun hs_ => Or.elim hs_ (fun hs_ => hs_.2) (fun hs_ => hs_.2.2.2.2)) (fun hn_ => (Kd.freshB (g := gb628) (o := .cells #[.int .i64 0, .slice none 0 0] 135 (0, 0)) (bk BK628.out) k_ hn_))⟩)) (below_size bz)); replace BK604 := bb BK604 hb; replace BK605 := bb BK605 hb; replace BK606 := bb BK606 hb; replace BK628 := bb BK628 hb; replace HB := sb HB hb
       (try clear hb)
       (try clear ho0)
       refine hK.out _ _ cz (fun hH => ?_)
       clear hK K
       refine norm_ (a' := ?_) ?_ ?_
       rotate_left
       ·show Act.put _ (some 19) _ = _
        exact pz
       exact norm_ (by simp only [putAll, Act.put, List.setIfInBounds_toArray, List.set_cons_zero, List.set_cons_succ]) (hCont (.slice Ao40 t617.length co40, .slice Ao42 t621.length co42, v626, gb628) _ ⟨hH, (by (with_reducible repeat (first | apply Kd.V_alloc | apply Kd.V_drewN | apply Kd.V_drew)); exact Kd.V_mono HO619.out (fun _ hk => ⟨hk.1.1, ⟨hk.1.2.1, ⟨hk.1.2.2.1, ⟨hk.1.2.2.2, hk.2⟩⟩⟩⟩)), (by (with_reducible repeat (first | apply Kd.V_alloc | apply Kd.V_drewN | apply Kd.V_drew)); exact HO623.out), (by (with_reducible repeat (first | apply Kd.V_alloc | apply Kd.V_drewN | apply Kd.V_drew)); exact HO627.out), (by (with_reducible repeat (first | apply Kd.V_alloc | apply Kd.V_drewN | apply Kd.V_drew)); exact Kd.V_mono HO_605001.out (fun _ hk => ⟨hk.1.1, ⟨hk.1.2.1, ⟨hk.1.2.2.1, ⟨hk.1.2.2.2, hk.2⟩⟩⟩⟩)), (by (with_reducible repeat (first | apply Kd.V_alloc | apply Kd.V_drewN | apply Kd.V_drew)); exact Kd.V_mono HO_606001.out (fun _ hk => ⟨hk.1.1, ⟨hk.1.2.1, ⟨hk.1.2.2.1, ⟨hk.1.2.2.2, hk.2⟩⟩⟩⟩)), (bk BK604.out), (bk BK605.out), (bk BK606.out), (bk BK628.out), GW628.out, GE628.out, NB604_628.out, NB628_604.out, NB605_628.out, NB628_605.out, NB606_628.out, NB628_606.out, bz⟩)
     ·skip
      refine box_step ?hg (N := 5) ?hd (cs := #[.int .i64 0, .slice none 0 0]) (t := 135) ?hr ?_; (case hd => rfl); (case hg => rfl); (case hr => first | (go_simp; done) | (go_simp; rfl))
      intro gb628 hg w38 hbox hb
      replace HO_605001 := ve HO_605001 hg hb; replace HO_606001 := ve HO_606001 hg hb; have BK628 := m0 hbox; have GW628 := gw w hg; have GE628 := gw w hg; replace HB := sb HB hb; have NB604_628 := nl BK604 hg; have NB628_604 := ng (nl BK604 hg); replace BK604 := bb BK604 hb; have NB605_628 := nl BK605 hg; have NB628_605 := ng (nl BK605 hg); replace BK605 := bb BK605 hb; have NB606_628 := nl BK606 hg; have NB628_606 := ng (nl BK606 hg); replace BK606 := bb BK606 hb
      clear hb hbox hg
      refine hK.out _ _ cz (fun hH => ?_)
      clear hK K
      refine norm_ (a' := ?_) ?_ ?_
      rotate_left
      ·show Act.put _ (some 5) _ = _
       exact pz
      refine oneZ 3 (some 16) #[true, true, true, true, true, false, false, true, false] (one_of HT_.out (by kernel_rfl)) fun K hK => ?_
      refine gz Tryd.func149 #[.agg #[.int .i64 x605000_1, .slice Ao36 x605001_1.length co36], .agg #[.int .i64 x606000_1, .slice Ao34 x606001_1.length co34]] ?_
      with_reducible refine (Bs_WideFloor.calls k1 x605000_1 _ _ x605001_1 x606000_1 (fun k_ => ((((P0_1_ k_ ∨ P1_1_ k_) ∨ w.heap.size ≤ k_) ∧ (k_ ≠ gb604 ∧ (k_ ≠ gb605 ∧ k_ ≠ gb606))) ∧ k_ ≠ gb628)) _ _ x606001_1 t616 t617 _ ?side1 ?side2 ?side3 A28.out).mono ?_
      (case side1 => exact bc (Kd.V_reads' HO_605001.out).2.2)
      (case side2 => exact (Kd.V_reads' HO_605001.out).2.1)
      (case side3 => exact HO_606001.out)
      rintro e w39 ⟨v618, rfl, ho0, hb⟩
      refine ⟨_, rfl, ?_⟩
      replace HO_605001 := vb HO_605001 hb; replace HO_606001 := vb HO_606001 hb; have HO619 := m0 (Kd.V_lower (Kd.V_mono (ok' := fun k_ => ((P0_1_ k_ ∨ P1_1_ k_) ∨ w.heap.size ≤ k_) ∧ k_ ≠ gb604 ∧ k_ ≠ gb605 ∧ k_ ≠ gb606 ∧ k_ ≠ gb628) ho0 (fun k_ hk_ => ⟨Or.elim hk_ (fun hs_ => hs_.1.1) (fun hn_ => (.inr (Nat.le_trans (below_size bz) hn_))), Or.elim hk_ (fun hs_ => hs_.1.2.1) (fun hn_ => (Kd.freshB (g := gb604) (o := .cells #[.int .i64 x605000_1, .slice Ao36 x605001_1.length co36] 135 (0, 0)) (bk BK604.out) k_ hn_)), Or.elim hk_ (fun hs_ => hs_.1.2.2.1) (fun hn_ => (Kd.freshB (g := gb605) (o := .cells #[.int .i64 x606000_1, .slice Ao34 x606001_1.length co34] 135 (0, 0)) (bk BK605.out) k_ hn_)), Or.elim hk_ (fun hs_ => hs_.1.2.2.2) (fun hn_ => (Kd.freshB (g := gb606) (o := .cells #[.int .i64 0, .slice none 0 0] 135 (0, 0)) (bk BK606.out) k_ hn_)), Or.elim hk_ (fun hs_ => hs_.2) (fun hn_ => (Kd.freshB (g := gb628) (o := .cells #[.int .i64 0, .slice none 0 0] 135 (0, 0)) (bk BK628.out) k_ hn_))⟩)) (below_size bz)); replace BK604 := bb BK604 hb; replace BK605 := bb BK605 hb; replace BK606 := bb BK606 hb; replace BK628 := bb BK628 hb; replace HB := sb HB hb
      (try clear hb)
      (try clear ho0)
      obtain ⟨Ao40, co40, eo40⟩ := Kd.V_slice HO619.out
      (first | subst eo40 | (injection eo40 with f1_ f2_ f3_; have f4_ := f1_.symm; have f5_ := f3_.symm; clear f1_ f2_ f3_; subst f4_; subst f5_))
      refine hK.out _ _ cz (fun hH => ?_)
      clear hK K
      refine norm_ (a' := ?_) ?_ ?_
      rotate_left
      ·show Act.put _ (some 16) _ = _
       exact pz
      refine oneZ 5 (some 18) #[true, true, true, true, true, true, false, true, false] (one_of HT_.out (by kernel_rfl)) fun K hK => ?_
      refine gz Tryd.func137 #[.agg #[.int .i64 t616, .slice Ao40 t617.length co40], .agg #[.int .i64 x606000_1, .slice Ao34 x606001_1.length co34]] ?_
      with_reducible refine (Bs_WideMul.calls k1 t616 _ _ t617 x606000_1 _ _ x606001_1 t620 t621 _ ?side1 ?side2 ?side3 ?side4 A29.out).mono ?_
      (case side1 => exact bc (Kd.V_reads' HO619.out).2.2)
      (case side2 => exact (Kd.V_reads' HO619.out).2.1)
      (case side3 => exact bc (Kd.V_reads' HO_606001.out).2.2)
      (case side4 => exact (Kd.V_reads' HO_606001.out).2.1)
      rintro e w41 ⟨v622, rfl, ho0, hb⟩
      refine ⟨_, rfl, ?_⟩
      replace HO_605001 := vb HO_605001 hb; replace HO_606001 := vb HO_606001 hb; replace HO619 := vb HO619 hb; have HO623 := m0 (Kd.V_lower (Kd.V_mono (ok' := fun k_ => ((P0_1_ k_ ∨ P1_1_ k_) ∨ w.heap.size ≤ k_) ∧ k_ ≠ gb604 ∧ k_ ≠ gb605 ∧ k_ ≠ gb606 ∧ k_ ≠ gb628) ho0 (fun k_ hk_ => ⟨(.inr (Nat.le_trans (below_size bz) hk_)), (Kd.freshB (g := gb604) (o := .cells #[.int .i64 x605000_1, .slice Ao36 x605001_1.length co36] 135 (0, 0)) (bk BK604.out) k_ hk_), (Kd.freshB (g := gb605) (o := .cells #[.int .i64 x606000_1, .slice Ao34 x606001_1.length co34] 135 (0, 0)) (bk BK605.out) k_ hk_), (Kd.freshB (g := gb606) (o := .cells #[.int .i64 0, .slice none 0 0] 135 (0, 0)) (bk BK606.out) k_ hk_), (Kd.freshB (g := gb628) (o := .cells #[.int .i64 0, .slice none 0 0] 135 (0, 0)) (bk BK628.out) k_ hk_)⟩)) (below_size bz)); replace BK604 := bb BK604 hb; replace BK605 := bb BK605 hb; replace BK606 := bb BK606 hb; replace BK628 := bb BK628 hb; replace HB := sb HB hb
      (try clear hb)
      (try clear ho0)
      obtain ⟨Ao42, co42, eo42⟩ := Kd.V_slice HO623.out
      (first | subst eo42 | (injection eo42 with f1_ f2_ f3_; have f4_ := f1_.symm; have f5_ := f3_.symm; clear f1_ f2_ f3_; subst f4_; subst f5_))
      refine hK.out _ _ cz (fun hH => ?_)
      clear hK K
      refine norm_ (a' := ?_) ?_ ?_
      rotate_left
      ·show Act.put _ (some 18) _ = _
       exact pz
      refine oneZ 6 (some 19) #[true, true, true, true, true, true, true, true, false] (one_of HT_.out (by kernel_rfl)) fun K hK => ?_
      refine gz Tryd.func166 #[.agg #[.int .i64 x605000_1, .slice Ao36 x605001_1.length co36], .agg #[.int .i64 t620, .slice Ao42 t621.length co42]] ?_
      with_reducible refine (Bs_WideSub.calls k1 x605000_1 (fun k_ => ((((P0_1_ k_ ∨ P1_1_ k_) ∨ w.heap.size ≤ k_) ∧ (k_ ≠ gb604 ∧ (k_ ≠ gb605 ∧ k_ ≠ gb606))) ∧ k_ ≠ gb628)) _ _ x605001_1 t620 (fun k_ => (((P0_1_ k_ ∨ P1_1_ k_) ∨ w.heap.size ≤ k_) ∧ (k_ ≠ gb604 ∧ (k_ ≠ gb605 ∧ (k_ ≠ gb606 ∧ k_ ≠ gb628))))) _ _ t621 t624 t625 _ ?side1 ?side2 A30.out).mono ?_
      (case side1 => exact HO_605001.out)
      (case side2 => exact HO623.out)
      rintro e w43 ⟨v626, rfl, ho0, hb⟩
      refine ⟨_, rfl, ?_⟩
      replace HO_605001 := vb HO_605001 hb; replace HO_606001 := vb HO_606001 hb; replace HO619 := vb HO619 hb; replace HO623 := vb HO623 hb; have HO627 := m0 (Kd.V_lower (Kd.V_mono (ok' := fun k_ => ((P0_1_ k_ ∨ P1_1_ k_) ∨ w.heap.size ≤ k_) ∧ k_ ≠ gb604 ∧ k_ ≠ gb605 ∧ k_ ≠ gb606 ∧ k_ ≠ gb628) ho0 (fun k_ hk_ => ⟨Or.elim hk_ (fun hs_ => Or.elim hs_ (fun hs_ => hs_.1.1) (fun hs_ => hs_.1)) (fun hn_ => (.inr (Nat.le_trans (below_size bz) hn_))), Or.elim hk_ (fun hs_ => Or.elim hs_ (fun hs_ => hs_.1.2.1) (fun hs_ => hs_.2.1)) (fun hn_ => (Kd.freshB (g := gb604) (o := .cells #[.int .i64 x605000_1, .slice Ao36 x605001_1.length co36] 135 (0, 0)) (bk BK604.out) k_ hn_)), Or.elim hk_ (fun hs_ => Or.elim hs_ (fun hs_ => hs_.1.2.2.1) (fun hs_ => hs_.2.2.1)) (fun hn_ => (Kd.freshB (g := gb605) (o := .cells #[.int .i64 x606000_1, .slice Ao34 x606001_1.length co34] 135 (0, 0)) (bk BK605.out) k_ hn_)), Or.elim hk_ (fun hs_ => Or.elim hs_ (fun hs_ => hs_.1.2.2.2) (fun hs_ => hs_.2.2.2.1)) (fun hn_ => (Kd.freshB (g := gb606) (o := .cells #[.int .i64 0, .slice none 0 0] 135 (0, 0)) (bk BK606.out) k_ hn_)), Or.elim hk_ (fun hs_ => Or.elim hs_ (fun hs_ => hs_.2) (fun hs_ => hs_.2.2.2.2)) (fun hn_ => (Kd.freshB (g := gb628) (o := .cells #[.int .i64 0, .slice none 0 0] 135 (0, 0)) (bk BK628.out) k_ hn_))⟩)) (below_size bz)); replace BK604 := bb BK604 hb; replace BK605 := bb BK605 hb; replace BK606 := bb BK606 hb; replace BK628 := bb BK628 hb; replace HB := sb HB hb
      (try clear hb)
      (try clear ho0)
      refine hK.out _ _ cz (fun hH => ?_)
      clear hK K
      refine norm_ (a' := ?_) ?_ ?_
      rotate_left
      ·show Act.put _ (some 19) _ = _
       exact pz
      exact norm_ (by simp only [putAll, Act.put, List.setIfInBounds_toArray, List.set_cons_zero, List.set_cons_succ]) (hCont (.slice Ao40 t617.length co40, .slice Ao42 t621.length co42, v626, gb628) _ ⟨hH, (by (with_reducible repeat (first | apply Kd.V_alloc | apply Kd.V_drewN | apply Kd.V_drew)); exact HO619.out), (by (with_reducible repeat (first | apply Kd.V_alloc | apply Kd.V_drewN | apply Kd.V_drew)); exact HO623.out), (by (with_reducible repeat (first | apply Kd.V_alloc | apply Kd.V_drewN | apply Kd.V_drew)); exact HO627.out), (by (with_reducible repeat (first | apply Kd.V_alloc | apply Kd.V_drewN | apply Kd.V_drew)); exact Kd.V_mono HO_605001.out (fun _ hk => ⟨hk.1.1, ⟨hk.1.2.1, ⟨hk.1.2.2.1, ⟨hk.1.2.2.2, hk.2⟩⟩⟩⟩)), (by (with_reducible repeat (first | apply Kd.V_alloc | apply Kd.V_drewN | apply Kd.V_drew)); exact Kd.V_mono HO_606001.out (fun _ hk => ⟨hk.1.1, ⟨hk.1.2.1, ⟨hk.1.2.2.1, ⟨hk.1.2.2.2, hk.2⟩⟩⟩⟩)), (bk BK604.out), (bk BK605.out), (bk BK606.out), (bk BK628.out), GW628.out, GE628.out, NB604_628.out, NB628_604.out, NB605_628.out, NB628_605.out, NB606_628.out, NB628_606.out, bz⟩)
    rintro ⟨v618, v622, v626, gb628⟩ w44 ⟨hS_, h0_, h1_, h2_, h3_, h4_, h5_, h6_, h7_, h8_, h9_, h10_, h11_, h12_, h13_, h14_, h15_, h16_, h17_⟩
    have n0_ : Aside0 (Kd.V (Kd.int .i64) 3 w44 w.heap.size (fun k_ => ((P0_1_ k_ ∨ P1_1_ k_) ∨ w.heap.size ≤ k_) ∧ k_ ≠ gb604 ∧ k_ ≠ gb605 ∧ k_ ≠ gb606 ∧ k_ ≠ gb628) v618 t617) := ⟨h0_⟩
    have n1_ : Aside0 (Kd.V (Kd.int .i64) 3 w44 w.heap.size (fun k_ => ((P0_1_ k_ ∨ P1_1_ k_) ∨ w.heap.size ≤ k_) ∧ k_ ≠ gb604 ∧ k_ ≠ gb605 ∧ k_ ≠ gb606 ∧ k_ ≠ gb628) v622 t621) := ⟨h1_⟩
    have n2_ : Aside0 (Kd.V (Kd.int .i64) 3 w44 w.heap.size (fun k_ => ((P0_1_ k_ ∨ P1_1_ k_) ∨ w.heap.size ≤ k_) ∧ k_ ≠ gb604 ∧ k_ ≠ gb605 ∧ k_ ≠ gb606 ∧ k_ ≠ gb628) v626 t625) := ⟨h2_⟩
    have n3_ : Aside0 (Kd.V (Kd.int .i64) 3 w44 w.heap.size (fun k_ => ((P0_1_ k_ ∨ P1_1_ k_) ∨ w.heap.size ≤ k_) ∧ k_ ≠ gb604 ∧ k_ ≠ gb605 ∧ k_ ≠ gb606 ∧ k_ ≠ gb628) (.slice Ao36 x605001_1.length co36) x605001_1) := ⟨h3_⟩
    have n4_ : Aside0 (Kd.V (Kd.int .i64) 3 w44 w.heap.size (fun k_ => ((P0_1_ k_ ∨ P1_1_ k_) ∨ w.heap.size ≤ k_) ∧ k_ ≠ gb604 ∧ k_ ≠ gb605 ∧ k_ ≠ gb606 ∧ k_ ≠ gb628) (.slice Ao34 x606001_1.length co34) x606001_1) := ⟨h4_⟩
    have n5_ : Aside0 (w44.heap[gb604]? = some (.cells #[.int .i64 x605000_1, .slice Ao36 x605001_1.length co36] 135 (0, 0))) := ⟨h5_⟩
    have n6_ : Aside0 (w44.heap[gb605]? = some (.cells #[.int .i64 x606000_1, .slice Ao34 x606001_1.length co34] 135 (0, 0))) := ⟨h6_⟩
    have n7_ : Aside0 (w44.heap[gb606]? = some (.cells #[.int .i64 0, .slice none 0 0] 135 (0, 0))) := ⟨h7_⟩
    have n8_ : Aside0 (w44.heap[gb628]? = some (.cells #[.int .i64 0, .slice none 0 0] 135 (0, 0))) := ⟨h8_⟩
    have n9_ : Aside0 (w.heap.size ≤ gb628) := ⟨h9_⟩
    have n10_ : Aside0 (w.heap.size ≤ gb628) := ⟨h10_⟩
    have n11_ : Aside0 (gb604 ≠ gb628) := ⟨h11_⟩
    have n12_ : Aside0 (gb628 ≠ gb604) := ⟨h12_⟩
    have n13_ : Aside0 (gb605 ≠ gb628) := ⟨h13_⟩
    have n14_ : Aside0 (gb628 ≠ gb605) := ⟨h14_⟩
    have n15_ : Aside0 (gb606 ≠ gb628) := ⟨h15_⟩
    have n16_ : Aside0 (gb628 ≠ gb606) := ⟨h16_⟩
    have n17_ : Aside0 (Below w.heap.size w w44) := ⟨h17_⟩
    clear HO_605001
    clear HO_606001
    clear BK604
    clear BK605
    clear BK606
    clear HB
    clear h0_ h1_ h2_ h3_ h4_ h5_ h6_ h7_ h8_ h9_ h10_ h11_ h12_ h13_ h14_ h15_ h16_ h17_
    have HO619 := n0_
    have HO623 := n1_
    have HO627 := n2_
    have HO_605001 := n3_
    have HO_606001 := n4_
    have BK604 := n5_
    have BK605 := n6_
    have BK606 := n7_
    have BK628 := n8_
    have GW628 := n9_
    have GE628 := n10_
    have NB604_628 := n11_
    have NB628_604 := n12_
    have NB605_628 := n13_
    have NB628_605 := n14_
    have NB606_628 := n15_
    have NB628_606 := n16_
    have HB := n17_
    clear n0_ n1_ n2_ n3_ n4_ n5_ n6_ n7_ n8_ n9_ n10_ n11_ n12_ n13_ n14_ n15_ n16_ n17_
    have hH : w44.cell? ⟨gb604, 0, none⟩ = some (.int .i64 x605000_1) ∧ w44.cell? ⟨gb604, 1, none⟩ = some (.slice Ao36 x605001_1.length co36) ∧ w44.cell? ⟨gb605, 0, none⟩ = some (.int .i64 x606000_1) ∧ w44.cell? ⟨gb605, 1, none⟩ = some (.slice Ao34 x606001_1.length co34) := hS_
    obtain ⟨Ao46, co46, eo46⟩ := Kd.V_slice HO627.out
    (first | subst eo46 | (injection eo46 with f1_ f2_ f3_; have f4_ := f1_.symm; have f5_ := f3_.symm; clear f1_ f2_ f3_; subst f4_; subst f5_))
    refine norm_ (a' := ?_) ?_ ?_
    rotate_left
    ·simp only [putAll, Act.put, List.setIfInBounds_toArray, List.set_cons_zero, List.set_cons_succ]
     rfl
    refine oneZ 8 (none) #[true, true, true, true, true, true, true, true, true] (one_of HT_.out (by kernel_rfl)) fun K hK => ?_
    have hs45 : w44.cell? ⟨gb628, 0, none⟩ = some (.int .i64 0) := (blk_cell BK628.out 0).trans rfl
    have hfs45 := blk_frozen BK628.out 0
    have hs47 : w44.cell? ⟨gb628, 1, none⟩ = some (.slice none 0 0) := (blk_cell BK628.out 1).trans rfl
    have hfs47 := blk_frozen BK628.out 1
    refine skip_ (w1 := ?_) (by rfl) rfl ?_ ?_
    rotate_left
    ·go_simp
     rfl
    refine hK.out _ _ (cf hH) (fun hH => ?_)
    clear hK K
    refine done_ (done_of HT_.out (by kernel_rfl)) ?_
    try go_wp2
    replace HO_605001 : Aside0 (Kd.V (Kd.int .i64) 3 ((w44.setCell ⟨gb628, 0, none⟩ (.int .i64 t624)).setCell ⟨gb628, 1, none⟩ (.slice Ao46 t625.length co46)) w.heap.size (fun k_ => ((P0_1_ k_ ∨ P1_1_ k_) ∨ w.heap.size ≤ k_) ∧ k_ ≠ gb604 ∧ k_ ≠ gb605 ∧ k_ ≠ gb606 ∧ k_ ≠ gb628) (.slice Ao36 x605001_1.length co36) x605001_1) := ⟨by (with_reducible repeat (first | apply Kd.V_alloc | apply Kd.V_drewN | apply Kd.V_drew)); exact Kd.V_mono (Kd.V_far (p := ⟨gb628, 1, none⟩) (Kd.V_far (p := ⟨gb628, 0, none⟩) (Kd.V_mono HO_605001.out (fun k_ hk => (⟨hk, hk.2.2.2.2⟩ : _ ∧ k_ ≠ gb628))) (fun _ hk => hk.2) (.int .i64 t624)) (fun _ hk => hk.2) (.slice Ao46 t625.length co46)) (fun _ hk => ⟨hk.1.1, ⟨hk.1.2.1, ⟨hk.1.2.2.1, ⟨hk.1.2.2.2.1, hk.1.2.2.2.2⟩⟩⟩⟩)⟩
    replace HO_606001 : Aside0 (Kd.V (Kd.int .i64) 3 ((w44.setCell ⟨gb628, 0, none⟩ (.int .i64 t624)).setCell ⟨gb628, 1, none⟩ (.slice Ao46 t625.length co46)) w.heap.size (fun k_ => ((P0_1_ k_ ∨ P1_1_ k_) ∨ w.heap.size ≤ k_) ∧ k_ ≠ gb604 ∧ k_ ≠ gb605 ∧ k_ ≠ gb606 ∧ k_ ≠ gb628) (.slice Ao34 x606001_1.length co34) x606001_1) := ⟨by (with_reducible repeat (first | apply Kd.V_alloc | apply Kd.V_drewN | apply Kd.V_drew)); exact Kd.V_mono (Kd.V_far (p := ⟨gb628, 1, none⟩) (Kd.V_far (p := ⟨gb628, 0, none⟩) (Kd.V_mono HO_606001.out (fun k_ hk => (⟨hk, hk.2.2.2.2⟩ : _ ∧ k_ ≠ gb628))) (fun _ hk => hk.2) (.int .i64 t624)) (fun _ hk => hk.2) (.slice Ao46 t625.length co46)) (fun _ hk => ⟨hk.1.1, ⟨hk.1.2.1, ⟨hk.1.2.2.1, ⟨hk.1.2.2.2.1, hk.1.2.2.2.2⟩⟩⟩⟩)⟩
    replace HO619 : Aside0 (Kd.V (Kd.int .i64) 3 ((w44.setCell ⟨gb628, 0, none⟩ (.int .i64 t624)).setCell ⟨gb628, 1, none⟩ (.slice Ao46 t625.length co46)) w.heap.size (fun k_ => ((P0_1_ k_ ∨ P1_1_ k_) ∨ w.heap.size ≤ k_) ∧ k_ ≠ gb604 ∧ k_ ≠ gb605 ∧ k_ ≠ gb606 ∧ k_ ≠ gb628) v618 t617) := ⟨by (with_reducible repeat (first | apply Kd.V_alloc | apply Kd.V_drewN | apply Kd.V_drew)); exact Kd.V_mono (Kd.V_far (p := ⟨gb628, 1, none⟩) (Kd.V_far (p := ⟨gb628, 0, none⟩) (Kd.V_mono HO619.out (fun k_ hk => (⟨hk, hk.2.2.2.2⟩ : _ ∧ k_ ≠ gb628))) (fun _ hk => hk.2) (.int .i64 t624)) (fun _ hk => hk.2) (.slice Ao46 t625.length co46)) (fun _ hk => ⟨hk.1.1, ⟨hk.1.2.1, ⟨hk.1.2.2.1, ⟨hk.1.2.2.2.1, hk.1.2.2.2.2⟩⟩⟩⟩)⟩
    replace HO623 : Aside0 (Kd.V (Kd.int .i64) 3 ((w44.setCell ⟨gb628, 0, none⟩ (.int .i64 t624)).setCell ⟨gb628, 1, none⟩ (.slice Ao46 t625.length co46)) w.heap.size (fun k_ => ((P0_1_ k_ ∨ P1_1_ k_) ∨ w.heap.size ≤ k_) ∧ k_ ≠ gb604 ∧ k_ ≠ gb605 ∧ k_ ≠ gb606 ∧ k_ ≠ gb628) v622 t621) := ⟨by (with_reducible repeat (first | apply Kd.V_alloc | apply Kd.V_drewN | apply Kd.V_drew)); exact Kd.V_mono (Kd.V_far (p := ⟨gb628, 1, none⟩) (Kd.V_far (p := ⟨gb628, 0, none⟩) (Kd.V_mono HO623.out (fun k_ hk => (⟨hk, hk.2.2.2.2⟩ : _ ∧ k_ ≠ gb628))) (fun _ hk => hk.2) (.int .i64 t624)) (fun _ hk => hk.2) (.slice Ao46 t625.length co46)) (fun _ hk => ⟨hk.1.1, ⟨hk.1.2.1, ⟨hk.1.2.2.1, ⟨hk.1.2.2.2.1, hk.1.2.2.2.2⟩⟩⟩⟩)⟩
    replace HO627 : Aside0 (Kd.V (Kd.int .i64) 3 ((w44.setCell ⟨gb628, 0, none⟩ (.int .i64 t624)).setCell ⟨gb628, 1, none⟩ (.slice Ao46 t625.length co46)) w.heap.size (fun k_ => ((P0_1_ k_ ∨ P1_1_ k_) ∨ w.heap.size ≤ k_) ∧ k_ ≠ gb604 ∧ k_ ≠ gb605 ∧ k_ ≠ gb606 ∧ k_ ≠ gb628) (.slice Ao46 t625.length co46) t625) := ⟨by (with_reducible repeat (first | apply Kd.V_alloc | apply Kd.V_drewN | apply Kd.V_drew)); exact Kd.V_mono (Kd.V_far (p := ⟨gb628, 1, none⟩) (Kd.V_far (p := ⟨gb628, 0, none⟩) (Kd.V_mono HO627.out (fun k_ hk => (⟨hk, hk.2.2.2.2⟩ : _ ∧ k_ ≠ gb628))) (fun _ hk => hk.2) (.int .i64 t624)) (fun _ hk => hk.2) (.slice Ao46 t625.length co46)) (fun _ hk => ⟨hk.1.1, ⟨hk.1.2.1, ⟨hk.1.2.2.1, ⟨hk.1.2.2.2.1, hk.1.2.2.2.2⟩⟩⟩⟩)⟩
    replace BK604 : Aside0 (((w44.setCell ⟨gb628, 0, none⟩ (.int .i64 t624)).setCell ⟨gb628, 1, none⟩ (.slice Ao46 t625.length co46)).heap[gb604]? = some (.cells #[.int .i64 x605000_1, .slice Ao36 x605001_1.length co36] 135 (0, 0))) := ⟨bq BK604.out⟩
    replace BK605 : Aside0 (((w44.setCell ⟨gb628, 0, none⟩ (.int .i64 t624)).setCell ⟨gb628, 1, none⟩ (.slice Ao46 t625.length co46)).heap[gb605]? = some (.cells #[.int .i64 x606000_1, .slice Ao34 x606001_1.length co34] 135 (0, 0))) := ⟨bq BK605.out⟩
    replace BK606 : Aside0 (((w44.setCell ⟨gb628, 0, none⟩ (.int .i64 t624)).setCell ⟨gb628, 1, none⟩ (.slice Ao46 t625.length co46)).heap[gb606]? = some (.cells #[.int .i64 0, .slice none 0 0] 135 (0, 0))) := ⟨bq BK606.out⟩
    replace BK628 : Aside0 (((w44.setCell ⟨gb628, 0, none⟩ (.int .i64 t624)).setCell ⟨gb628, 1, none⟩ (.slice Ao46 t625.length co46)).heap[gb628]? = some (.cells #[.int .i64 t624, .slice Ao46 t625.length co46] 135 (0, 0))) := ⟨bq BK628.out⟩
    replace HB : Aside0 (Below w.heap.size w ((w44.setCell ⟨gb628, 0, none⟩ (.int .i64 t624)).setCell ⟨gb628, 1, none⟩ (.slice Ao46 t625.length co46))) := ⟨bz⟩
    generalize ((w44.setCell ⟨gb628, 0, none⟩ (.int .i64 t624)).setCell ⟨gb628, 1, none⟩ (.slice Ao46 t625.length co46)) = w48 at HO_605001 HO_606001 HO619 HO623 HO627 BK604 BK605 BK606 BK628 HB ⊢
    replace HO_605001 := m0 (Kd.V_drew HO_605001.out); replace HO_606001 := m0 (Kd.V_drew HO_606001.out); replace HO619 := m0 (Kd.V_drew HO619.out); replace HO623 := m0 (Kd.V_drew HO623.out); replace HO627 := m0 (Kd.V_drew HO627.out); replace BK604 := bd BK604; replace BK605 := bd BK605; replace BK606 := bd BK606; replace BK628 := bd BK628; replace HB := sd HB
    refine start_ (n := 4) (S := fun w' => w'.cell? ⟨gb605, 0, none⟩ = some (.int .i64 x606000_1) ∧ w'.cell? ⟨gb605, 1, none⟩ = some (.slice Ao34 x606001_1.length co34) ∧ w'.cell? ⟨gb628, 0, none⟩ = some (.int .i64 t624) ∧ w'.cell? ⟨gb628, 1, none⟩ = some (.slice Ao46 t625.length co46)) (ds := [3]) #[false, false, false, false] (by kernel_rfl) rfl rfl cz (fun hH => ?_)
    generalize w48.drew = w49 at HO_605001 HO_606001 HO619 HO623 HO627 BK604 BK605 BK606 BK628 HB hH ⊢
    refine takeZ 0 (some 20) #[true, false, false, false] (by kernel_rfl) hH ?_
    refine takeZ 1 (some 21) #[true, true, false, false] (by kernel_rfl) hH ?_
    refine oneZ 2 (none) #[true, true, true, false] (by kernel_rfl) fun K hK => ?_
    have hs50 : w49.cell? ⟨gb604, 0, none⟩ = some (.int .i64 x605000_1) := (blk_cell BK604.out 0).trans rfl
    have hfs50 := blk_frozen BK604.out 0
    have hns50_1 := NB605_604.out
    have hms50_1 := NB604_605.out
    have hs51 : w49.cell? ⟨gb604, 1, none⟩ = some (.slice Ao36 x605001_1.length co36) := (blk_cell BK604.out 1).trans rfl
    have hfs51 := blk_frozen BK604.out 1
    have hns51_1 := NB605_604.out
    have hms51_1 := NB604_605.out
    refine skip_ (w1 := ?_) (by rfl) rfl ?_ ?_
    rotate_left
    ·go_simp
     rfl
    refine hK.out _ _ (cf hH) (fun hH => ?_)
    clear hK K
    refine last_ (i := 3) (N := none) #[true, true, true, true] rfl rfl (by kernel_rfl) (by decide) (fun K hK => ?_)
    have hs52 : w49.cell? ⟨gb605, 0, none⟩ = some (.int .i64 x606000_1) := (blk_cell BK605.out 0).trans rfl
    have hfs52 := blk_frozen BK605.out 0
    have hns52_0 := NB604_605.out
    have hms52_0 := NB605_604.out
    have hs53 : w49.cell? ⟨gb605, 1, none⟩ = some (.slice Ao34 x606001_1.length co34) := (blk_cell BK605.out 1).trans rfl
    have hfs53 := blk_frozen BK605.out 1
    have hns53_0 := NB604_605.out
    have hms53_0 := NB605_604.out
    refine skip_ (w1 := ?_) (by rfl) rfl ?_ ?_
    rotate_left
    ·go_simp
     rfl
    refine hK.out _ _ ?_
    clear hK K
    refine done_ (by kernel_rfl) ?_
    try go_wp2
    go_roundg k1
    case measure => have := HK1.out; omega
    case rel => exact ⟨(x606000_1), (x606001_1), (t624), (t625), (.slice Ao34 x606001_1.length co34), (.slice Ao46 t625.length co46), H', ⟨by have := HK1.out; omega⟩, ⟨by (with_reducible repeat (first | apply Kd.V_alloc | apply Kd.V_drewN | apply Kd.V_drew)); exact Kd.V_mono (Kd.V_far (p := ⟨gb605, 1, none⟩) (Kd.V_far (p := ⟨gb605, 0, none⟩) (Kd.V_far (p := ⟨gb604, 1, none⟩) (Kd.V_far (p := ⟨gb604, 0, none⟩) (Kd.V_mono (Kd.V_mono HO_606001.out (fun k_ hk => (⟨hk, hk.2.1⟩ : _ ∧ k_ ≠ gb604))) (fun k_ hk => (⟨hk, hk.1.2.2.1⟩ : _ ∧ k_ ≠ gb605))) (fun _ hk => hk.1.2) (.int .i64 x606000_1)) (fun _ hk => hk.1.2) (.slice Ao34 x606001_1.length co34)) (fun _ hk => hk.2) (.int .i64 t624)) (fun _ hk => hk.2) (.slice Ao46 t625.length co46)) (fun _ hk => ⟨hk.1.1.1, ⟨hk.1.1.2.1, ⟨hk.1.1.2.2.1, hk.1.1.2.2.2.1⟩⟩⟩)⟩, ⟨by (with_reducible repeat (first | apply Kd.V_alloc | apply Kd.V_drewN | apply Kd.V_drew)); exact Kd.V_mono (Kd.V_far (p := ⟨gb605, 1, none⟩) (Kd.V_far (p := ⟨gb605, 0, none⟩) (Kd.V_far (p := ⟨gb604, 1, none⟩) (Kd.V_far (p := ⟨gb604, 0, none⟩) (Kd.V_mono (Kd.V_mono HO627.out (fun k_ hk => (⟨hk, hk.2.1⟩ : _ ∧ k_ ≠ gb604))) (fun k_ hk => (⟨hk, hk.1.2.2.1⟩ : _ ∧ k_ ≠ gb605))) (fun _ hk => hk.1.2) (.int .i64 x606000_1)) (fun _ hk => hk.1.2) (.slice Ao34 x606001_1.length co34)) (fun _ hk => hk.2) (.int .i64 t624)) (fun _ hk => hk.2) (.slice Ao46 t625.length co46)) (fun _ hk => ⟨hk.1.1.1, ⟨hk.1.1.2.1, ⟨hk.1.1.2.2.1, hk.1.1.2.2.2.1⟩⟩⟩)⟩, ⟨by (with_reducible repeat (first | refine blk_drewN ?_ _ | refine blk_drew ?_ | refine blk_alloc ?_ _)); refine blk_far ?_ NB604_605.out _; (with_reducible repeat (first | refine blk_drewN ?_ _ | refine blk_drew ?_ | refine blk_alloc ?_ _)); refine blk_far ?_ NB604_605.out _; (with_reducible repeat (first | refine blk_drewN ?_ _ | refine blk_drew ?_ | refine blk_alloc ?_ _)); refine blk_put (cs := #[.int .i64 x606000_1, .slice Ao36 x605001_1.length co36]) ?_ 1 _ rfl; (with_reducible repeat (first | refine blk_drewN ?_ _ | refine blk_drew ?_ | refine blk_alloc ?_ _)); refine blk_put (cs := #[.int .i64 x605000_1, .slice Ao36 x605001_1.length co36]) ?_ 0 _ rfl; (with_reducible repeat (first | refine blk_drewN ?_ _ | refine blk_drew ?_ | refine blk_alloc ?_ _)); exact BK604.out⟩, ⟨by (with_reducible repeat (first | refine blk_drewN ?_ _ | refine blk_drew ?_ | refine blk_alloc ?_ _)); refine blk_put (cs := #[.int .i64 t624, .slice Ao34 x606001_1.length co34]) ?_ 1 _ rfl; (with_reducible repeat (first | refine blk_drewN ?_ _ | refine blk_drew ?_ | refine blk_alloc ?_ _)); refine blk_put (cs := #[.int .i64 x606000_1, .slice Ao34 x606001_1.length co34]) ?_ 0 _ rfl; (with_reducible repeat (first | refine blk_drewN ?_ _ | refine blk_drew ?_ | refine blk_alloc ?_ _)); refine blk_far ?_ NB605_604.out _; (with_reducible repeat (first | refine blk_drewN ?_ _ | refine blk_drew ?_ | refine blk_alloc ?_ _)); refine blk_far ?_ NB605_604.out _; (with_reducible repeat (first | refine blk_drewN ?_ _ | refine blk_drew ?_ | refine blk_alloc ?_ _)); exact BK605.out⟩, ⟨bq BK606.out⟩, ⟨bz⟩⟩
end
section
def Bs_WideCmp.f (k : Nat) (a0_0 : Int) (l0_1 : List Int) (a1_0 : Int) (l1_1 : List Int) : Option (Int) := (Bs_WideSub.f k a0_0 l0_1 a1_0 l1_1).bind fun bt631 => (some bt631.1)
theorem Bs_WideCmp.mono : ∀ a0 a1 a2 a3 k, LeO (Bs_WideCmp.f k a0 a1 a2 a3) (Bs_WideCmp.f (k + 1) a0 a1 a2 a3) := by
 intro a0 a1 a2 a3 k
 unfold Bs_WideCmp.f
 repeat' with_reducible first
  | exact Bs_WideSub.mono ..
  | exact LeO.refl ..
  | exact LeO.none ..
  | refine LeO.ite ?_ ?_
  | refine LeO.bind ?_ (fun _ => ?_)
theorem Bs_WideCmp.calls (k : Nat) (a0_0 : Int) (A0_1 : Option Addr) (c0_1 : Nat) (l0_1 : List Int) (a1_0 : Int) (A1_1 : Option Addr) (c1_1 : Nat) (l1_1 : List Int) (r : Int) (w : World) (hr0_1 : Kd.C (Kd.int .i64) w A0_1 l0_1.length l0_1) (hc0_1 : l0_1.length ≤ c0_1) (hr1_1 : Kd.C (Kd.int .i64) w A1_1 l1_1.length l1_1) (hc1_1 : l1_1.length ≤ c1_1) (h : Bs_WideCmp.f k a0_0 l0_1 a1_0 l1_1 = some r) :
  Calls Tryd.prog 148 #[.agg #[.int .i64 a0_0, .slice A0_1 l0_1.length c0_1], .agg #[.int .i64 a1_0, .slice A1_1 l1_1.length c1_1]] w fun e w' => e = .returned (.int .i64 r) ∧ Below w.heap.size w w' := by
 have hu135 := Tryd.underlying135
 have hfd135_0 : ∀ (x0_ x1_ : Value) (W_ : World), (Instr.field 135 (.agg #[x0_, x1_]) 0).run Tryd.prog W_ = .ok (x0_) W_ := fun _ _ _ => by kernel_rfl
 have HR0_1 := m0 hr0_1
 have HC0_1 := m0 hc0_1
 clear hr0_1 hc0_1
 have HR1_1 := m0 hr1_1
 have HC1_1 := m0 hc1_1
 clear hr1_1 hc1_1
 have HB := m0 (Below.refl w.heap.size w)
 have H : ((Bs_WideSub.f k a0_0 l0_1 a1_0 l1_1).bind fun bt631 => (some bt631.1)) = some r := h
 clear h
 replace H := ob H
 obtain ⟨⟨t631, t632⟩, A3, H⟩ := H
 (try dsimp only at H)
 replace A3 := m0 A3
 obtain rfl := Option.some.inj H
 go_enter Tryd.func148, Tryd.ntmps148
 go_wp2_with (first | ((with_reducible refine gate_dst (N := 2) rfl ?_); refine be 2 135 #[.int .i64 a0_0, .slice A0_1 l0_1.length c0_1] ?_; intro gb629 hg w4 hbox hb; have BK629 := m0 hbox; have GW629 := gw w hg; have GE629 := gw w hg; replace HB := sb HB hb; clear hb hbox hg) | ((with_reducible refine gate_dst (N := 3) rfl ?_); refine be 3 135 #[.int .i64 a1_0, .slice A1_1 l1_1.length c1_1] ?_; intro gb630 hg w5 hbox hb; have BK630 := m0 hbox; have GW630 := gw w hg; have GE630 := gw w hg; replace HB := sb HB hb; have NB629_630 := nl BK629 hg; have NB630_629 := ng (nl BK629 hg); replace BK629 := bb BK629 hb; clear hb hbox hg; have hnb6 := NB629_630.out; have hnc6 := NB630_629.out; obtain ⟨_, _, _, _⟩ := b2 BK629; obtain ⟨_, _, _, _⟩ := b2 BK630) | ((with_reducible refine gate_callee (f := 166) rfl ?_); refine gl (some 7) Tryd.func166 #[.agg #[.int .i64 a0_0, .slice A0_1 l0_1.length c0_1], .agg #[.int .i64 a1_0, .slice A1_1 l1_1.length c1_1]] ?_; (with_reducible refine (Bs_WideSub.calls k a0_0 (fun k_ => k_ < w.heap.size) _ _ l0_1 a1_0 (fun k_ => k_ < w.heap.size) _ _ l1_1 t631 t632 _ ?side1 ?side2 A3.out).mono ?_); (case side1 => exact Kd.V_mk HC0_1.out (Kd.F_below (Kd.C_F (Kd.heap_int .i64) HR0_1.out) bz)); (case side2 => exact Kd.V_mk HC1_1.out (Kd.F_below (Kd.C_F (Kd.heap_int .i64) HR1_1.out) bz)); rintro e w9 ⟨v633, rfl, ho0, hb⟩; refine ⟨_, rfl, ?_⟩; have HO634 := m0 (Kd.V_lower (Kd.V_mono (ok' := fun k_ => k_ ≠ gb629 ∧ k_ ≠ gb630) ho0 (fun k_ hk_ => ⟨Or.elim hk_ (fun hs_ => Or.elim hs_ (fun hs_ => fun e_ => Nat.not_le.2 hs_ (by rw [e_]; exact GW629.out)) (fun hs_ => fun e_ => Nat.not_le.2 hs_ (by rw [e_]; exact GW629.out))) (fun hn_ => (Kd.freshB (g := gb629) (o := .cells #[.int .i64 a0_0, .slice A0_1 l0_1.length c0_1] 135 (0, 0)) (bk BK629.out) k_ hn_)), Or.elim hk_ (fun hs_ => Or.elim hs_ (fun hs_ => fun e_ => Nat.not_le.2 hs_ (by rw [e_]; exact GW630.out)) (fun hs_ => fun e_ => Nat.not_le.2 hs_ (by rw [e_]; exact GW630.out))) (fun hn_ => (Kd.freshB (g := gb630) (o := .cells #[.int .i64 a1_0, .slice A1_1 l1_1.length c1_1] 135 (0, 0)) (bk BK630.out) k_ hn_))⟩)) (below_size bz)); replace BK629 := bb BK629 hb; replace BK630 := bb BK630 hb; replace HB := sb HB hb; (try clear hb); (try clear ho0)))
 go_ret
 exact ez
end
end Go.Proofs.YtjnkphmcndaijaaDoor.A
