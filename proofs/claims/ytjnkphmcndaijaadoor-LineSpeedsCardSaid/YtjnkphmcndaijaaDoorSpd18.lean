/- Walks of the program's functions (printed, made shorter), each with what it computes. -/
import Derived.Test.YtjnkphmcndaijaaDoorSpd04
import Derived.Test.YtjnkphmcndaijaaDoorSpd14
import Derived.Test.YtjnkphmcndaijaaDoorSpd15
import Derived.Test.YtjnkphmcndaijaaDoorSpd17
import Derived.Test.YtjnkphmcndaijaaDoorSpd03
import Derived.Test.YtjnkphmcndaijaaDoorSpd16
namespace Go.Proofs.YtjnkphmcndaijaaDoor.A
set_option maxHeartbeats 8000000
set_option maxRecDepth 100000
open Go.RowKit Go.Proofs.YtjnkphmcndaijaaDoorW.PrintWords Go.Proofs.YtjnkphmcndaijaaDoorW.PrintLast Go.Proofs.YtjnkphmcndaijaaDoorW.PrintMore
attribute [local go_sem] max2_int min2_int max_two min_two max_three min_three max_four min_four
set_option linter.unusedVariables false
set_option linter.unusedSimpArgs false
section
def Bs_RatioMake.f (k : Nat) (a0_0 : Int) (l0_1 : List Int) (a1_0 : Int) (l1_1 : List Int) : Option (Int × List Int × Int × List Int) := (Bs_WideSign.f a1_0 l1_1).bind fun t638 => (if t638 < 0 then (none) else ((Bs_wideGcd.f k a0_0 l0_1 a1_0 l1_1).bind fun bt639 => ((Bs_WideOf.f k 1).bind fun bt644 => ((Bs_WideCmp.f k bt639.1 bt639.2 bt644.1 bt644.2).bind fun t648 => (if t648 = 0 then (some (a0_0, l0_1, a1_0, l1_1)) else ((Bs_WideFloor.f k a0_0 l0_1 bt639.1 bt639.2).bind fun bt649 => ((Bs_WideFloor.f k a1_0 l1_1 bt639.1 bt639.2).bind fun bt653 => (some (bt649.1, bt649.2, bt653.1, bt653.2)))))))))
theorem Bs_RatioMake.mono : ∀ a0 a1 a2 a3 k, LeO (Bs_RatioMake.f k a0 a1 a2 a3) (Bs_RatioMake.f (k + 1) a0 a1 a2 a3) := by
 intro a0 a1 a2 a3 k
 unfold Bs_RatioMake.f
 repeat' with_reducible first
  | exact Bs_WideCmp.mono ..
  | exact Bs_WideFloor.mono ..
  | exact Bs_WideOf.mono ..
  | exact Bs_wideGcd.mono ..
  | exact LeO.refl ..
  | exact LeO.none ..
  | refine LeO.ite ?_ ?_
  | refine LeO.bind ?_ (fun _ => ?_)
def Bs_RatioMake.T6 : Bool × List (List Nat × List Nat) := (true, [([], []), ([], []), ([0, 1], [0, 1]), ([], []), ([], []), ([3, 4, 2], [3, 4]), ([2, 5], [2, 5]), ([6, 5, 0, 1, 2, 3, 4, 5, 6], [6])])
def Bs_RatioMake.B6 : List Nat := [0, 0, 3, 0, 0, 31, 63, 127]
theorem Bs_RatioMake.tab6 : rtab .any (opsOf Tryd.f136 6) = Bs_RatioMake.T6 := by kernel_rfl
theorem Bs_RatioMake.bits6 : waitsOk Bs_RatioMake.T6.2 Bs_RatioMake.B6 = true := by kernel_rfl
theorem Bs_RatioMake.calls (k : Nat) (a0_0 : Int) (P0_1_ : Nat → Prop) (A0_1 : Option Addr) (c0_1 : Nat) (l0_1 : List Int) (a1_0 : Int) (P1_1_ : Nat → Prop) (A1_1 : Option Addr) (c1_1 : Nat) (l1_1 : List Int) (r1 : Int) (r2 : List Int) (r3 : Int) (r4 : List Int) (w : World) (hs0_1 : Kd.V (Kd.int .i64) 3 w w.heap.size (fun k_ => P0_1_ k_) (.slice A0_1 l0_1.length c0_1) l0_1) (hs1_1 : Kd.V (Kd.int .i64) 3 w w.heap.size (fun k_ => P1_1_ k_) (.slice A1_1 l1_1.length c1_1) l1_1) (h : Bs_RatioMake.f k a0_0 l0_1 a1_0 l1_1 = some (r1, r2, r3, r4)) :
  Calls Tryd.prog 136 #[.agg #[.int .i64 a0_0, .slice A0_1 l0_1.length c0_1], .agg #[.int .i64 a1_0, .slice A1_1 l1_1.length c1_1]] w fun e w' => ∃ v1_ v3_ : Value, e = .returned (.agg #[.int .i64 r1, v1_, .int .i64 r3, v3_]) ∧ Kd.V (Kd.int .i64) 3 w' w.heap.size (fun k_ => ((P0_1_ k_ ∨ P1_1_ k_) ∨ w.heap.size ≤ k_)) v1_ r2 ∧ Kd.V (Kd.int .i64) 3 w' w.heap.size (fun k_ => ((P0_1_ k_ ∨ P1_1_ k_) ∨ w.heap.size ≤ k_)) v3_ r4 ∧ Below w.heap.size w w' := by
 have hu135 := Tryd.underlying135
 have hu137 := Tryd.underlying137
 have HO0_1 := m0 (show Kd.V (Kd.int .i64) 3 w w.heap.size (fun k_ => ((P0_1_ k_ ∨ P1_1_ k_) ∨ w.heap.size ≤ k_)) (.slice A0_1 l0_1.length c0_1) l0_1 from Kd.V_mono hs0_1 (fun k_ hk => .inl (.inl hk)))
 have HO1_1 := m0 (show Kd.V (Kd.int .i64) 3 w w.heap.size (fun k_ => ((P0_1_ k_ ∨ P1_1_ k_) ∨ w.heap.size ≤ k_)) (.slice A1_1 l1_1.length c1_1) l1_1 from Kd.V_mono hs1_1 (fun k_ hk => .inl (.inr hk)))
 have HB := m0 (Below.refl w.heap.size w)
 have H : ((Bs_WideSign.f a1_0 l1_1).bind fun t638 => (if t638 < 0 then (none) else ((Bs_wideGcd.f k a0_0 l0_1 a1_0 l1_1).bind fun bt639 => ((Bs_WideOf.f k 1).bind fun bt644 => ((Bs_WideCmp.f k bt639.1 bt639.2 bt644.1 bt644.2).bind fun t648 => (if t648 = 0 then (some (a0_0, l0_1, a1_0, l1_1)) else ((Bs_WideFloor.f k a0_0 l0_1 bt639.1 bt639.2).bind fun bt649 => ((Bs_WideFloor.f k a1_0 l1_1 bt639.1 bt639.2).bind fun bt653 => (some (bt649.1, bt649.2, bt653.1, bt653.2)))))))))) = some (r1, r2, r3, r4) := h
 clear h
 replace H := ob H
 obtain ⟨t638, A3, H⟩ := H
 (try dsimp only at H)
 replace A3 := m0 A3
 by_cases c4 : t638 < 0
 ·rw [if_pos c4] at H
  exact absurd H (by simp)
 ·rw [if_neg c4] at H
  have c4b0 := decide_eq_false c4
  clear c4
  replace H := ob H
  obtain ⟨⟨t639, t640⟩, A5, H⟩ := H
  (try dsimp only at H)
  replace A5 := m0 A5
  replace H := ob H
  obtain ⟨⟨t644, t645⟩, A6, H⟩ := H
  (try dsimp only at H)
  replace A6 := m0 A6
  replace H := ob H
  obtain ⟨t648, A7, H⟩ := H
  (try dsimp only at H)
  replace A7 := m0 A7
  by_cases c8 : t648 = 0
  ·rw [if_pos c8] at H
   have c8b0 := beq_iff_eq.mpr c8
   have c8b1 := bne_eq_false_iff_eq.mpr c8
   clear c8
   simp only [Option.some.injEq, Prod.mk.injEq] at H
   obtain ⟨rfl, rfl, rfl, rfl⟩ := H
   go_enter Tryd.func136, Tryd.ntmps136
   try go_wp2_with (first | ((with_reducible refine gate_dst (N := 2) rfl ?_); refine be 2 135 #[.int .i64 a0_0, .slice A0_1 l0_1.length c0_1] ?_; intro gb635 hg w9 hbox hb; replace HO0_1 := ve HO0_1 hg hb; replace HO1_1 := ve HO1_1 hg hb; have BK635 := m0 hbox; have GE635 := gw w hg; replace HB := sb HB hb; clear hb hbox hg) | ((with_reducible refine gate_dst (N := 3) rfl ?_); refine be 3 135 #[.int .i64 a1_0, .slice A1_1 l1_1.length c1_1] ?_; intro gb636 hg w10 hbox hb; replace HO0_1 := ve HO0_1 hg hb; replace HO1_1 := ve HO1_1 hg hb; have BK636 := m0 hbox; have GE636 := gw w hg; replace HB := sb HB hb; have NB635_636 := nl BK635 hg; have NB636_635 := ng (nl BK635 hg); replace BK635 := bb BK635 hb; clear hb hbox hg) | ((with_reducible refine gate_dst (N := 4) rfl ?_); refine be 4 137 #[.int .i64 0, .slice none 0 0, .int .i64 0, .slice none 0 0] ?_; intro gb637 hg w11 hbox hb; replace HO0_1 := ve HO0_1 hg hb; replace HO1_1 := ve HO1_1 hg hb; have BK637 := m0 hbox; have GE637 := gw w hg; replace HB := sb HB hb; have NB635_637 := nl BK635 hg; have NB637_635 := ng (nl BK635 hg); replace BK635 := bb BK635 hb; have NB636_637 := nl BK636 hg; have NB637_636 := ng (nl BK636 hg); replace BK636 := bb BK636 hb; clear hb hbox hg; have hnb12 := NB636_635.out; have hnc12 := NB635_636.out; have hnb13 := NB636_637.out; have hnc13 := NB637_636.out; obtain ⟨_, _, _, _⟩ := b2 BK636) | ((with_reducible refine gate_callee (f := 145) rfl ?_); refine gl (some 7) Tryd.func145 #[.agg #[.int .i64 a1_0, .slice A1_1 l1_1.length c1_1]] ?_; (with_reducible refine (Bs_WideSign.calls a1_0 _ _ l1_1 t638 _ ?side1 ?side2 A3.out).mono ?_); (case side1 => exact bc (Kd.V_reads' HO1_1.out).2.2); (case side2 => exact (Kd.V_reads' HO1_1.out).2.1); rintro e w15 ⟨rfl, hb⟩; refine ⟨_, rfl, ?_⟩; replace HO0_1 := vb HO0_1 hb; replace HO1_1 := vb HO1_1 hb; replace BK635 := bb BK635 hb; replace BK636 := bb BK636 hb; replace BK637 := bb BK637 hb; replace HB := sb HB hb; (try clear hb); have hnb16 := NB635_637.out; have hnc16 := NB637_635.out; obtain ⟨_, _, _, _⟩ := b2 BK635; obtain ⟨_, _, _, _⟩ := b2 BK636) | ((with_reducible refine gate_callee (f := 147) rfl ?_); refine gl (some 15) Tryd.func147 #[.agg #[.int .i64 a0_0, .slice A0_1 l0_1.length c0_1], .agg #[.int .i64 a1_0, .slice A1_1 l1_1.length c1_1]] ?_; (with_reducible refine (Bs_wideGcd.calls k a0_0 (fun k_ => (((((P0_1_ k_ ∨ P1_1_ k_) ∨ w.heap.size ≤ k_) ∧ k_ ≠ gb635) ∧ k_ ≠ gb636) ∧ k_ ≠ gb637)) _ _ l0_1 a1_0 (fun k_ => (((((P0_1_ k_ ∨ P1_1_ k_) ∨ w.heap.size ≤ k_) ∧ k_ ≠ gb635) ∧ k_ ≠ gb636) ∧ k_ ≠ gb637)) _ _ l1_1 t639 t640 _ ?side1 ?side2 A5.out).mono ?_); (case side1 => exact HO0_1.out); (case side2 => exact HO1_1.out); rintro e w19 ⟨v641, rfl, ho0, hb⟩; refine ⟨_, rfl, ?_⟩; replace HO0_1 := vb HO0_1 hb; replace HO1_1 := vb HO1_1 hb; have HO642 := m0 (Kd.V_lower (Kd.V_mono (ok' := fun k_ => ((P0_1_ k_ ∨ P1_1_ k_) ∨ w.heap.size ≤ k_) ∧ k_ ≠ gb635 ∧ k_ ≠ gb636 ∧ k_ ≠ gb637) ho0 (fun k_ hk_ => ⟨Or.elim hk_ (fun hs_ => Or.elim hs_ (fun hs_ => hs_.1.1.1) (fun hs_ => hs_.1.1.1)) (fun hn_ => (.inr (Nat.le_trans (below_size bz) hn_))), Or.elim hk_ (fun hs_ => Or.elim hs_ (fun hs_ => hs_.1.1.2) (fun hs_ => hs_.1.1.2)) (fun hn_ => (Kd.freshB (g := gb635) (o := .cells #[.int .i64 a0_0, .slice A0_1 l0_1.length c0_1] 135 (0, 0)) (bk BK635.out) k_ hn_)), Or.elim hk_ (fun hs_ => Or.elim hs_ (fun hs_ => hs_.1.2) (fun hs_ => hs_.1.2)) (fun hn_ => (Kd.freshB (g := gb636) (o := .cells #[.int .i64 a1_0, .slice A1_1 l1_1.length c1_1] 135 (0, 0)) (bk BK636.out) k_ hn_)), Or.elim hk_ (fun hs_ => Or.elim hs_ (fun hs_ => hs_.2) (fun hs_ => hs_.2)) (fun hn_ => (Kd.freshB (g := gb637) (o := .cells #[.int .i64 0, .slice none 0 0, .int .i64 0, .slice none 0 0] 137 (0, 0)) (bk BK637.out) k_ hn_))⟩)) (below_size bz)); replace BK635 := bb BK635 hb; replace BK636 := bb BK636 hb; replace BK637 := bb BK637 hb; replace HB := sb HB hb; (try clear hb); (try clear ho0)) | ((with_reducible refine gate_dst (N := 5) rfl ?_); refine be 5 135 #[.int .i64 0, .slice none 0 0] ?_; intro gb643 hg w20 hbox hb; replace HO0_1 := ve HO0_1 hg hb; replace HO1_1 := ve HO1_1 hg hb; replace HO642 := ve HO642 hg hb; have BK643 := m0 hbox; have GE643 := gw w hg; replace HB := sb HB hb; have NB635_643 := nl BK635 hg; have NB643_635 := ng (nl BK635 hg); replace BK635 := bb BK635 hb; have NB636_643 := nl BK636 hg; have NB643_636 := ng (nl BK636 hg); replace BK636 := bb BK636 hb; have NB637_643 := nl BK637 hg; have NB643_637 := ng (nl BK637 hg); replace BK637 := bb BK637 hb; clear hb hbox hg; have hnb21 := NB643_635.out; have hnc21 := NB635_643.out; have hnb22 := NB643_636.out; have hnc22 := NB636_643.out; have hnb23 := NB643_637.out; have hnc23 := NB637_643.out; obtain ⟨_, _, _, _⟩ := b2 BK643; obtain ⟨Ao25, co25, eo25⟩ := Kd.V_slice HO642.out; subst eo25))
   replace HO0_1 : Aside0 (Kd.V (Kd.int .i64) 3 ((w20.setCell ⟨gb643, 0, none⟩ (.int .i64 t639)).setCell ⟨gb643, 1, none⟩ (.slice Ao25 t640.length co25)) w.heap.size (fun k_ => ((P0_1_ k_ ∨ P1_1_ k_) ∨ w.heap.size ≤ k_) ∧ k_ ≠ gb635 ∧ k_ ≠ gb636 ∧ k_ ≠ gb637 ∧ k_ ≠ gb643) (.slice A0_1 l0_1.length c0_1) l0_1) := ⟨by (with_reducible repeat (first | apply Kd.V_alloc | apply Kd.V_drewN | apply Kd.V_drew)); exact Kd.V_mono (Kd.V_far (p := ⟨gb643, 1, none⟩) (Kd.V_far (p := ⟨gb643, 0, none⟩) (Kd.V_mono HO0_1.out (fun k_ hk => (⟨hk, hk.2⟩ : _ ∧ k_ ≠ gb643))) (fun _ hk => hk.2) (.int .i64 t639)) (fun _ hk => hk.2) (.slice Ao25 t640.length co25)) (fun _ hk => ⟨hk.1.1.1.1.1, ⟨hk.1.1.1.1.2, ⟨hk.1.1.1.2, ⟨hk.1.1.2, hk.1.2⟩⟩⟩⟩)⟩
   replace HO1_1 : Aside0 (Kd.V (Kd.int .i64) 3 ((w20.setCell ⟨gb643, 0, none⟩ (.int .i64 t639)).setCell ⟨gb643, 1, none⟩ (.slice Ao25 t640.length co25)) w.heap.size (fun k_ => ((P0_1_ k_ ∨ P1_1_ k_) ∨ w.heap.size ≤ k_) ∧ k_ ≠ gb635 ∧ k_ ≠ gb636 ∧ k_ ≠ gb637 ∧ k_ ≠ gb643) (.slice A1_1 l1_1.length c1_1) l1_1) := ⟨by (with_reducible repeat (first | apply Kd.V_alloc | apply Kd.V_drewN | apply Kd.V_drew)); exact Kd.V_mono (Kd.V_far (p := ⟨gb643, 1, none⟩) (Kd.V_far (p := ⟨gb643, 0, none⟩) (Kd.V_mono HO1_1.out (fun k_ hk => (⟨hk, hk.2⟩ : _ ∧ k_ ≠ gb643))) (fun _ hk => hk.2) (.int .i64 t639)) (fun _ hk => hk.2) (.slice Ao25 t640.length co25)) (fun _ hk => ⟨hk.1.1.1.1.1, ⟨hk.1.1.1.1.2, ⟨hk.1.1.1.2, ⟨hk.1.1.2, hk.1.2⟩⟩⟩⟩)⟩
   replace HO642 : Aside0 (Kd.V (Kd.int .i64) 3 ((w20.setCell ⟨gb643, 0, none⟩ (.int .i64 t639)).setCell ⟨gb643, 1, none⟩ (.slice Ao25 t640.length co25)) w.heap.size (fun k_ => ((P0_1_ k_ ∨ P1_1_ k_) ∨ w.heap.size ≤ k_) ∧ k_ ≠ gb635 ∧ k_ ≠ gb636 ∧ k_ ≠ gb637 ∧ k_ ≠ gb643) (.slice Ao25 t640.length co25) t640) := ⟨by (with_reducible repeat (first | apply Kd.V_alloc | apply Kd.V_drewN | apply Kd.V_drew)); exact Kd.V_mono (Kd.V_far (p := ⟨gb643, 1, none⟩) (Kd.V_far (p := ⟨gb643, 0, none⟩) (Kd.V_mono HO642.out (fun k_ hk => (⟨hk, hk.2⟩ : _ ∧ k_ ≠ gb643))) (fun _ hk => hk.2) (.int .i64 t639)) (fun _ hk => hk.2) (.slice Ao25 t640.length co25)) (fun _ hk => ⟨hk.1.1.1, ⟨hk.1.1.2.1, ⟨hk.1.1.2.2.1, ⟨hk.1.1.2.2.2, hk.1.2⟩⟩⟩⟩)⟩
   replace BK635 : Aside0 (((w20.setCell ⟨gb643, 0, none⟩ (.int .i64 t639)).setCell ⟨gb643, 1, none⟩ (.slice Ao25 t640.length co25)).heap[gb635]? = some (.cells #[.int .i64 a0_0, .slice A0_1 l0_1.length c0_1] 135 (0, 0))) := ⟨bq BK635.out⟩
   replace BK636 : Aside0 (((w20.setCell ⟨gb643, 0, none⟩ (.int .i64 t639)).setCell ⟨gb643, 1, none⟩ (.slice Ao25 t640.length co25)).heap[gb636]? = some (.cells #[.int .i64 a1_0, .slice A1_1 l1_1.length c1_1] 135 (0, 0))) := ⟨bq BK636.out⟩
   replace BK637 : Aside0 (((w20.setCell ⟨gb643, 0, none⟩ (.int .i64 t639)).setCell ⟨gb643, 1, none⟩ (.slice Ao25 t640.length co25)).heap[gb637]? = some (.cells #[.int .i64 0, .slice none 0 0, .int .i64 0, .slice none 0 0] 137 (0, 0))) := ⟨bq BK637.out⟩
   replace BK643 : Aside0 (((w20.setCell ⟨gb643, 0, none⟩ (.int .i64 t639)).setCell ⟨gb643, 1, none⟩ (.slice Ao25 t640.length co25)).heap[gb643]? = some (.cells #[.int .i64 t639, .slice Ao25 t640.length co25] 135 (0, 0))) := ⟨bq BK643.out⟩
   replace HB : Aside0 (Below w.heap.size w ((w20.setCell ⟨gb643, 0, none⟩ (.int .i64 t639)).setCell ⟨gb643, 1, none⟩ (.slice Ao25 t640.length co25))) := ⟨bz⟩
   generalize ((w20.setCell ⟨gb643, 0, none⟩ (.int .i64 t639)).setCell ⟨gb643, 1, none⟩ (.slice Ao25 t640.length co25)) = w26 at HO0_1 HO1_1 HO642 BK635 BK636 BK637 BK643 HB ⊢
   replace HO0_1 := m0 (Kd.V_drew HO0_1.out); replace HO1_1 := m0 (Kd.V_drew HO1_1.out); replace HO642 := m0 (Kd.V_drew HO642.out); replace BK635 := bd BK635; replace BK636 := bd BK636; replace BK637 := bd BK637; replace BK643 := bd BK643; replace HB := sd HB
   refine start_ (n := 4) (S := fun w' => w'.cell? ⟨gb643, 0, none⟩ = some (.int .i64 t639) ∧ w'.cell? ⟨gb643, 1, none⟩ = some (.slice Ao25 t640.length co25)) (ds := []) #[false, false, false, false] (by kernel_rfl) rfl rfl cz (fun hH => ?_)
   generalize w26.drew = w27 at HO0_1 HO1_1 HO642 BK635 BK636 BK637 BK643 HB hH ⊢
   refine takeZ 0 (some 16) #[true, false, false, false] (by kernel_rfl) hH ?_
   refine oneZ 1 (some 17) #[true, true, false, false] (by kernel_rfl) fun K hK => ?_
   refine gz Tryd.func139 #[.int .i64 1] ?_
   with_reducible refine (Bs_WideOf.calls k 1 t644 t645 _ A6.out).mono ?_
   rintro e w28 ⟨v646, rfl, ho0, hb⟩
   refine ⟨_, rfl, ?_⟩
   replace HO0_1 := vb HO0_1 hb; replace HO1_1 := vb HO1_1 hb; replace HO642 := vb HO642 hb; have HO647 := m0 (Kd.V_lower (Kd.V_mono (ok' := fun k_ => ((P0_1_ k_ ∨ P1_1_ k_) ∨ w.heap.size ≤ k_) ∧ k_ ≠ gb635 ∧ k_ ≠ gb636 ∧ k_ ≠ gb637 ∧ k_ ≠ gb643) ho0 (fun k_ hk_ => ⟨(.inr (Nat.le_trans (below_size bz) hk_)), (Kd.freshB (g := gb635) (o := .cells #[.int .i64 a0_0, .slice A0_1 l0_1.length c0_1] 135 (0, 0)) (bk BK635.out) k_ hk_), (Kd.freshB (g := gb636) (o := .cells #[.int .i64 a1_0, .slice A1_1 l1_1.length c1_1] 135 (0, 0)) (bk BK636.out) k_ hk_), (Kd.freshB (g := gb637) (o := .cells #[.int .i64 0, .slice none 0 0, .int .i64 0, .slice none 0 0] 137 (0, 0)) (bk BK637.out) k_ hk_), (Kd.freshB (g := gb643) (o := .cells #[.int .i64 t639, .slice Ao25 t640.length co25] 135 (0, 0)) (bk BK643.out) k_ hk_)⟩)) (below_size bz)); replace BK635 := bb BK635 hb; replace BK636 := bb BK636 hb; replace BK637 := bb BK637 hb; replace BK643 := bb BK643 hb; replace HB := sb HB hb
   (try clear hb)
   (try clear ho0)
   obtain ⟨Ao29, co29, eo29⟩ := Kd.V_slice HO647.out
   subst eo29
   refine hK.out _ _ cz (fun hH => ?_)
   clear hK K
   refine norm_ (a' := ?_) ?_ ?_
   rotate_left
   ·show Act.put _ (some 17) _ = _
    exact pz
   refine oneZ 2 (some 18) #[true, true, true, false] (by kernel_rfl) fun K hK => ?_
   refine gz Tryd.func148 #[.agg #[.int .i64 t639, .slice Ao25 t640.length co25], .agg #[.int .i64 t644, .slice Ao29 t645.length co29]] ?_
   with_reducible refine (Bs_WideCmp.calls k t639 _ _ t640 t644 _ _ t645 t648 _ ?side1 ?side2 ?side3 ?side4 A7.out).mono ?_
   (case side1 => exact bc (Kd.V_reads' HO642.out).2.2)
   (case side2 => exact (Kd.V_reads' HO642.out).2.1)
   (case side3 => exact bc (Kd.V_reads' HO647.out).2.2)
   (case side4 => exact (Kd.V_reads' HO647.out).2.1)
   rintro e w30 ⟨rfl, hb⟩
   refine ⟨_, rfl, ?_⟩
   replace HO0_1 := vb HO0_1 hb; replace HO1_1 := vb HO1_1 hb; replace HO642 := vb HO642 hb; replace HO647 := vb HO647 hb; replace BK635 := bb BK635 hb; replace BK636 := bb BK636 hb; replace BK637 := bb BK637 hb; replace BK643 := bb BK643 hb; replace HB := sb HB hb
   (try clear hb)
   refine hK.out _ _ cz (fun hH => ?_)
   clear hK K
   refine norm_ (a' := ?_) ?_ ?_
   rotate_left
   ·show Act.put _ (some 18) _ = _
    exact pz
   refine pure_ (i := 3) (N := some 19) (v := ?_) (a' := ?_) #[true, true, true, true] rfl rfl (by kernel_rfl) (fun _ _ _ h => h) (Or.inl ⟨by rfl, ?_⟩) ?_ ?_
   rotate_left
   ·intro w'
    go_simp
    with_reducible rfl
   rotate_left
   ·exact pz
   refine done_ (by kernel_rfl) ?_
   obtain ⟨_, _, _, _⟩ := b2 BK635
   obtain ⟨_, _, _, _⟩ := b2 BK636
   obtain ⟨_, _, _, _, _, _, _, _⟩ := b4 BK637
   try go_wp2
   refine bodyPost_ret (results_cell_row rfl _ _ gb637 137 #[.int .i64 a0_0, .slice A0_1 l0_1.length c0_1, .int .i64 a1_0, .slice A1_1 l1_1.length c1_1] (0, 0) _ rfl (bq BK637.out) Tryd.underlying137 rfl (by kernel_rfl)) rfl ?_
   exact ⟨_, _, by first | rfl | (simp [errW_none, errW_some] <;> rfl) | (simp [*, errW_none, errW_some] <;> rfl), by (with_reducible repeat (first | apply Kd.V_alloc | apply Kd.V_drewN | apply Kd.V_drew)); exact Kd.V_mono (Kd.V_far (p := ⟨gb637, 3, none⟩) (Kd.V_far (p := ⟨gb637, 2, none⟩) (Kd.V_far (p := ⟨gb637, 1, none⟩) (Kd.V_far (p := ⟨gb637, 0, none⟩) (Kd.V_mono HO0_1.out (fun k_ hk => (⟨hk, hk.2.2.2.1⟩ : _ ∧ k_ ≠ gb637))) (fun _ hk => hk.2) (.int .i64 a0_0)) (fun _ hk => hk.2) (.slice A0_1 l0_1.length c0_1)) (fun _ hk => hk.2) (.int .i64 a1_0)) (fun _ hk => hk.2) (.slice A1_1 l1_1.length c1_1)) (fun _ hk => hk.1.1), by (with_reducible repeat (first | apply Kd.V_alloc | apply Kd.V_drewN | apply Kd.V_drew)); exact Kd.V_mono (Kd.V_far (p := ⟨gb637, 3, none⟩) (Kd.V_far (p := ⟨gb637, 2, none⟩) (Kd.V_far (p := ⟨gb637, 1, none⟩) (Kd.V_far (p := ⟨gb637, 0, none⟩) (Kd.V_mono HO1_1.out (fun k_ hk => (⟨hk, hk.2.2.2.1⟩ : _ ∧ k_ ≠ gb637))) (fun _ hk => hk.2) (.int .i64 a0_0)) (fun _ hk => hk.2) (.slice A0_1 l0_1.length c0_1)) (fun _ hk => hk.2) (.int .i64 a1_0)) (fun _ hk => hk.2) (.slice A1_1 l1_1.length c1_1)) (fun _ hk => hk.1.1), by repeat (first | (with_reducible first | exact HB.out | apply below_alloc | apply pw_below_drewN | apply below_drew1 | refine below_set ?_ GE635.out | refine below_set ?_ GE636.out | refine below_set ?_ GE637.out | refine below_set ?_ GE643.out) | exact HB.out)⟩
  ·rw [if_neg c8] at H
   have c8b0 := beq_eq_false_iff_ne.mpr c8
   have c8b1 := bne_iff_ne.mpr c8
   replace H := ob H
   obtain ⟨⟨t649, t650⟩, A34, H⟩ := H
   (try dsimp only at H)
   replace A34 := m0 A34
   replace H := ob H
   obtain ⟨⟨t653, t654⟩, A35, H⟩ := H
   (try dsimp only at H)
   replace A35 := m0 A35
   simp only [Option.some.injEq, Prod.mk.injEq] at H
   obtain ⟨rfl, rfl, rfl, rfl⟩ := H
   go_enter Tryd.func136, Tryd.ntmps136
   try go_wp2_with (first | ((with_reducible refine gate_dst (N := 2) rfl ?_); refine be 2 135 #[.int .i64 a0_0, .slice A0_1 l0_1.length c0_1] ?_; intro gb635 hg w36 hbox hb; replace HO0_1 := ve HO0_1 hg hb; replace HO1_1 := ve HO1_1 hg hb; have BK635 := m0 hbox; have GE635 := gw w hg; replace HB := sb HB hb; clear hb hbox hg) | ((with_reducible refine gate_dst (N := 3) rfl ?_); refine be 3 135 #[.int .i64 a1_0, .slice A1_1 l1_1.length c1_1] ?_; intro gb636 hg w37 hbox hb; replace HO0_1 := ve HO0_1 hg hb; replace HO1_1 := ve HO1_1 hg hb; have BK636 := m0 hbox; have GE636 := gw w hg; replace HB := sb HB hb; have NB635_636 := nl BK635 hg; have NB636_635 := ng (nl BK635 hg); replace BK635 := bb BK635 hb; clear hb hbox hg) | ((with_reducible refine gate_dst (N := 4) rfl ?_); refine be 4 137 #[.int .i64 0, .slice none 0 0, .int .i64 0, .slice none 0 0] ?_; intro gb637 hg w38 hbox hb; replace HO0_1 := ve HO0_1 hg hb; replace HO1_1 := ve HO1_1 hg hb; have BK637 := m0 hbox; have GE637 := gw w hg; replace HB := sb HB hb; have NB635_637 := nl BK635 hg; have NB637_635 := ng (nl BK635 hg); replace BK635 := bb BK635 hb; have NB636_637 := nl BK636 hg; have NB637_636 := ng (nl BK636 hg); replace BK636 := bb BK636 hb; clear hb hbox hg; have hnb39 := NB636_635.out; have hnc39 := NB635_636.out; have hnb40 := NB636_637.out; have hnc40 := NB637_636.out; obtain ⟨_, _, _, _⟩ := b2 BK636) | ((with_reducible refine gate_callee (f := 145) rfl ?_); refine gl (some 7) Tryd.func145 #[.agg #[.int .i64 a1_0, .slice A1_1 l1_1.length c1_1]] ?_; (with_reducible refine (Bs_WideSign.calls a1_0 _ _ l1_1 t638 _ ?side1 ?side2 A3.out).mono ?_); (case side1 => exact bc (Kd.V_reads' HO1_1.out).2.2); (case side2 => exact (Kd.V_reads' HO1_1.out).2.1); rintro e w42 ⟨rfl, hb⟩; refine ⟨_, rfl, ?_⟩; replace HO0_1 := vb HO0_1 hb; replace HO1_1 := vb HO1_1 hb; replace BK635 := bb BK635 hb; replace BK636 := bb BK636 hb; replace BK637 := bb BK637 hb; replace HB := sb HB hb; (try clear hb); have hnb43 := NB635_637.out; have hnc43 := NB637_635.out; obtain ⟨_, _, _, _⟩ := b2 BK635; obtain ⟨_, _, _, _⟩ := b2 BK636) | ((with_reducible refine gate_callee (f := 147) rfl ?_); refine gl (some 15) Tryd.func147 #[.agg #[.int .i64 a0_0, .slice A0_1 l0_1.length c0_1], .agg #[.int .i64 a1_0, .slice A1_1 l1_1.length c1_1]] ?_; (with_reducible refine (Bs_wideGcd.calls k a0_0 (fun k_ => (((((P0_1_ k_ ∨ P1_1_ k_) ∨ w.heap.size ≤ k_) ∧ k_ ≠ gb635) ∧ k_ ≠ gb636) ∧ k_ ≠ gb637)) _ _ l0_1 a1_0 (fun k_ => (((((P0_1_ k_ ∨ P1_1_ k_) ∨ w.heap.size ≤ k_) ∧ k_ ≠ gb635) ∧ k_ ≠ gb636) ∧ k_ ≠ gb637)) _ _ l1_1 t639 t640 _ ?side1 ?side2 A5.out).mono ?_); (case side1 => exact HO0_1.out); (case side2 => exact HO1_1.out); rintro e w46 ⟨v641, rfl, ho0, hb⟩; refine ⟨_, rfl, ?_⟩; replace HO0_1 := vb HO0_1 hb; replace HO1_1 := vb HO1_1 hb; have HO642 := m0 (Kd.V_lower (Kd.V_mono (ok' := fun k_ => ((P0_1_ k_ ∨ P1_1_ k_) ∨ w.heap.size ≤ k_) ∧ k_ ≠ gb635 ∧ k_ ≠ gb636 ∧ k_ ≠ gb637) ho0 (fun k_ hk_ => ⟨Or.elim hk_ (fun hs_ => Or.elim hs_ (fun hs_ => hs_.1.1.1) (fun hs_ => hs_.1.1.1)) (fun hn_ => (.inr (Nat.le_trans (below_size bz) hn_))), Or.elim hk_ (fun hs_ => Or.elim hs_ (fun hs_ => hs_.1.1.2) (fun hs_ => hs_.1.1.2)) (fun hn_ => (Kd.freshB (g := gb635) (o := .cells #[.int .i64 a0_0, .slice A0_1 l0_1.length c0_1] 135 (0, 0)) (bk BK635.out) k_ hn_)), Or.elim hk_ (fun hs_ => Or.elim hs_ (fun hs_ => hs_.1.2) (fun hs_ => hs_.1.2)) (fun hn_ => (Kd.freshB (g := gb636) (o := .cells #[.int .i64 a1_0, .slice A1_1 l1_1.length c1_1] 135 (0, 0)) (bk BK636.out) k_ hn_)), Or.elim hk_ (fun hs_ => Or.elim hs_ (fun hs_ => hs_.2) (fun hs_ => hs_.2)) (fun hn_ => (Kd.freshB (g := gb637) (o := .cells #[.int .i64 0, .slice none 0 0, .int .i64 0, .slice none 0 0] 137 (0, 0)) (bk BK637.out) k_ hn_))⟩)) (below_size bz)); replace BK635 := bb BK635 hb; replace BK636 := bb BK636 hb; replace BK637 := bb BK637 hb; replace HB := sb HB hb; (try clear hb); (try clear ho0)) | ((with_reducible refine gate_dst (N := 5) rfl ?_); refine be 5 135 #[.int .i64 0, .slice none 0 0] ?_; intro gb643 hg w47 hbox hb; replace HO0_1 := ve HO0_1 hg hb; replace HO1_1 := ve HO1_1 hg hb; replace HO642 := ve HO642 hg hb; have BK643 := m0 hbox; have GE643 := gw w hg; replace HB := sb HB hb; have NB635_643 := nl BK635 hg; have NB643_635 := ng (nl BK635 hg); replace BK635 := bb BK635 hb; have NB636_643 := nl BK636 hg; have NB643_636 := ng (nl BK636 hg); replace BK636 := bb BK636 hb; have NB637_643 := nl BK637 hg; have NB643_637 := ng (nl BK637 hg); replace BK637 := bb BK637 hb; clear hb hbox hg; have hnb48 := NB643_635.out; have hnc48 := NB635_643.out; have hnb49 := NB643_636.out; have hnc49 := NB636_643.out; have hnb50 := NB643_637.out; have hnc50 := NB637_643.out; obtain ⟨_, _, _, _⟩ := b2 BK643; obtain ⟨Ao52, co52, eo52⟩ := Kd.V_slice HO642.out; subst eo52))
   replace HO0_1 : Aside0 (Kd.V (Kd.int .i64) 3 ((w47.setCell ⟨gb643, 0, none⟩ (.int .i64 t639)).setCell ⟨gb643, 1, none⟩ (.slice Ao52 t640.length co52)) w.heap.size (fun k_ => ((P0_1_ k_ ∨ P1_1_ k_) ∨ w.heap.size ≤ k_) ∧ k_ ≠ gb635 ∧ k_ ≠ gb636 ∧ k_ ≠ gb637 ∧ k_ ≠ gb643) (.slice A0_1 l0_1.length c0_1) l0_1) := ⟨by (with_reducible repeat (first | apply Kd.V_alloc | apply Kd.V_drewN | apply Kd.V_drew)); exact Kd.V_mono (Kd.V_far (p := ⟨gb643, 1, none⟩) (Kd.V_far (p := ⟨gb643, 0, none⟩) (Kd.V_mono HO0_1.out (fun k_ hk => (⟨hk, hk.2⟩ : _ ∧ k_ ≠ gb643))) (fun _ hk => hk.2) (.int .i64 t639)) (fun _ hk => hk.2) (.slice Ao52 t640.length co52)) (fun _ hk => ⟨hk.1.1.1.1.1, ⟨hk.1.1.1.1.2, ⟨hk.1.1.1.2, ⟨hk.1.1.2, hk.1.2⟩⟩⟩⟩)⟩
   replace HO1_1 : Aside0 (Kd.V (Kd.int .i64) 3 ((w47.setCell ⟨gb643, 0, none⟩ (.int .i64 t639)).setCell ⟨gb643, 1, none⟩ (.slice Ao52 t640.length co52)) w.heap.size (fun k_ => ((P0_1_ k_ ∨ P1_1_ k_) ∨ w.heap.size ≤ k_) ∧ k_ ≠ gb635 ∧ k_ ≠ gb636 ∧ k_ ≠ gb637 ∧ k_ ≠ gb643) (.slice A1_1 l1_1.length c1_1) l1_1) := ⟨by (with_reducible repeat (first | apply Kd.V_alloc | apply Kd.V_drewN | apply Kd.V_drew)); exact Kd.V_mono (Kd.V_far (p := ⟨gb643, 1, none⟩) (Kd.V_far (p := ⟨gb643, 0, none⟩) (Kd.V_mono HO1_1.out (fun k_ hk => (⟨hk, hk.2⟩ : _ ∧ k_ ≠ gb643))) (fun _ hk => hk.2) (.int .i64 t639)) (fun _ hk => hk.2) (.slice Ao52 t640.length co52)) (fun _ hk => ⟨hk.1.1.1.1.1, ⟨hk.1.1.1.1.2, ⟨hk.1.1.1.2, ⟨hk.1.1.2, hk.1.2⟩⟩⟩⟩)⟩
   replace HO642 : Aside0 (Kd.V (Kd.int .i64) 3 ((w47.setCell ⟨gb643, 0, none⟩ (.int .i64 t639)).setCell ⟨gb643, 1, none⟩ (.slice Ao52 t640.length co52)) w.heap.size (fun k_ => ((P0_1_ k_ ∨ P1_1_ k_) ∨ w.heap.size ≤ k_) ∧ k_ ≠ gb635 ∧ k_ ≠ gb636 ∧ k_ ≠ gb637 ∧ k_ ≠ gb643) (.slice Ao52 t640.length co52) t640) := ⟨by (with_reducible repeat (first | apply Kd.V_alloc | apply Kd.V_drewN | apply Kd.V_drew)); exact Kd.V_mono (Kd.V_far (p := ⟨gb643, 1, none⟩) (Kd.V_far (p := ⟨gb643, 0, none⟩) (Kd.V_mono HO642.out (fun k_ hk => (⟨hk, hk.2⟩ : _ ∧ k_ ≠ gb643))) (fun _ hk => hk.2) (.int .i64 t639)) (fun _ hk => hk.2) (.slice Ao52 t640.length co52)) (fun _ hk => ⟨hk.1.1.1, ⟨hk.1.1.2.1, ⟨hk.1.1.2.2.1, ⟨hk.1.1.2.2.2, hk.1.2⟩⟩⟩⟩)⟩
   replace BK635 : Aside0 (((w47.setCell ⟨gb643, 0, none⟩ (.int .i64 t639)).setCell ⟨gb643, 1, none⟩ (.slice Ao52 t640.length co52)).heap[gb635]? = some (.cells #[.int .i64 a0_0, .slice A0_1 l0_1.length c0_1] 135 (0, 0))) := ⟨bq BK635.out⟩
   replace BK636 : Aside0 (((w47.setCell ⟨gb643, 0, none⟩ (.int .i64 t639)).setCell ⟨gb643, 1, none⟩ (.slice Ao52 t640.length co52)).heap[gb636]? = some (.cells #[.int .i64 a1_0, .slice A1_1 l1_1.length c1_1] 135 (0, 0))) := ⟨bq BK636.out⟩
   replace BK637 : Aside0 (((w47.setCell ⟨gb643, 0, none⟩ (.int .i64 t639)).setCell ⟨gb643, 1, none⟩ (.slice Ao52 t640.length co52)).heap[gb637]? = some (.cells #[.int .i64 0, .slice none 0 0, .int .i64 0, .slice none 0 0] 137 (0, 0))) := ⟨bq BK637.out⟩
   replace BK643 : Aside0 (((w47.setCell ⟨gb643, 0, none⟩ (.int .i64 t639)).setCell ⟨gb643, 1, none⟩ (.slice Ao52 t640.length co52)).heap[gb643]? = some (.cells #[.int .i64 t639, .slice Ao52 t640.length co52] 135 (0, 0))) := ⟨bq BK643.out⟩
   replace HB : Aside0 (Below w.heap.size w ((w47.setCell ⟨gb643, 0, none⟩ (.int .i64 t639)).setCell ⟨gb643, 1, none⟩ (.slice Ao52 t640.length co52))) := ⟨bz⟩
   generalize ((w47.setCell ⟨gb643, 0, none⟩ (.int .i64 t639)).setCell ⟨gb643, 1, none⟩ (.slice Ao52 t640.length co52)) = w53 at HO0_1 HO1_1 HO642 BK635 BK636 BK637 BK643 HB ⊢
   replace HO0_1 := m0 (Kd.V_drew HO0_1.out); replace HO1_1 := m0 (Kd.V_drew HO1_1.out); replace HO642 := m0 (Kd.V_drew HO642.out); replace BK635 := bd BK635; replace BK636 := bd BK636; replace BK637 := bd BK637; replace BK643 := bd BK643; replace HB := sd HB
   refine start_ (n := 4) (S := fun w' => w'.cell? ⟨gb643, 0, none⟩ = some (.int .i64 t639) ∧ w'.cell? ⟨gb643, 1, none⟩ = some (.slice Ao52 t640.length co52)) (ds := []) #[false, false, false, false] (by kernel_rfl) rfl rfl cz (fun hH => ?_)
   generalize w53.drew = w54 at HO0_1 HO1_1 HO642 BK635 BK636 BK637 BK643 HB hH ⊢
   refine takeZ 0 (some 16) #[true, false, false, false] (by kernel_rfl) hH ?_
   refine oneZ 1 (some 17) #[true, true, false, false] (by kernel_rfl) fun K hK => ?_
   refine gz Tryd.func139 #[.int .i64 1] ?_
   with_reducible refine (Bs_WideOf.calls k 1 t644 t645 _ A6.out).mono ?_
   rintro e w55 ⟨v646, rfl, ho0, hb⟩
   refine ⟨_, rfl, ?_⟩
   replace HO0_1 := vb HO0_1 hb; replace HO1_1 := vb HO1_1 hb; replace HO642 := vb HO642 hb; have HO647 := m0 (Kd.V_lower (Kd.V_mono (ok' := fun k_ => ((P0_1_ k_ ∨ P1_1_ k_) ∨ w.heap.size ≤ k_) ∧ k_ ≠ gb635 ∧ k_ ≠ gb636 ∧ k_ ≠ gb637 ∧ k_ ≠ gb643) ho0 (fun k_ hk_ => ⟨(.inr (Nat.le_trans (below_size bz) hk_)), (Kd.freshB (g := gb635) (o := .cells #[.int .i64 a0_0, .slice A0_1 l0_1.length c0_1] 135 (0, 0)) (bk BK635.out) k_ hk_), (Kd.freshB (g := gb636) (o := .cells #[.int .i64 a1_0, .slice A1_1 l1_1.length c1_1] 135 (0, 0)) (bk BK636.out) k_ hk_), (Kd.freshB (g := gb637) (o := .cells #[.int .i64 0, .slice none 0 0, .int .i64 0, .slice none 0 0] 137 (0, 0)) (bk BK637.out) k_ hk_), (Kd.freshB (g := gb643) (o := .cells #[.int .i64 t639, .slice Ao52 t640.length co52] 135 (0, 0)) (bk BK643.out) k_ hk_)⟩)) (below_size bz)); replace BK635 := bb BK635 hb; replace BK636 := bb BK636 hb; replace BK637 := bb BK637 hb; replace BK643 := bb BK643 hb; replace HB := sb HB hb
   (try clear hb)
   (try clear ho0)
   obtain ⟨Ao56, co56, eo56⟩ := Kd.V_slice HO647.out
   subst eo56
   refine hK.out _ _ cz (fun hH => ?_)
   clear hK K
   refine norm_ (a' := ?_) ?_ ?_
   rotate_left
   ·show Act.put _ (some 17) _ = _
    exact pz
   refine oneZ 2 (some 18) #[true, true, true, false] (by kernel_rfl) fun K hK => ?_
   refine gz Tryd.func148 #[.agg #[.int .i64 t639, .slice Ao52 t640.length co52], .agg #[.int .i64 t644, .slice Ao56 t645.length co56]] ?_
   with_reducible refine (Bs_WideCmp.calls k t639 _ _ t640 t644 _ _ t645 t648 _ ?side1 ?side2 ?side3 ?side4 A7.out).mono ?_
   (case side1 => exact bc (Kd.V_reads' HO642.out).2.2)
   (case side2 => exact (Kd.V_reads' HO642.out).2.1)
   (case side3 => exact bc (Kd.V_reads' HO647.out).2.2)
   (case side4 => exact (Kd.V_reads' HO647.out).2.1)
   rintro e w57 ⟨rfl, hb⟩
   refine ⟨_, rfl, ?_⟩
   replace HO0_1 := vb HO0_1 hb; replace HO1_1 := vb HO1_1 hb; replace HO642 := vb HO642 hb; replace HO647 := vb HO647 hb; replace BK635 := bb BK635 hb; replace BK636 := bb BK636 hb; replace BK637 := bb BK637 hb; replace BK643 := bb BK643 hb; replace HB := sb HB hb
   (try clear hb)
   refine hK.out _ _ cz (fun hH => ?_)
   clear hK K
   refine norm_ (a' := ?_) ?_ ?_
   rotate_left
   ·show Act.put _ (some 18) _ = _
    exact pz
   refine pure_ (i := 3) (N := some 19) (v := ?_) (a' := ?_) #[true, true, true, true] rfl rfl (by kernel_rfl) (fun _ _ _ h => h) (Or.inl ⟨by rfl, ?_⟩) ?_ ?_
   rotate_left
   ·intro w'
    go_simp
    with_reducible rfl
   rotate_left
   ·exact pz
   refine done_ (by kernel_rfl) ?_
   try go_wp2
   replace HO0_1 := m0 (Kd.V_drew HO0_1.out); replace HO1_1 := m0 (Kd.V_drew HO1_1.out); replace HO642 := m0 (Kd.V_drew HO642.out); replace HO647 := m0 (Kd.V_drew HO647.out); replace BK635 := bd BK635; replace BK636 := bd BK636; replace BK637 := bd BK637; replace BK643 := bd BK643; replace HB := sd HB
   refine start_ (n := 8) (S := fun w' => w'.cell? ⟨gb635, 0, none⟩ = some (.int .i64 a0_0) ∧ w'.cell? ⟨gb635, 1, none⟩ = some (.slice A0_1 l0_1.length c0_1) ∧ w'.cell? ⟨gb643, 0, none⟩ = some (.int .i64 t639) ∧ w'.cell? ⟨gb643, 1, none⟩ = some (.slice Ao52 t640.length co52) ∧ w'.cell? ⟨gb636, 0, none⟩ = some (.int .i64 a1_0) ∧ w'.cell? ⟨gb636, 1, none⟩ = some (.slice A1_1 l1_1.length c1_1)) (ds := []) #[false, false, false, false, false, false, false, false] (by kernel_rfl) rfl rfl cz (fun hH => ?_); refine with_tabW Bs_RatioMake.tab6 Bs_RatioMake.bits6 (fun HT_ HW_ => ?_)
   generalize w57.drew = w58 at HO0_1 HO1_1 HO642 HO647 BK635 BK636 BK637 BK643 HB hH ⊢
   refine takeZ 0 (some 23) #[true, false, false, false, false, false, false, false] (take_ofW HT_.out HW_.out (by kernel_rfl)) hH ?_
   refine takeZ 1 (some 24) #[true, true, false, false, false, false, false, false] (take_ofW HT_.out HW_.out (by kernel_rfl)) hH ?_
   refine takeZ 3 (some 26) #[true, true, false, true, false, false, false, false] (take_ofW HT_.out HW_.out (by kernel_rfl)) hH ?_
   refine takeZ 4 (some 27) #[true, true, false, true, true, false, false, false] (take_ofW HT_.out HW_.out (by kernel_rfl)) hH ?_
   refine oneZ 2 (some 25) #[true, true, true, true, true, false, false, false] (one_of HT_.out (by kernel_rfl)) fun K hK => ?_
   refine gz Tryd.func149 #[.agg #[.int .i64 a0_0, .slice A0_1 l0_1.length c0_1], .agg #[.int .i64 t639, .slice Ao52 t640.length co52]] ?_
   with_reducible refine (Bs_WideFloor.calls k a0_0 _ _ l0_1 t639 (fun k_ => (((P0_1_ k_ ∨ P1_1_ k_) ∨ w.heap.size ≤ k_) ∧ (k_ ≠ gb635 ∧ (k_ ≠ gb636 ∧ (k_ ≠ gb637 ∧ k_ ≠ gb643))))) _ _ t640 t649 t650 _ ?side1 ?side2 ?side3 A34.out).mono ?_
   (case side1 => exact bc (Kd.V_reads' HO0_1.out).2.2)
   (case side2 => exact (Kd.V_reads' HO0_1.out).2.1)
   (case side3 => exact HO642.out)
   rintro e w59 ⟨v651, rfl, ho0, hb⟩
   refine ⟨_, rfl, ?_⟩
   replace HO0_1 := vb HO0_1 hb; replace HO1_1 := vb HO1_1 hb; replace HO642 := vb HO642 hb; replace HO647 := vb HO647 hb; have HO652 := m0 (Kd.V_lower (Kd.V_mono (ok' := fun k_ => ((P0_1_ k_ ∨ P1_1_ k_) ∨ w.heap.size ≤ k_) ∧ k_ ≠ gb635 ∧ k_ ≠ gb636 ∧ k_ ≠ gb637 ∧ k_ ≠ gb643) ho0 (fun k_ hk_ => ⟨Or.elim hk_ (fun hs_ => hs_.1) (fun hn_ => (.inr (Nat.le_trans (below_size bz) hn_))), Or.elim hk_ (fun hs_ => hs_.2.1) (fun hn_ => (Kd.freshB (g := gb635) (o := .cells #[.int .i64 a0_0, .slice A0_1 l0_1.length c0_1] 135 (0, 0)) (bk BK635.out) k_ hn_)), Or.elim hk_ (fun hs_ => hs_.2.2.1) (fun hn_ => (Kd.freshB (g := gb636) (o := .cells #[.int .i64 a1_0, .slice A1_1 l1_1.length c1_1] 135 (0, 0)) (bk BK636.out) k_ hn_)), Or.elim hk_ (fun hs_ => hs_.2.2.2.1) (fun hn_ => (Kd.freshB (g := gb637) (o := .cells #[.int .i64 0, .slice none 0 0, .int .i64 0, .slice none 0 0] 137 (0, 0)) (bk BK637.out) k_ hn_)), Or.elim hk_ (fun hs_ => hs_.2.2.2.2) (fun hn_ => (Kd.freshB (g := gb643) (o := .cells #[.int .i64 t639, .slice Ao52 t640.length co52] 135 (0, 0)) (bk BK643.out) k_ hn_))⟩)) (below_size bz)); replace BK635 := bb BK635 hb; replace BK636 := bb BK636 hb; replace BK637 := bb BK637 hb; replace BK643 := bb BK643 hb; replace HB := sb HB hb
   (try clear hb)
   (try clear ho0)
   refine hK.out _ _ cz (fun hH => ?_)
   clear hK K
   refine norm_ (a' := ?_) ?_ ?_
   rotate_left
   ·show Act.put _ (some 25) _ = _
    exact pz
   refine oneZ 5 (some 28) #[true, true, true, true, true, true, false, false] (one_of HT_.out (by kernel_rfl)) fun K hK => ?_
   refine gz Tryd.func149 #[.agg #[.int .i64 a1_0, .slice A1_1 l1_1.length c1_1], .agg #[.int .i64 t639, .slice Ao52 t640.length co52]] ?_
   with_reducible refine (Bs_WideFloor.calls k a1_0 _ _ l1_1 t639 (fun k_ => (((P0_1_ k_ ∨ P1_1_ k_) ∨ w.heap.size ≤ k_) ∧ (k_ ≠ gb635 ∧ (k_ ≠ gb636 ∧ (k_ ≠ gb637 ∧ k_ ≠ gb643))))) _ _ t640 t653 t654 _ ?side1 ?side2 ?side3 A35.out).mono ?_
   (case side1 => exact bc (Kd.V_reads' HO1_1.out).2.2)
   (case side2 => exact (Kd.V_reads' HO1_1.out).2.1)
   (case side3 => exact HO642.out)
   rintro e w60 ⟨v655, rfl, ho0, hb⟩
   refine ⟨_, rfl, ?_⟩
   replace HO0_1 := vb HO0_1 hb; replace HO1_1 := vb HO1_1 hb; replace HO642 := vb HO642 hb; replace HO647 := vb HO647 hb; replace HO652 := vb HO652 hb; have HO656 := m0 (Kd.V_lower (Kd.V_mono (ok' := fun k_ => ((P0_1_ k_ ∨ P1_1_ k_) ∨ w.heap.size ≤ k_) ∧ k_ ≠ gb635 ∧ k_ ≠ gb636 ∧ k_ ≠ gb637 ∧ k_ ≠ gb643) ho0 (fun k_ hk_ => ⟨Or.elim hk_ (fun hs_ => hs_.1) (fun hn_ => (.inr (Nat.le_trans (below_size bz) hn_))), Or.elim hk_ (fun hs_ => hs_.2.1) (fun hn_ => (Kd.freshB (g := gb635) (o := .cells #[.int .i64 a0_0, .slice A0_1 l0_1.length c0_1] 135 (0, 0)) (bk BK635.out) k_ hn_)), Or.elim hk_ (fun hs_ => hs_.2.2.1) (fun hn_ => (Kd.freshB (g := gb636) (o := .cells #[.int .i64 a1_0, .slice A1_1 l1_1.length c1_1] 135 (0, 0)) (bk BK636.out) k_ hn_)), Or.elim hk_ (fun hs_ => hs_.2.2.2.1) (fun hn_ => (Kd.freshB (g := gb637) (o := .cells #[.int .i64 0, .slice none 0 0, .int .i64 0, .slice none 0 0] 137 (0, 0)) (bk BK637.out) k_ hn_)), Or.elim hk_ (fun hs_ => hs_.2.2.2.2) (fun hn_ => (Kd.freshB (g := gb643) (o := .cells #[.int .i64 t639, .slice Ao52 t640.length co52] 135 (0, 0)) (bk BK643.out) k_ hn_))⟩)) (below_size bz)); replace BK635 := bb BK635 hb; replace BK636 := bb BK636 hb; replace BK637 := bb BK637 hb; replace BK643 := bb BK643 hb; replace HB := sb HB hb
   (try clear hb)
   (try clear ho0)
   obtain ⟨Ao61, co61, eo61⟩ := Kd.V_slice HO656.out
   subst eo61
   obtain ⟨Ao62, co62, eo62⟩ := Kd.V_slice HO652.out
   subst eo62
   refine hK.out _ _ cz (fun hH => ?_)
   clear hK K
   refine norm_ (a' := ?_) ?_ ?_
   rotate_left
   ·show Act.put _ (some 28) _ = _
    exact pz
   refine pZ 6 (some 29) #[true, true, true, true, true, true, true, false] HT_ ?_
   refine oneZ 7 (none) #[true, true, true, true, true, true, true, true] (one_of HT_.out (by kernel_rfl)) fun K hK => ?_
   have hs63 : w60.cell? ⟨gb637, 0, none⟩ = some (.int .i64 0) := (blk_cell BK637.out 0).trans rfl
   have hfs63 := blk_frozen BK637.out 0
   have hs64 : w60.cell? ⟨gb637, 1, none⟩ = some (.slice none 0 0) := (blk_cell BK637.out 1).trans rfl
   have hfs64 := blk_frozen BK637.out 1
   have hs65 : w60.cell? ⟨gb637, 2, none⟩ = some (.int .i64 0) := (blk_cell BK637.out 2).trans rfl
   have hfs65 := blk_frozen BK637.out 2
   have hs66 : w60.cell? ⟨gb637, 3, none⟩ = some (.slice none 0 0) := (blk_cell BK637.out 3).trans rfl
   have hfs66 := blk_frozen BK637.out 3
   refine skip_ (w1 := ?_) (by rfl) rfl ?_ ?_
   rotate_left
   ·go_simp
    rfl
   refine hK.out _ _ (cf hH) (fun hH => ?_)
   clear hK K
   refine done_ (done_of HT_.out (by kernel_rfl)) ?_
   try go_wp2
   refine bodyPost_ret (results_cell_row rfl _ _ gb637 137 #[.int .i64 t649, .slice Ao62 t650.length co62, .int .i64 t653, .slice Ao61 t654.length co61] (0, 0) _ rfl (bq BK637.out) Tryd.underlying137 rfl (by kernel_rfl)) rfl ?_
   exact ⟨_, _, by first | rfl | (simp [errW_none, errW_some] <;> rfl) | (simp [*, errW_none, errW_some] <;> rfl), by (with_reducible repeat (first | apply Kd.V_alloc | apply Kd.V_drewN | apply Kd.V_drew)); exact Kd.V_mono (Kd.V_far (p := ⟨gb637, 3, none⟩) (Kd.V_far (p := ⟨gb637, 2, none⟩) (Kd.V_far (p := ⟨gb637, 1, none⟩) (Kd.V_far (p := ⟨gb637, 0, none⟩) (Kd.V_mono HO652.out (fun k_ hk => (⟨hk, hk.2.2.2.1⟩ : _ ∧ k_ ≠ gb637))) (fun _ hk => hk.2) (.int .i64 t649)) (fun _ hk => hk.2) (.slice Ao62 t650.length co62)) (fun _ hk => hk.2) (.int .i64 t653)) (fun _ hk => hk.2) (.slice Ao61 t654.length co61)) (fun _ hk => hk.1.1), by (with_reducible repeat (first | apply Kd.V_alloc | apply Kd.V_drewN | apply Kd.V_drew)); exact Kd.V_mono (Kd.V_far (p := ⟨gb637, 3, none⟩) (Kd.V_far (p := ⟨gb637, 2, none⟩) (Kd.V_far (p := ⟨gb637, 1, none⟩) (Kd.V_far (p := ⟨gb637, 0, none⟩) (Kd.V_mono HO656.out (fun k_ hk => (⟨hk, hk.2.2.2.1⟩ : _ ∧ k_ ≠ gb637))) (fun _ hk => hk.2) (.int .i64 t649)) (fun _ hk => hk.2) (.slice Ao62 t650.length co62)) (fun _ hk => hk.2) (.int .i64 t653)) (fun _ hk => hk.2) (.slice Ao61 t654.length co61)) (fun _ hk => hk.1.1), by repeat (first | (with_reducible first | exact HB.out | apply below_alloc | apply pw_below_drewN | apply below_drew1 | refine below_set ?_ GE635.out | refine below_set ?_ GE636.out | refine below_set ?_ GE637.out | refine below_set ?_ GE643.out) | exact HB.out)⟩
end
section
def Bs_RatioMul.f (k : Nat) (a0_0 : Int) (l0_1 : List Int) (a0_2 : Int) (l0_3 : List Int) (a1_0 : Int) (l1_1 : List Int) (a1_2 : Int) (l1_3 : List Int) : Option (Int × List Int × Int × List Int) := (Bs_WideMul.f k a0_0 l0_1 a1_0 l1_1).bind fun bt660 => ((Bs_WideMul.f k a0_2 l0_3 a1_2 l1_3).bind fun bt664 => ((Bs_RatioMake.f k bt660.1 bt660.2 bt664.1 bt664.2).bind fun bt668 => (some (bt668.1, bt668.2.1, bt668.2.2.1, bt668.2.2.2))))
theorem Bs_RatioMul.mono : ∀ a0 a1 a2 a3 a4 a5 a6 a7 k, LeO (Bs_RatioMul.f k a0 a1 a2 a3 a4 a5 a6 a7) (Bs_RatioMul.f (k + 1) a0 a1 a2 a3 a4 a5 a6 a7) := by
 intro a0 a1 a2 a3 a4 a5 a6 a7 k
 unfold Bs_RatioMul.f
 repeat' with_reducible first
  | exact Bs_RatioMake.mono ..
  | exact Bs_WideMul.mono ..
  | exact LeO.refl ..
  | exact LeO.none ..
  | refine LeO.ite ?_ ?_
  | refine LeO.bind ?_ (fun _ => ?_)
def Bs_RatioMul.T1 : Bool × List (List Nat × List Nat) := (true, [([], []), ([0], [0]), ([], []), ([2], [2]), ([1, 3], [1, 3]), ([], []), ([5], [5]), ([], []), ([7], [7]), ([6, 8, 4], [6, 8]), ([4, 9, 9], [4, 9]), ([10, 10, 0, 1, 2, 3, 4, 5, 6, 7, 8, 9, 10], [10])])
def Bs_RatioMul.B1 : List Nat := [0, 1, 0, 4, 15, 0, 32, 0, 128, 511, 1023, 2047]
theorem Bs_RatioMul.tab1 : rtab .any (opsOf Tryd.f114 1) = Bs_RatioMul.T1 := by kernel_rfl
theorem Bs_RatioMul.bits1 : waitsOk Bs_RatioMul.T1.2 Bs_RatioMul.B1 = true := by kernel_rfl
theorem Bs_RatioMul.calls (k : Nat) (a0_0 : Int) (A0_1 : Option Addr) (c0_1 : Nat) (l0_1 : List Int) (a0_2 : Int) (A0_3 : Option Addr) (c0_3 : Nat) (l0_3 : List Int) (a1_0 : Int) (A1_1 : Option Addr) (c1_1 : Nat) (l1_1 : List Int) (a1_2 : Int) (A1_3 : Option Addr) (c1_3 : Nat) (l1_3 : List Int) (r1 : Int) (r2 : List Int) (r3 : Int) (r4 : List Int) (w : World) (hr0_1 : Kd.C (Kd.int .i64) w A0_1 l0_1.length l0_1) (hc0_1 : l0_1.length ≤ c0_1) (hr0_3 : Kd.C (Kd.int .i64) w A0_3 l0_3.length l0_3) (hc0_3 : l0_3.length ≤ c0_3) (hr1_1 : Kd.C (Kd.int .i64) w A1_1 l1_1.length l1_1) (hc1_1 : l1_1.length ≤ c1_1) (hr1_3 : Kd.C (Kd.int .i64) w A1_3 l1_3.length l1_3) (hc1_3 : l1_3.length ≤ c1_3) (h : Bs_RatioMul.f k a0_0 l0_1 a0_2 l0_3 a1_0 l1_1 a1_2 l1_3 = some (r1, r2, r3, r4)) :
  Calls Tryd.prog 114 #[.agg #[.int .i64 a0_0, .slice A0_1 l0_1.length c0_1, .int .i64 a0_2, .slice A0_3 l0_3.length c0_3], .agg #[.int .i64 a1_0, .slice A1_1 l1_1.length c1_1, .int .i64 a1_2, .slice A1_3 l1_3.length c1_3]] w fun e w' => ∃ v1_ v3_ : Value, e = .returned (.agg #[.int .i64 r1, v1_, .int .i64 r3, v3_]) ∧ Kd.V (Kd.int .i64) 3 w' w.heap.size (fun k_ => (w.heap.size ≤ k_)) v1_ r2 ∧ Kd.V (Kd.int .i64) 3 w' w.heap.size (fun k_ => (w.heap.size ≤ k_)) v3_ r4 ∧ Below w.heap.size w w' := by
 have hu137 := Tryd.underlying137
 have hu135 := Tryd.underlying135
 have HR0_1 := m0 hr0_1
 have HC0_1 := m0 hc0_1
 clear hr0_1 hc0_1
 have HR0_3 := m0 hr0_3
 have HC0_3 := m0 hc0_3
 clear hr0_3 hc0_3
 have HR1_1 := m0 hr1_1
 have HC1_1 := m0 hc1_1
 clear hr1_1 hc1_1
 have HR1_3 := m0 hr1_3
 have HC1_3 := m0 hc1_3
 clear hr1_3 hc1_3
 have HB := m0 (Below.refl w.heap.size w)
 have H : ((Bs_WideMul.f k a0_0 l0_1 a1_0 l1_1).bind fun bt660 => ((Bs_WideMul.f k a0_2 l0_3 a1_2 l1_3).bind fun bt664 => ((Bs_RatioMake.f k bt660.1 bt660.2 bt664.1 bt664.2).bind fun bt668 => (some (bt668.1, bt668.2.1, bt668.2.2.1, bt668.2.2.2))))) = some (r1, r2, r3, r4) := h
 clear h
 replace H := ob H
 obtain ⟨⟨t660, t661⟩, A3, H⟩ := H
 (try dsimp only at H)
 replace A3 := m0 A3
 replace H := ob H
 obtain ⟨⟨t664, t665⟩, A4, H⟩ := H
 (try dsimp only at H)
 replace A4 := m0 A4
 replace H := ob H
 obtain ⟨⟨t668, t669, t672, t673⟩, A5, H⟩ := H
 (try dsimp only at H)
 replace A5 := m0 A5
 simp only [Option.some.injEq, Prod.mk.injEq] at H
 obtain ⟨rfl, rfl, rfl, rfl⟩ := H
 go_enter Tryd.func114, Tryd.ntmps114
 try go_wp2_with (first | ((with_reducible refine gate_dst (N := 2) rfl ?_); refine be 2 137 #[.int .i64 a0_0, .slice A0_1 l0_1.length c0_1, .int .i64 a0_2, .slice A0_3 l0_3.length c0_3] ?_; intro gb657 hg w6 hbox hb; have BK657 := m0 hbox; have GE657 := gw w hg; replace HB := sb HB hb; clear hb hbox hg) | ((with_reducible refine gate_dst (N := 3) rfl ?_); refine be 3 137 #[.int .i64 a1_0, .slice A1_1 l1_1.length c1_1, .int .i64 a1_2, .slice A1_3 l1_3.length c1_3] ?_; intro gb658 hg w7 hbox hb; have BK658 := m0 hbox; have GE658 := gw w hg; replace HB := sb HB hb; have NB657_658 := nl BK657 hg; have NB658_657 := ng (nl BK657 hg); replace BK657 := bb BK657 hb; clear hb hbox hg) | ((with_reducible refine gate_dst (N := 4) rfl ?_); refine be 4 137 #[.int .i64 0, .slice none 0 0, .int .i64 0, .slice none 0 0] ?_; intro gb659 hg w8 hbox hb; have BK659 := m0 hbox; have GE659 := gw w hg; replace HB := sb HB hb; have NB657_659 := nl BK657 hg; have NB659_657 := ng (nl BK657 hg); replace BK657 := bb BK657 hb; have NB658_659 := nl BK658 hg; have NB659_658 := ng (nl BK658 hg); replace BK658 := bb BK658 hb; clear hb hbox hg))
 replace BK657 := bd BK657; replace BK658 := bd BK658; replace BK659 := bd BK659; replace HB := sd HB
 refine start_ (n := 12) (S := fun w' => w'.cell? ⟨gb657, 0, none⟩ = some (.int .i64 a0_0) ∧ w'.cell? ⟨gb657, 1, none⟩ = some (.slice A0_1 l0_1.length c0_1) ∧ w'.cell? ⟨gb657, 2, none⟩ = some (.int .i64 a0_2) ∧ w'.cell? ⟨gb657, 3, none⟩ = some (.slice A0_3 l0_3.length c0_3) ∧ w'.cell? ⟨gb658, 0, none⟩ = some (.int .i64 a1_0) ∧ w'.cell? ⟨gb658, 1, none⟩ = some (.slice A1_1 l1_1.length c1_1) ∧ w'.cell? ⟨gb658, 2, none⟩ = some (.int .i64 a1_2) ∧ w'.cell? ⟨gb658, 3, none⟩ = some (.slice A1_3 l1_3.length c1_3)) (ds := []) #[false, false, false, false, false, false, false, false, false, false, false, false] (by kernel_rfl) rfl rfl cz (fun hH => ?_); refine with_tabW Bs_RatioMul.tab1 Bs_RatioMul.bits1 (fun HT_ HW_ => ?_)
 generalize w8.drew = w9 at BK657 BK658 BK659 HB hH ⊢
 refine pZ 0 (some 5) (bs 12 1) HT_ ?_
 refine pZ 2 (some 7) (bs 12 5) HT_ ?_
 refine pZ 5 (some 10) (bs 12 37) HT_ ?_
 refine pZ 7 (some 12) (bs 12 165) HT_ ?_
 refine takeZ 1 (some 6) (bs 12 167) (take_ofW HT_.out HW_.out (by kernel_rfl)) hH ?_
 refine takeZ 3 (some 8) (bs 12 175) (take_ofW HT_.out HW_.out (by kernel_rfl)) hH ?_
 refine takeZ 6 (some 11) (bs 12 239) (take_ofW HT_.out HW_.out (by kernel_rfl)) hH ?_
 refine takeZ 8 (some 13) (bs 12 495) (take_ofW HT_.out HW_.out (by kernel_rfl)) hH ?_
 refine oneZ 4 (some 9) (bs 12 511) (one_of HT_.out (by kernel_rfl)) fun K hK => ?_
 refine gz Tryd.func137 #[.agg #[.int .i64 a0_0, .slice A0_1 l0_1.length c0_1], .agg #[.int .i64 a1_0, .slice A1_1 l1_1.length c1_1]] ?_
 with_reducible refine (Bs_WideMul.calls k a0_0 _ _ l0_1 a1_0 _ _ l1_1 t660 t661 _ ?side1 ?side2 ?side3 ?side4 A3.out).mono ?_
 (case side1 => exact cb HR0_1 HB)
 (case side2 => exact HC0_1.out)
 (case side3 => exact cb HR1_1 HB)
 (case side4 => exact HC1_1.out)
 rintro e w10 ⟨v662, rfl, ho0, hb⟩
 refine ⟨_, rfl, ?_⟩
 have HO663 := m0 (Kd.V_lower (Kd.V_mono (ok' := fun k_ => (w.heap.size ≤ k_) ∧ k_ ≠ gb657 ∧ k_ ≠ gb658 ∧ k_ ≠ gb659) ho0 (fun k_ hk_ => ⟨(Nat.le_trans (below_size bz) hk_), (Kd.freshB (g := gb657) (o := .cells #[.int .i64 a0_0, .slice A0_1 l0_1.length c0_1, .int .i64 a0_2, .slice A0_3 l0_3.length c0_3] 137 (0, 0)) (bk BK657.out) k_ hk_), (Kd.freshB (g := gb658) (o := .cells #[.int .i64 a1_0, .slice A1_1 l1_1.length c1_1, .int .i64 a1_2, .slice A1_3 l1_3.length c1_3] 137 (0, 0)) (bk BK658.out) k_ hk_), (Kd.freshB (g := gb659) (o := .cells #[.int .i64 0, .slice none 0 0, .int .i64 0, .slice none 0 0] 137 (0, 0)) (bk BK659.out) k_ hk_)⟩)) (below_size bz)); replace BK657 := bb BK657 hb; replace BK658 := bb BK658 hb; replace BK659 := bb BK659 hb; replace HB := sb HB hb
 (try clear hb)
 (try clear ho0)
 refine hK.out _ _ cz (fun hH => ?_)
 clear hK K
 refine norm_ (a' := ?_) ?_ ?_
 rotate_left
 ·show Act.put _ (some 9) _ = _
  exact pz
 refine oneZ 9 (some 14) (bs 12 1023) (one_of HT_.out (by kernel_rfl)) fun K hK => ?_
 refine gz Tryd.func137 #[.agg #[.int .i64 a0_2, .slice A0_3 l0_3.length c0_3], .agg #[.int .i64 a1_2, .slice A1_3 l1_3.length c1_3]] ?_
 with_reducible refine (Bs_WideMul.calls k a0_2 _ _ l0_3 a1_2 _ _ l1_3 t664 t665 _ ?side1 ?side2 ?side3 ?side4 A4.out).mono ?_
 (case side1 => exact cb HR0_3 HB)
 (case side2 => exact HC0_3.out)
 (case side3 => exact cb HR1_3 HB)
 (case side4 => exact HC1_3.out)
 rintro e w11 ⟨v666, rfl, ho0, hb⟩
 refine ⟨_, rfl, ?_⟩
 replace HO663 := vb HO663 hb; have HO667 := m0 (Kd.V_lower (Kd.V_mono (ok' := fun k_ => (w.heap.size ≤ k_) ∧ k_ ≠ gb657 ∧ k_ ≠ gb658 ∧ k_ ≠ gb659) ho0 (fun k_ hk_ => ⟨(Nat.le_trans (below_size bz) hk_), (Kd.freshB (g := gb657) (o := .cells #[.int .i64 a0_0, .slice A0_1 l0_1.length c0_1, .int .i64 a0_2, .slice A0_3 l0_3.length c0_3] 137 (0, 0)) (bk BK657.out) k_ hk_), (Kd.freshB (g := gb658) (o := .cells #[.int .i64 a1_0, .slice A1_1 l1_1.length c1_1, .int .i64 a1_2, .slice A1_3 l1_3.length c1_3] 137 (0, 0)) (bk BK658.out) k_ hk_), (Kd.freshB (g := gb659) (o := .cells #[.int .i64 0, .slice none 0 0, .int .i64 0, .slice none 0 0] 137 (0, 0)) (bk BK659.out) k_ hk_)⟩)) (below_size bz)); replace BK657 := bb BK657 hb; replace BK658 := bb BK658 hb; replace BK659 := bb BK659 hb; replace HB := sb HB hb
 (try clear hb)
 (try clear ho0)
 obtain ⟨Ao12, co12, eo12⟩ := Kd.V_slice HO663.out
 subst eo12
 obtain ⟨Ao13, co13, eo13⟩ := Kd.V_slice HO667.out
 subst eo13
 refine hK.out _ _ cz (fun hH => ?_)
 clear hK K
 refine norm_ (a' := ?_) ?_ ?_
 rotate_left
 ·show Act.put _ (some 14) _ = _
  exact pz
 refine oneZ 10 (some 15) (bs 12 2047) (one_of HT_.out (by kernel_rfl)) fun K hK => ?_
 refine gz Tryd.func136 #[.agg #[.int .i64 t660, .slice Ao12 t661.length co12], .agg #[.int .i64 t664, .slice Ao13 t665.length co13]] ?_
 with_reducible refine (Bs_RatioMake.calls k t660 (fun k_ => ((w.heap.size ≤ k_) ∧ (k_ ≠ gb657 ∧ (k_ ≠ gb658 ∧ k_ ≠ gb659)))) _ _ t661 t664 (fun k_ => ((w.heap.size ≤ k_) ∧ (k_ ≠ gb657 ∧ (k_ ≠ gb658 ∧ k_ ≠ gb659)))) _ _ t665 t668 t669 t672 t673 _ ?side1 ?side2 A5.out).mono ?_
 (case side1 => exact HO663.out)
 (case side2 => exact HO667.out)
 rintro e w14 ⟨v670, v674, rfl, ho0, ho1, hb⟩
 refine ⟨_, rfl, ?_⟩
 replace HO663 := vb HO663 hb; replace HO667 := vb HO667 hb; have HO671 := m0 (Kd.V_lower (Kd.V_mono (ok' := fun k_ => (w.heap.size ≤ k_) ∧ k_ ≠ gb657 ∧ k_ ≠ gb658 ∧ k_ ≠ gb659) ho0 (fun k_ hk_ => ⟨Or.elim hk_ (fun hs_ => Or.elim hs_ (fun hs_ => hs_.1) (fun hs_ => hs_.1)) (fun hn_ => (Nat.le_trans (below_size bz) hn_)), Or.elim hk_ (fun hs_ => Or.elim hs_ (fun hs_ => hs_.2.1) (fun hs_ => hs_.2.1)) (fun hn_ => (Kd.freshB (g := gb657) (o := .cells #[.int .i64 a0_0, .slice A0_1 l0_1.length c0_1, .int .i64 a0_2, .slice A0_3 l0_3.length c0_3] 137 (0, 0)) (bk BK657.out) k_ hn_)), Or.elim hk_ (fun hs_ => Or.elim hs_ (fun hs_ => hs_.2.2.1) (fun hs_ => hs_.2.2.1)) (fun hn_ => (Kd.freshB (g := gb658) (o := .cells #[.int .i64 a1_0, .slice A1_1 l1_1.length c1_1, .int .i64 a1_2, .slice A1_3 l1_3.length c1_3] 137 (0, 0)) (bk BK658.out) k_ hn_)), Or.elim hk_ (fun hs_ => Or.elim hs_ (fun hs_ => hs_.2.2.2) (fun hs_ => hs_.2.2.2)) (fun hn_ => (Kd.freshB (g := gb659) (o := .cells #[.int .i64 0, .slice none 0 0, .int .i64 0, .slice none 0 0] 137 (0, 0)) (bk BK659.out) k_ hn_))⟩)) (below_size bz)); have HO675 := m0 (Kd.V_lower (Kd.V_mono (ok' := fun k_ => (w.heap.size ≤ k_) ∧ k_ ≠ gb657 ∧ k_ ≠ gb658 ∧ k_ ≠ gb659) ho1 (fun k_ hk_ => ⟨Or.elim hk_ (fun hs_ => Or.elim hs_ (fun hs_ => hs_.1) (fun hs_ => hs_.1)) (fun hn_ => (Nat.le_trans (below_size bz) hn_)), Or.elim hk_ (fun hs_ => Or.elim hs_ (fun hs_ => hs_.2.1) (fun hs_ => hs_.2.1)) (fun hn_ => (Kd.freshB (g := gb657) (o := .cells #[.int .i64 a0_0, .slice A0_1 l0_1.length c0_1, .int .i64 a0_2, .slice A0_3 l0_3.length c0_3] 137 (0, 0)) (bk BK657.out) k_ hn_)), Or.elim hk_ (fun hs_ => Or.elim hs_ (fun hs_ => hs_.2.2.1) (fun hs_ => hs_.2.2.1)) (fun hn_ => (Kd.freshB (g := gb658) (o := .cells #[.int .i64 a1_0, .slice A1_1 l1_1.length c1_1, .int .i64 a1_2, .slice A1_3 l1_3.length c1_3] 137 (0, 0)) (bk BK658.out) k_ hn_)), Or.elim hk_ (fun hs_ => Or.elim hs_ (fun hs_ => hs_.2.2.2) (fun hs_ => hs_.2.2.2)) (fun hn_ => (Kd.freshB (g := gb659) (o := .cells #[.int .i64 0, .slice none 0 0, .int .i64 0, .slice none 0 0] 137 (0, 0)) (bk BK659.out) k_ hn_))⟩)) (below_size bz)); replace BK657 := bb BK657 hb; replace BK658 := bb BK658 hb; replace BK659 := bb BK659 hb; replace HB := sb HB hb
 (try clear hb)
 (try clear ho0)
 (try clear ho1)
 obtain ⟨Ao16, co16, eo16⟩ := Kd.V_slice HO671.out
 subst eo16
 obtain ⟨Ao19, co19, eo19⟩ := Kd.V_slice HO675.out
 subst eo19
 refine hK.out _ _ cz (fun hH => ?_)
 clear hK K
 refine norm_ (a' := ?_) ?_ ?_
 rotate_left
 ·show Act.put _ (some 15) _ = _
  exact pz
 refine oneZ 11 (none) (bs 12 4095) (one_of HT_.out (by kernel_rfl)) fun K hK => ?_
 have hs15 : w14.cell? ⟨gb659, 0, none⟩ = some (.int .i64 0) := (blk_cell BK659.out 0).trans rfl
 have hfs15 := blk_frozen BK659.out 0
 have hs17 : w14.cell? ⟨gb659, 1, none⟩ = some (.slice none 0 0) := (blk_cell BK659.out 1).trans rfl
 have hfs17 := blk_frozen BK659.out 1
 have hs18 : w14.cell? ⟨gb659, 2, none⟩ = some (.int .i64 0) := (blk_cell BK659.out 2).trans rfl
 have hfs18 := blk_frozen BK659.out 2
 have hs20 : w14.cell? ⟨gb659, 3, none⟩ = some (.slice none 0 0) := (blk_cell BK659.out 3).trans rfl
 have hfs20 := blk_frozen BK659.out 3
 refine skip_ (w1 := ?_) (by rfl) rfl ?_ ?_
 rotate_left
 ·go_simp
  rfl
 refine hK.out _ _ (cf hH) (fun hH => ?_)
 clear hK K
 refine done_ (done_of HT_.out (by kernel_rfl)) ?_
 try go_wp2
 refine bodyPost_ret (results_cell_row rfl _ _ gb659 137 #[.int .i64 t668, .slice Ao16 t669.length co16, .int .i64 t672, .slice Ao19 t673.length co19] (0, 0) _ rfl (bq BK659.out) Tryd.underlying137 rfl (by kernel_rfl)) rfl ?_
 exact ⟨_, _, by first | rfl | (simp [errW_none, errW_some] <;> rfl) | (simp [*, errW_none, errW_some] <;> rfl), by (with_reducible repeat (first | apply Kd.V_alloc | apply Kd.V_drewN | apply Kd.V_drew)); exact Kd.V_mono (Kd.V_far (p := ⟨gb659, 3, none⟩) (Kd.V_far (p := ⟨gb659, 2, none⟩) (Kd.V_far (p := ⟨gb659, 1, none⟩) (Kd.V_far (p := ⟨gb659, 0, none⟩) (Kd.V_mono HO671.out (fun k_ hk => (⟨hk, hk.2.2.2⟩ : _ ∧ k_ ≠ gb659))) (fun _ hk => hk.2) (.int .i64 t668)) (fun _ hk => hk.2) (.slice Ao16 t669.length co16)) (fun _ hk => hk.2) (.int .i64 t672)) (fun _ hk => hk.2) (.slice Ao19 t673.length co19)) (fun _ hk => hk.1.1), by (with_reducible repeat (first | apply Kd.V_alloc | apply Kd.V_drewN | apply Kd.V_drew)); exact Kd.V_mono (Kd.V_far (p := ⟨gb659, 3, none⟩) (Kd.V_far (p := ⟨gb659, 2, none⟩) (Kd.V_far (p := ⟨gb659, 1, none⟩) (Kd.V_far (p := ⟨gb659, 0, none⟩) (Kd.V_mono HO675.out (fun k_ hk => (⟨hk, hk.2.2.2⟩ : _ ∧ k_ ≠ gb659))) (fun _ hk => hk.2) (.int .i64 t668)) (fun _ hk => hk.2) (.slice Ao16 t669.length co16)) (fun _ hk => hk.2) (.int .i64 t672)) (fun _ hk => hk.2) (.slice Ao19 t673.length co19)) (fun _ hk => hk.1.1), by repeat (first | (with_reducible first | exact HB.out | apply below_alloc | apply pw_below_drewN | apply below_drew1 | refine below_set ?_ GE657.out | refine below_set ?_ GE658.out | refine below_set ?_ GE659.out) | exact HB.out)⟩
end
section
def Bs_RatioAdd.f (k : Nat) (a0_0 : Int) (l0_1 : List Int) (a0_2 : Int) (l0_3 : List Int) (a1_0 : Int) (l1_1 : List Int) (a1_2 : Int) (l1_3 : List Int) : Option (Int × List Int × Int × List Int) := (Bs_WideMul.f k a0_0 l0_1 a1_2 l1_3).bind fun bt679 => ((Bs_WideMul.f k a1_0 l1_1 a0_2 l0_3).bind fun bt683 => ((Bs_WideAdd.f k bt679.1 bt679.2 bt683.1 bt683.2).bind fun bt687 => ((Bs_WideMul.f k a0_2 l0_3 a1_2 l1_3).bind fun bt691 => ((Bs_RatioMake.f k bt687.1 bt687.2 bt691.1 bt691.2).bind fun bt695 => (some (bt695.1, bt695.2.1, bt695.2.2.1, bt695.2.2.2))))))
theorem Bs_RatioAdd.mono : ∀ a0 a1 a2 a3 a4 a5 a6 a7 k, LeO (Bs_RatioAdd.f k a0 a1 a2 a3 a4 a5 a6 a7) (Bs_RatioAdd.f (k + 1) a0 a1 a2 a3 a4 a5 a6 a7) := by
 intro a0 a1 a2 a3 a4 a5 a6 a7 k
 unfold Bs_RatioAdd.f
 repeat' with_reducible first
  | exact Bs_RatioMake.mono ..
  | exact Bs_WideAdd.mono ..
  | exact Bs_WideMul.mono ..
  | exact LeO.refl ..
  | exact LeO.none ..
  | refine LeO.ite ?_ ?_
  | refine LeO.bind ?_ (fun _ => ?_)
def Bs_RatioAdd.T1 : Bool × List (List Nat × List Nat) := (true, [([], []), ([0], [0]), ([], []), ([2], [2]), ([1, 3], [1, 3]), ([], []), ([5], [5]), ([], []), ([7], [7]), ([6, 8, 4], [6, 8]), ([4, 9, 9], [4, 9]), ([], []), ([11], [11]), ([], []), ([13], [13]), ([12, 14, 10], [12, 14]), ([10, 15, 15], [10, 15]), ([16, 16, 0, 1, 2, 3, 4, 5, 6, 7, 8, 9, 10, 11, 12, 13, 14, 15, 16], [16])])
def Bs_RatioAdd.B1 : List Nat := [0, 1, 0, 4, 15, 0, 32, 0, 128, 511, 1023, 0, 2048, 0, 8192, 32767, 65535, 131071]
theorem Bs_RatioAdd.tab1 : rtab .any (opsOf Tryd.f119 1) = Bs_RatioAdd.T1 := by kernel_rfl
theorem Bs_RatioAdd.bits1 : waitsOk Bs_RatioAdd.T1.2 Bs_RatioAdd.B1 = true := by kernel_rfl
theorem Bs_RatioAdd.calls (k : Nat) (a0_0 : Int) (A0_1 : Option Addr) (c0_1 : Nat) (l0_1 : List Int) (a0_2 : Int) (A0_3 : Option Addr) (c0_3 : Nat) (l0_3 : List Int) (a1_0 : Int) (A1_1 : Option Addr) (c1_1 : Nat) (l1_1 : List Int) (a1_2 : Int) (A1_3 : Option Addr) (c1_3 : Nat) (l1_3 : List Int) (r1 : Int) (r2 : List Int) (r3 : Int) (r4 : List Int) (w : World) (hr0_1 : Kd.C (Kd.int .i64) w A0_1 l0_1.length l0_1) (hc0_1 : l0_1.length ≤ c0_1) (hr0_3 : Kd.C (Kd.int .i64) w A0_3 l0_3.length l0_3) (hc0_3 : l0_3.length ≤ c0_3) (hr1_1 : Kd.C (Kd.int .i64) w A1_1 l1_1.length l1_1) (hc1_1 : l1_1.length ≤ c1_1) (hr1_3 : Kd.C (Kd.int .i64) w A1_3 l1_3.length l1_3) (hc1_3 : l1_3.length ≤ c1_3) (h : Bs_RatioAdd.f k a0_0 l0_1 a0_2 l0_3 a1_0 l1_1 a1_2 l1_3 = some (r1, r2, r3, r4)) :
  Calls Tryd.prog 119 #[.agg #[.int .i64 a0_0, .slice A0_1 l0_1.length c0_1, .int .i64 a0_2, .slice A0_3 l0_3.length c0_3], .agg #[.int .i64 a1_0, .slice A1_1 l1_1.length c1_1, .int .i64 a1_2, .slice A1_3 l1_3.length c1_3]] w fun e w' => ∃ v1_ v3_ : Value, e = .returned (.agg #[.int .i64 r1, v1_, .int .i64 r3, v3_]) ∧ Kd.V (Kd.int .i64) 3 w' w.heap.size (fun k_ => (w.heap.size ≤ k_)) v1_ r2 ∧ Kd.V (Kd.int .i64) 3 w' w.heap.size (fun k_ => (w.heap.size ≤ k_)) v3_ r4 ∧ Below w.heap.size w w' := by
 have hu137 := Tryd.underlying137
 have hu135 := Tryd.underlying135
 have HR0_1 := m0 hr0_1
 have HC0_1 := m0 hc0_1
 clear hr0_1 hc0_1
 have HR0_3 := m0 hr0_3
 have HC0_3 := m0 hc0_3
 clear hr0_3 hc0_3
 have HR1_1 := m0 hr1_1
 have HC1_1 := m0 hc1_1
 clear hr1_1 hc1_1
 have HR1_3 := m0 hr1_3
 have HC1_3 := m0 hc1_3
 clear hr1_3 hc1_3
 have HB := m0 (Below.refl w.heap.size w)
 have H : ((Bs_WideMul.f k a0_0 l0_1 a1_2 l1_3).bind fun bt679 => ((Bs_WideMul.f k a1_0 l1_1 a0_2 l0_3).bind fun bt683 => ((Bs_WideAdd.f k bt679.1 bt679.2 bt683.1 bt683.2).bind fun bt687 => ((Bs_WideMul.f k a0_2 l0_3 a1_2 l1_3).bind fun bt691 => ((Bs_RatioMake.f k bt687.1 bt687.2 bt691.1 bt691.2).bind fun bt695 => (some (bt695.1, bt695.2.1, bt695.2.2.1, bt695.2.2.2))))))) = some (r1, r2, r3, r4) := h
 clear h
 replace H := ob H
 obtain ⟨⟨t679, t680⟩, A3, H⟩ := H
 (try dsimp only at H)
 replace A3 := m0 A3
 replace H := ob H
 obtain ⟨⟨t683, t684⟩, A4, H⟩ := H
 (try dsimp only at H)
 replace A4 := m0 A4
 replace H := ob H
 obtain ⟨⟨t687, t688⟩, A5, H⟩ := H
 (try dsimp only at H)
 replace A5 := m0 A5
 replace H := ob H
 obtain ⟨⟨t691, t692⟩, A6, H⟩ := H
 (try dsimp only at H)
 replace A6 := m0 A6
 replace H := ob H
 obtain ⟨⟨t695, t696, t699, t700⟩, A7, H⟩ := H
 (try dsimp only at H)
 replace A7 := m0 A7
 simp only [Option.some.injEq, Prod.mk.injEq] at H
 obtain ⟨rfl, rfl, rfl, rfl⟩ := H
 go_enter Tryd.func119, Tryd.ntmps119
 try go_wp2_with (first | ((with_reducible refine gate_dst (N := 2) rfl ?_); refine be 2 137 #[.int .i64 a0_0, .slice A0_1 l0_1.length c0_1, .int .i64 a0_2, .slice A0_3 l0_3.length c0_3] ?_; intro gb676 hg w8 hbox hb; have BK676 := m0 hbox; have GE676 := gw w hg; replace HB := sb HB hb; clear hb hbox hg) | ((with_reducible refine gate_dst (N := 3) rfl ?_); refine be 3 137 #[.int .i64 a1_0, .slice A1_1 l1_1.length c1_1, .int .i64 a1_2, .slice A1_3 l1_3.length c1_3] ?_; intro gb677 hg w9 hbox hb; have BK677 := m0 hbox; have GE677 := gw w hg; replace HB := sb HB hb; have NB676_677 := nl BK676 hg; have NB677_676 := ng (nl BK676 hg); replace BK676 := bb BK676 hb; clear hb hbox hg) | ((with_reducible refine gate_dst (N := 4) rfl ?_); refine be 4 137 #[.int .i64 0, .slice none 0 0, .int .i64 0, .slice none 0 0] ?_; intro gb678 hg w10 hbox hb; have BK678 := m0 hbox; have GE678 := gw w hg; replace HB := sb HB hb; have NB676_678 := nl BK676 hg; have NB678_676 := ng (nl BK676 hg); replace BK676 := bb BK676 hb; have NB677_678 := nl BK677 hg; have NB678_677 := ng (nl BK677 hg); replace BK677 := bb BK677 hb; clear hb hbox hg))
 replace BK676 := bd BK676; replace BK677 := bd BK677; replace BK678 := bd BK678; replace HB := sd HB
 refine start_ (n := 18) (S := fun w' => w'.cell? ⟨gb676, 0, none⟩ = some (.int .i64 a0_0) ∧ w'.cell? ⟨gb676, 1, none⟩ = some (.slice A0_1 l0_1.length c0_1) ∧ w'.cell? ⟨gb676, 2, none⟩ = some (.int .i64 a0_2) ∧ w'.cell? ⟨gb676, 3, none⟩ = some (.slice A0_3 l0_3.length c0_3) ∧ w'.cell? ⟨gb677, 0, none⟩ = some (.int .i64 a1_0) ∧ w'.cell? ⟨gb677, 1, none⟩ = some (.slice A1_1 l1_1.length c1_1) ∧ w'.cell? ⟨gb677, 2, none⟩ = some (.int .i64 a1_2) ∧ w'.cell? ⟨gb677, 3, none⟩ = some (.slice A1_3 l1_3.length c1_3)) (ds := []) #[false, false, false, false, false, false, false, false, false, false, false, false, false, false, false, false, false, false] (by kernel_rfl) rfl rfl cz (fun hH => ?_); refine with_tabW Bs_RatioAdd.tab1 Bs_RatioAdd.bits1 (fun HT_ HW_ => ?_)
 generalize w10.drew = w11 at BK676 BK677 BK678 HB hH ⊢
 refine pZ 0 (some 5) (bs 18 1) HT_ ?_
 refine pZ 2 (some 7) (bs 18 5) HT_ ?_
 refine pZ 5 (some 10) (bs 18 37) HT_ ?_
 refine pZ 7 (some 12) (bs 18 165) HT_ ?_
 refine pZ 11 (some 16) (bs 18 2213) HT_ ?_
 refine pZ 13 (some 18) (bs 18 10405) HT_ ?_
 refine takeZ 1 (some 6) (bs 18 10407) (take_ofW HT_.out HW_.out (by kernel_rfl)) hH ?_
 refine takeZ 3 (some 8) (bs 18 10415) (take_ofW HT_.out HW_.out (by kernel_rfl)) hH ?_
 refine takeZ 6 (some 11) (bs 18 10479) (take_ofW HT_.out HW_.out (by kernel_rfl)) hH ?_
 refine takeZ 8 (some 13) (bs 18 10735) (take_ofW HT_.out HW_.out (by kernel_rfl)) hH ?_
 refine takeZ 12 (some 17) (bs 18 14831) (take_ofW HT_.out HW_.out (by kernel_rfl)) hH ?_
 refine takeZ 14 (some 19) (bs 18 31215) (take_ofW HT_.out HW_.out (by kernel_rfl)) hH ?_
 refine oneZ 4 (some 9) (bs 18 31231) (one_of HT_.out (by kernel_rfl)) fun K hK => ?_
 refine gz Tryd.func137 #[.agg #[.int .i64 a0_0, .slice A0_1 l0_1.length c0_1], .agg #[.int .i64 a1_2, .slice A1_3 l1_3.length c1_3]] ?_
 with_reducible refine (Bs_WideMul.calls k a0_0 _ _ l0_1 a1_2 _ _ l1_3 t679 t680 _ ?side1 ?side2 ?side3 ?side4 A3.out).mono ?_
 (case side1 => exact cb HR0_1 HB)
 (case side2 => exact HC0_1.out)
 (case side3 => exact cb HR1_3 HB)
 (case side4 => exact HC1_3.out)
 rintro e w12 ⟨v681, rfl, ho0, hb⟩
 refine ⟨_, rfl, ?_⟩
 have HO682 := m0 (Kd.V_lower (Kd.V_mono (ok' := fun k_ => (w.heap.size ≤ k_) ∧ k_ ≠ gb676 ∧ k_ ≠ gb677 ∧ k_ ≠ gb678) ho0 (fun k_ hk_ => ⟨(Nat.le_trans (below_size bz) hk_), (Kd.freshB (g := gb676) (o := .cells #[.int .i64 a0_0, .slice A0_1 l0_1.length c0_1, .int .i64 a0_2, .slice A0_3 l0_3.length c0_3] 137 (0, 0)) (bk BK676.out) k_ hk_), (Kd.freshB (g := gb677) (o := .cells #[.int .i64 a1_0, .slice A1_1 l1_1.length c1_1, .int .i64 a1_2, .slice A1_3 l1_3.length c1_3] 137 (0, 0)) (bk BK677.out) k_ hk_), (Kd.freshB (g := gb678) (o := .cells #[.int .i64 0, .slice none 0 0, .int .i64 0, .slice none 0 0] 137 (0, 0)) (bk BK678.out) k_ hk_)⟩)) (below_size bz)); replace BK676 := bb BK676 hb; replace BK677 := bb BK677 hb; replace BK678 := bb BK678 hb; replace HB := sb HB hb
 (try clear hb)
 (try clear ho0)
 refine hK.out _ _ cz (fun hH => ?_)
 clear hK K
 refine norm_ (a' := ?_) ?_ ?_
 rotate_left
 ·show Act.put _ (some 9) _ = _
  exact pz
 refine oneZ 9 (some 14) (bs 18 31743) (one_of HT_.out (by kernel_rfl)) fun K hK => ?_
 refine gz Tryd.func137 #[.agg #[.int .i64 a1_0, .slice A1_1 l1_1.length c1_1], .agg #[.int .i64 a0_2, .slice A0_3 l0_3.length c0_3]] ?_
 with_reducible refine (Bs_WideMul.calls k a1_0 _ _ l1_1 a0_2 _ _ l0_3 t683 t684 _ ?side1 ?side2 ?side3 ?side4 A4.out).mono ?_
 (case side1 => exact cb HR1_1 HB)
 (case side2 => exact HC1_1.out)
 (case side3 => exact cb HR0_3 HB)
 (case side4 => exact HC0_3.out)
 rintro e w13 ⟨v685, rfl, ho0, hb⟩
 refine ⟨_, rfl, ?_⟩
 replace HO682 := vb HO682 hb; have HO686 := m0 (Kd.V_lower (Kd.V_mono (ok' := fun k_ => (w.heap.size ≤ k_) ∧ k_ ≠ gb676 ∧ k_ ≠ gb677 ∧ k_ ≠ gb678) ho0 (fun k_ hk_ => ⟨(Nat.le_trans (below_size bz) hk_), (Kd.freshB (g := gb676) (o := .cells #[.int .i64 a0_0, .slice A0_1 l0_1.length c0_1, .int .i64 a0_2, .slice A0_3 l0_3.length c0_3] 137 (0, 0)) (bk BK676.out) k_ hk_), (Kd.freshB (g := gb677) (o := .cells #[.int .i64 a1_0, .slice A1_1 l1_1.length c1_1, .int .i64 a1_2, .slice A1_3 l1_3.length c1_3] 137 (0, 0)) (bk BK677.out) k_ hk_), (Kd.freshB (g := gb678) (o := .cells #[.int .i64 0, .slice none 0 0, .int .i64 0, .slice none 0 0] 137 (0, 0)) (bk BK678.out) k_ hk_)⟩)) (below_size bz)); replace BK676 := bb BK676 hb; replace BK677 := bb BK677 hb; replace BK678 := bb BK678 hb; replace HB := sb HB hb
 (try clear hb)
 (try clear ho0)
 obtain ⟨Ao14, co14, eo14⟩ := Kd.V_slice HO682.out
 subst eo14
 obtain ⟨Ao15, co15, eo15⟩ := Kd.V_slice HO686.out
 subst eo15
 refine hK.out _ _ cz (fun hH => ?_)
 clear hK K
 refine norm_ (a' := ?_) ?_ ?_
 rotate_left
 ·show Act.put _ (some 14) _ = _
  exact pz
 refine oneZ 10 (some 15) (bs 18 32767) (one_of HT_.out (by kernel_rfl)) fun K hK => ?_
 refine gz Tryd.func140 #[.agg #[.int .i64 t679, .slice Ao14 t680.length co14], .agg #[.int .i64 t683, .slice Ao15 t684.length co15]] ?_
 with_reducible refine (Bs_WideAdd.calls k t679 (fun k_ => ((w.heap.size ≤ k_) ∧ (k_ ≠ gb676 ∧ (k_ ≠ gb677 ∧ k_ ≠ gb678)))) _ _ t680 t683 (fun k_ => ((w.heap.size ≤ k_) ∧ (k_ ≠ gb676 ∧ (k_ ≠ gb677 ∧ k_ ≠ gb678)))) _ _ t684 t687 t688 _ ?side1 ?side2 A5.out).mono ?_
 (case side1 => exact HO682.out)
 (case side2 => exact HO686.out)
 rintro e w16 ⟨v689, rfl, ho0, hb⟩
 refine ⟨_, rfl, ?_⟩
 replace HO682 := vb HO682 hb; replace HO686 := vb HO686 hb; have HO690 := m0 (Kd.V_lower (Kd.V_mono (ok' := fun k_ => (w.heap.size ≤ k_) ∧ k_ ≠ gb676 ∧ k_ ≠ gb677 ∧ k_ ≠ gb678) ho0 (fun k_ hk_ => ⟨Or.elim hk_ (fun hs_ => Or.elim hs_ (fun hs_ => hs_.1) (fun hs_ => hs_.1)) (fun hn_ => (Nat.le_trans (below_size bz) hn_)), Or.elim hk_ (fun hs_ => Or.elim hs_ (fun hs_ => hs_.2.1) (fun hs_ => hs_.2.1)) (fun hn_ => (Kd.freshB (g := gb676) (o := .cells #[.int .i64 a0_0, .slice A0_1 l0_1.length c0_1, .int .i64 a0_2, .slice A0_3 l0_3.length c0_3] 137 (0, 0)) (bk BK676.out) k_ hn_)), Or.elim hk_ (fun hs_ => Or.elim hs_ (fun hs_ => hs_.2.2.1) (fun hs_ => hs_.2.2.1)) (fun hn_ => (Kd.freshB (g := gb677) (o := .cells #[.int .i64 a1_0, .slice A1_1 l1_1.length c1_1, .int .i64 a1_2, .slice A1_3 l1_3.length c1_3] 137 (0, 0)) (bk BK677.out) k_ hn_)), Or.elim hk_ (fun hs_ => Or.elim hs_ (fun hs_ => hs_.2.2.2) (fun hs_ => hs_.2.2.2)) (fun hn_ => (Kd.freshB (g := gb678) (o := .cells #[.int .i64 0, .slice none 0 0, .int .i64 0, .slice none 0 0] 137 (0, 0)) (bk BK678.out) k_ hn_))⟩)) (below_size bz)); replace BK676 := bb BK676 hb; replace BK677 := bb BK677 hb; replace BK678 := bb BK678 hb; replace HB := sb HB hb
 (try clear hb)
 (try clear ho0)
 refine hK.out _ _ cz (fun hH => ?_)
 clear hK K
 refine norm_ (a' := ?_) ?_ ?_
 rotate_left
 ·show Act.put _ (some 15) _ = _
  exact pz
 refine oneZ 15 (some 20) (bs 18 65535) (one_of HT_.out (by kernel_rfl)) fun K hK => ?_
 refine gz Tryd.func137 #[.agg #[.int .i64 a0_2, .slice A0_3 l0_3.length c0_3], .agg #[.int .i64 a1_2, .slice A1_3 l1_3.length c1_3]] ?_
 with_reducible refine (Bs_WideMul.calls k a0_2 _ _ l0_3 a1_2 _ _ l1_3 t691 t692 _ ?side1 ?side2 ?side3 ?side4 A6.out).mono ?_
 (case side1 => exact cb HR0_3 HB)
 (case side2 => exact HC0_3.out)
 (case side3 => exact cb HR1_3 HB)
 (case side4 => exact HC1_3.out)
 rintro e w17 ⟨v693, rfl, ho0, hb⟩
 refine ⟨_, rfl, ?_⟩
 replace HO682 := vb HO682 hb; replace HO686 := vb HO686 hb; replace HO690 := vb HO690 hb; have HO694 := m0 (Kd.V_lower (Kd.V_mono (ok' := fun k_ => (w.heap.size ≤ k_) ∧ k_ ≠ gb676 ∧ k_ ≠ gb677 ∧ k_ ≠ gb678) ho0 (fun k_ hk_ => ⟨(Nat.le_trans (below_size bz) hk_), (Kd.freshB (g := gb676) (o := .cells #[.int .i64 a0_0, .slice A0_1 l0_1.length c0_1, .int .i64 a0_2, .slice A0_3 l0_3.length c0_3] 137 (0, 0)) (bk BK676.out) k_ hk_), (Kd.freshB (g := gb677) (o := .cells #[.int .i64 a1_0, .slice A1_1 l1_1.length c1_1, .int .i64 a1_2, .slice A1_3 l1_3.length c1_3] 137 (0, 0)) (bk BK677.out) k_ hk_), (Kd.freshB (g := gb678) (o := .cells #[.int .i64 0, .slice none 0 0, .int .i64 0, .slice none 0 0] 137 (0, 0)) (bk BK678.out) k_ hk_)⟩)) (below_size bz)); replace BK676 := bb BK676 hb; replace BK677 := bb BK677 hb; replace BK678 := bb BK678 hb; replace HB := sb HB hb
 (try clear hb)
 (try clear ho0)
 obtain ⟨Ao18, co18, eo18⟩ := Kd.V_slice HO690.out
 subst eo18
 obtain ⟨Ao19, co19, eo19⟩ := Kd.V_slice HO694.out
 subst eo19
 refine hK.out _ _ cz (fun hH => ?_)
 clear hK K
 refine norm_ (a' := ?_) ?_ ?_
 rotate_left
 ·show Act.put _ (some 20) _ = _
  exact pz
 refine oneZ 16 (some 21) (bs 18 131071) (one_of HT_.out (by kernel_rfl)) fun K hK => ?_
 refine gz Tryd.func136 #[.agg #[.int .i64 t687, .slice Ao18 t688.length co18], .agg #[.int .i64 t691, .slice Ao19 t692.length co19]] ?_
 with_reducible refine (Bs_RatioMake.calls k t687 (fun k_ => ((w.heap.size ≤ k_) ∧ (k_ ≠ gb676 ∧ (k_ ≠ gb677 ∧ k_ ≠ gb678)))) _ _ t688 t691 (fun k_ => ((w.heap.size ≤ k_) ∧ (k_ ≠ gb676 ∧ (k_ ≠ gb677 ∧ k_ ≠ gb678)))) _ _ t692 t695 t696 t699 t700 _ ?side1 ?side2 A7.out).mono ?_
 (case side1 => exact HO690.out)
 (case side2 => exact HO694.out)
 rintro e w20 ⟨v697, v701, rfl, ho0, ho1, hb⟩
 refine ⟨_, rfl, ?_⟩
 replace HO682 := vb HO682 hb; replace HO686 := vb HO686 hb; replace HO690 := vb HO690 hb; replace HO694 := vb HO694 hb; have HO698 := m0 (Kd.V_lower (Kd.V_mono (ok' := fun k_ => (w.heap.size ≤ k_) ∧ k_ ≠ gb676 ∧ k_ ≠ gb677 ∧ k_ ≠ gb678) ho0 (fun k_ hk_ => ⟨Or.elim hk_ (fun hs_ => Or.elim hs_ (fun hs_ => hs_.1) (fun hs_ => hs_.1)) (fun hn_ => (Nat.le_trans (below_size bz) hn_)), Or.elim hk_ (fun hs_ => Or.elim hs_ (fun hs_ => hs_.2.1) (fun hs_ => hs_.2.1)) (fun hn_ => (Kd.freshB (g := gb676) (o := .cells #[.int .i64 a0_0, .slice A0_1 l0_1.length c0_1, .int .i64 a0_2, .slice A0_3 l0_3.length c0_3] 137 (0, 0)) (bk BK676.out) k_ hn_)), Or.elim hk_ (fun hs_ => Or.elim hs_ (fun hs_ => hs_.2.2.1) (fun hs_ => hs_.2.2.1)) (fun hn_ => (Kd.freshB (g := gb677) (o := .cells #[.int .i64 a1_0, .slice A1_1 l1_1.length c1_1, .int .i64 a1_2, .slice A1_3 l1_3.length c1_3] 137 (0, 0)) (bk BK677.out) k_ hn_)), Or.elim hk_ (fun hs_ => Or.elim hs_ (fun hs_ => hs_.2.2.2) (fun hs_ => hs_.2.2.2)) (fun hn_ => (Kd.freshB (g := gb678) (o := .cells #[.int .i64 0, .slice none 0 0, .int .i64 0, .slice none 0 0] 137 (0, 0)) (bk BK678.out) k_ hn_))⟩)) (below_size bz)); have HO702 := m0 (Kd.V_lower (Kd.V_mono (ok' := fun k_ => (w.heap.size ≤ k_) ∧ k_ ≠ gb676 ∧ k_ ≠ gb677 ∧ k_ ≠ gb678) ho1 (fun k_ hk_ => ⟨Or.elim hk_ (fun hs_ => Or.elim hs_ (fun hs_ => hs_.1) (fun hs_ => hs_.1)) (fun hn_ => (Nat.le_trans (below_size bz) hn_)), Or.elim hk_ (fun hs_ => Or.elim hs_ (fun hs_ => hs_.2.1) (fun hs_ => hs_.2.1)) (fun hn_ => (Kd.freshB (g := gb676) (o := .cells #[.int .i64 a0_0, .slice A0_1 l0_1.length c0_1, .int .i64 a0_2, .slice A0_3 l0_3.length c0_3] 137 (0, 0)) (bk BK676.out) k_ hn_)), Or.elim hk_ (fun hs_ => Or.elim hs_ (fun hs_ => hs_.2.2.1) (fun hs_ => hs_.2.2.1)) (fun hn_ => (Kd.freshB (g := gb677) (o := .cells #[.int .i64 a1_0, .slice A1_1 l1_1.length c1_1, .int .i64 a1_2, .slice A1_3 l1_3.length c1_3] 137 (0, 0)) (bk BK677.out) k_ hn_)), Or.elim hk_ (fun hs_ => Or.elim hs_ (fun hs_ => hs_.2.2.2) (fun hs_ => hs_.2.2.2)) (fun hn_ => (Kd.freshB (g := gb678) (o := .cells #[.int .i64 0, .slice none 0 0, .int .i64 0, .slice none 0 0] 137 (0, 0)) (bk BK678.out) k_ hn_))⟩)) (below_size bz)); replace BK676 := bb BK676 hb; replace BK677 := bb BK677 hb; replace BK678 := bb BK678 hb; replace HB := sb HB hb
 (try clear hb)
 (try clear ho0)
 (try clear ho1)
 obtain ⟨Ao22, co22, eo22⟩ := Kd.V_slice HO698.out
 subst eo22
 obtain ⟨Ao25, co25, eo25⟩ := Kd.V_slice HO702.out
 subst eo25
 refine hK.out _ _ cz (fun hH => ?_)
 clear hK K
 refine norm_ (a' := ?_) ?_ ?_
 rotate_left
 ·show Act.put _ (some 21) _ = _
  exact pz
 refine oneZ 17 (none) (bs 18 262143) (one_of HT_.out (by kernel_rfl)) fun K hK => ?_
 have hs21 : w20.cell? ⟨gb678, 0, none⟩ = some (.int .i64 0) := (blk_cell BK678.out 0).trans rfl
 have hfs21 := blk_frozen BK678.out 0
 have hs23 : w20.cell? ⟨gb678, 1, none⟩ = some (.slice none 0 0) := (blk_cell BK678.out 1).trans rfl
 have hfs23 := blk_frozen BK678.out 1
 have hs24 : w20.cell? ⟨gb678, 2, none⟩ = some (.int .i64 0) := (blk_cell BK678.out 2).trans rfl
 have hfs24 := blk_frozen BK678.out 2
 have hs26 : w20.cell? ⟨gb678, 3, none⟩ = some (.slice none 0 0) := (blk_cell BK678.out 3).trans rfl
 have hfs26 := blk_frozen BK678.out 3
 refine skip_ (w1 := ?_) (by rfl) rfl ?_ ?_
 rotate_left
 ·go_simp
  rfl
 refine hK.out _ _ (cf hH) (fun hH => ?_)
 clear hK K
 refine done_ (done_of HT_.out (by kernel_rfl)) ?_
 try go_wp2
 refine bodyPost_ret (results_cell_row rfl _ _ gb678 137 #[.int .i64 t695, .slice Ao22 t696.length co22, .int .i64 t699, .slice Ao25 t700.length co25] (0, 0) _ rfl (bq BK678.out) Tryd.underlying137 rfl (by kernel_rfl)) rfl ?_
 exact ⟨_, _, by first | rfl | (simp [errW_none, errW_some] <;> rfl) | (simp [*, errW_none, errW_some] <;> rfl), by (with_reducible repeat (first | apply Kd.V_alloc | apply Kd.V_drewN | apply Kd.V_drew)); exact Kd.V_mono (Kd.V_far (p := ⟨gb678, 3, none⟩) (Kd.V_far (p := ⟨gb678, 2, none⟩) (Kd.V_far (p := ⟨gb678, 1, none⟩) (Kd.V_far (p := ⟨gb678, 0, none⟩) (Kd.V_mono HO698.out (fun k_ hk => (⟨hk, hk.2.2.2⟩ : _ ∧ k_ ≠ gb678))) (fun _ hk => hk.2) (.int .i64 t695)) (fun _ hk => hk.2) (.slice Ao22 t696.length co22)) (fun _ hk => hk.2) (.int .i64 t699)) (fun _ hk => hk.2) (.slice Ao25 t700.length co25)) (fun _ hk => hk.1.1), by (with_reducible repeat (first | apply Kd.V_alloc | apply Kd.V_drewN | apply Kd.V_drew)); exact Kd.V_mono (Kd.V_far (p := ⟨gb678, 3, none⟩) (Kd.V_far (p := ⟨gb678, 2, none⟩) (Kd.V_far (p := ⟨gb678, 1, none⟩) (Kd.V_far (p := ⟨gb678, 0, none⟩) (Kd.V_mono HO702.out (fun k_ hk => (⟨hk, hk.2.2.2⟩ : _ ∧ k_ ≠ gb678))) (fun _ hk => hk.2) (.int .i64 t695)) (fun _ hk => hk.2) (.slice Ao22 t696.length co22)) (fun _ hk => hk.2) (.int .i64 t699)) (fun _ hk => hk.2) (.slice Ao25 t700.length co25)) (fun _ hk => hk.1.1), by repeat (first | (with_reducible first | exact HB.out | apply below_alloc | apply pw_below_drewN | apply below_drew1 | refine below_set ?_ GE676.out | refine below_set ?_ GE677.out | refine below_set ?_ GE678.out) | exact HB.out)⟩
end
section
def Bs_RatioNeg.f (a0_0 : Int) (l0_1 : List Int) (a0_2 : Int) (l0_3 : List Int) : Option (Int × List Int × Int × List Int) := (Bs_WideNeg.f a0_0 l0_1).bind fun bt705 => (some (bt705.1, bt705.2, a0_2, l0_3))
theorem Bs_RatioNeg.calls (a0_0 : Int) (P0_1_ : Nat → Prop) (A0_1 : Option Addr) (c0_1 : Nat) (l0_1 : List Int) (a0_2 : Int) (P0_3_ : Nat → Prop) (A0_3 : Option Addr) (c0_3 : Nat) (l0_3 : List Int) (r1 : Int) (r2 : List Int) (r3 : Int) (r4 : List Int) (w : World) (hs0_1 : Kd.V (Kd.int .i64) 3 w w.heap.size (fun k_ => P0_1_ k_) (.slice A0_1 l0_1.length c0_1) l0_1) (hs0_3 : Kd.V (Kd.int .i64) 3 w w.heap.size (fun k_ => P0_3_ k_) (.slice A0_3 l0_3.length c0_3) l0_3) (h : Bs_RatioNeg.f a0_0 l0_1 a0_2 l0_3 = some (r1, r2, r3, r4)) :
  Calls Tryd.prog 138 #[.agg #[.int .i64 a0_0, .slice A0_1 l0_1.length c0_1, .int .i64 a0_2, .slice A0_3 l0_3.length c0_3]] w fun e w' => ∃ v1_ v3_ : Value, e = .returned (.agg #[.int .i64 r1, v1_, .int .i64 r3, v3_]) ∧ Kd.V (Kd.int .i64) 3 w' w.heap.size (fun k_ => ((P0_1_ k_ ∨ P0_3_ k_) ∨ w.heap.size ≤ k_)) v1_ r2 ∧ Kd.V (Kd.int .i64) 3 w' w.heap.size (fun k_ => ((P0_1_ k_ ∨ P0_3_ k_) ∨ w.heap.size ≤ k_)) v3_ r4 ∧ Below w.heap.size w w' := by
 have hu137 := Tryd.underlying137
 have hu135 := Tryd.underlying135
 have HO0_1 := m0 (show Kd.V (Kd.int .i64) 3 w w.heap.size (fun k_ => ((P0_1_ k_ ∨ P0_3_ k_) ∨ w.heap.size ≤ k_)) (.slice A0_1 l0_1.length c0_1) l0_1 from Kd.V_mono hs0_1 (fun k_ hk => .inl (.inl hk)))
 have HO0_3 := m0 (show Kd.V (Kd.int .i64) 3 w w.heap.size (fun k_ => ((P0_1_ k_ ∨ P0_3_ k_) ∨ w.heap.size ≤ k_)) (.slice A0_3 l0_3.length c0_3) l0_3 from Kd.V_mono hs0_3 (fun k_ hk => .inl (.inr hk)))
 have HB := m0 (Below.refl w.heap.size w)
 have H : ((Bs_WideNeg.f a0_0 l0_1).bind fun bt705 => (some (bt705.1, bt705.2, a0_2, l0_3))) = some (r1, r2, r3, r4) := h
 clear h
 replace H := ob H
 obtain ⟨⟨t705, t706⟩, A2, H⟩ := H
 (try dsimp only at H)
 replace A2 := m0 A2
 simp only [Option.some.injEq, Prod.mk.injEq] at H
 obtain ⟨rfl, rfl, rfl, rfl⟩ := H
 go_enter Tryd.func138, Tryd.ntmps138
 try go_wp2_with (first | ((with_reducible refine gate_dst (N := 1) rfl ?_); refine be 1 137 #[.int .i64 a0_0, .slice A0_1 l0_1.length c0_1, .int .i64 a0_2, .slice A0_3 l0_3.length c0_3] ?_; intro gb703 hg w3 hbox hb; replace HO0_1 := ve HO0_1 hg hb; replace HO0_3 := ve HO0_3 hg hb; have BK703 := m0 hbox; have GE703 := gw w hg; replace HB := sb HB hb; clear hb hbox hg) | ((with_reducible refine gate_dst (N := 2) rfl ?_); refine be 2 137 #[.int .i64 0, .slice none 0 0, .int .i64 0, .slice none 0 0] ?_; intro gb704 hg w4 hbox hb; replace HO0_1 := ve HO0_1 hg hb; replace HO0_3 := ve HO0_3 hg hb; have BK704 := m0 hbox; have GE704 := gw w hg; replace HB := sb HB hb; have NB703_704 := nl BK703 hg; have NB704_703 := ng (nl BK703 hg); replace BK703 := bb BK703 hb; clear hb hbox hg))
 replace HO0_1 := m0 (Kd.V_drew HO0_1.out); replace HO0_3 := m0 (Kd.V_drew HO0_3.out); replace BK703 := bd BK703; replace BK704 := bd BK704; replace HB := sd HB
 refine start_ (n := 7) (S := fun w' => w'.cell? ⟨gb703, 0, none⟩ = some (.int .i64 a0_0) ∧ w'.cell? ⟨gb703, 1, none⟩ = some (.slice A0_1 l0_1.length c0_1) ∧ w'.cell? ⟨gb703, 2, none⟩ = some (.int .i64 a0_2) ∧ w'.cell? ⟨gb703, 3, none⟩ = some (.slice A0_3 l0_3.length c0_3)) (ds := []) #[false, false, false, false, false, false, false] (by kernel_rfl) rfl rfl cz (fun hH => ?_)
 generalize w4.drew = w5 at HO0_1 HO0_3 BK703 BK704 HB hH ⊢
 refine pure_ (i := 0) (N := some 3) (v := ?_) (a' := ?_) #[true, false, false, false, false, false, false] rfl rfl (by kernel_rfl) (fun _ _ _ h => h) (Or.inl ⟨by rfl, ?_⟩) ?_ ?_
 rotate_left
 ·intro w'
  go_simp
  with_reducible rfl
 rotate_left
 ·exact pz
 refine pure_ (i := 3) (N := some 6) (v := ?_) (a' := ?_) #[true, false, false, true, false, false, false] rfl rfl (by kernel_rfl) (fun _ _ _ h => h) (Or.inl ⟨by rfl, ?_⟩) ?_ ?_
 rotate_left
 ·intro w'
  go_simp
  with_reducible rfl
 rotate_left
 ·exact pz
 refine takeZ 1 (some 4) #[true, true, false, true, false, false, false] (by kernel_rfl) hH ?_
 refine takeZ 4 (some 7) #[true, true, false, true, true, false, false] (by kernel_rfl) hH ?_
 refine oneZ 2 (some 5) #[true, true, true, true, true, false, false] (by kernel_rfl) fun K hK => ?_
 refine gz Tryd.func146 #[.agg #[.int .i64 a0_0, .slice A0_1 l0_1.length c0_1]] ?_
 with_reducible refine (Bs_WideNeg.calls a0_0 (fun k_ => ((((P0_1_ k_ ∨ P0_3_ k_) ∨ w.heap.size ≤ k_) ∧ k_ ≠ gb703) ∧ k_ ≠ gb704)) _ _ l0_1 t705 t706 _ ?side1 A2.out).mono ?_
 (case side1 => exact HO0_1.out)
 rintro e w6 ⟨v707, rfl, ho0, hb⟩
 refine ⟨_, rfl, ?_⟩
 replace HO0_1 := vb HO0_1 hb; replace HO0_3 := vb HO0_3 hb; have HO708 := m0 (Kd.V_lower (Kd.V_mono (ok' := fun k_ => ((P0_1_ k_ ∨ P0_3_ k_) ∨ w.heap.size ≤ k_) ∧ k_ ≠ gb703 ∧ k_ ≠ gb704) ho0 (fun k_ hk_ => ⟨Or.elim hk_ (fun hs_ => hs_.1.1) (fun hn_ => (.inr (Nat.le_trans (below_size bz) hn_))), Or.elim hk_ (fun hs_ => hs_.1.2) (fun hn_ => (Kd.freshB (g := gb703) (o := .cells #[.int .i64 a0_0, .slice A0_1 l0_1.length c0_1, .int .i64 a0_2, .slice A0_3 l0_3.length c0_3] 137 (0, 0)) (bk BK703.out) k_ hn_)), Or.elim hk_ (fun hs_ => hs_.2) (fun hn_ => (Kd.freshB (g := gb704) (o := .cells #[.int .i64 0, .slice none 0 0, .int .i64 0, .slice none 0 0] 137 (0, 0)) (bk BK704.out) k_ hn_))⟩)) (below_size bz)); replace BK703 := bb BK703 hb; replace BK704 := bb BK704 hb; replace HB := sb HB hb
 (try clear hb)
 (try clear ho0)
 obtain ⟨Ao7, co7, eo7⟩ := Kd.V_slice HO708.out
 subst eo7
 refine hK.out _ _ cz (fun hH => ?_)
 clear hK K
 refine norm_ (a' := ?_) ?_ ?_
 rotate_left
 ·show Act.put _ (some 5) _ = _
  exact pz
 refine pure_ (i := 5) (N := some 8) (v := ?_) (a' := ?_) #[true, true, true, true, true, true, false] rfl rfl (by kernel_rfl) (fun _ _ _ h => h) (Or.inl ⟨by rfl, ?_⟩) ?_ ?_
 rotate_left
 ·intro w'
  go_simp
  with_reducible rfl
 rotate_left
 ·exact pz
 refine oneZ 6 (none) #[true, true, true, true, true, true, true] (by kernel_rfl) fun K hK => ?_
 have hs8 : w6.cell? ⟨gb704, 0, none⟩ = some (.int .i64 0) := (blk_cell BK704.out 0).trans rfl
 have hfs8 := blk_frozen BK704.out 0
 have hs9 : w6.cell? ⟨gb704, 1, none⟩ = some (.slice none 0 0) := (blk_cell BK704.out 1).trans rfl
 have hfs9 := blk_frozen BK704.out 1
 have hs10 : w6.cell? ⟨gb704, 2, none⟩ = some (.int .i64 0) := (blk_cell BK704.out 2).trans rfl
 have hfs10 := blk_frozen BK704.out 2
 have hs11 : w6.cell? ⟨gb704, 3, none⟩ = some (.slice none 0 0) := (blk_cell BK704.out 3).trans rfl
 have hfs11 := blk_frozen BK704.out 3
 refine skip_ (w1 := ?_) (by rfl) rfl ?_ ?_
 rotate_left
 ·go_simp
  rfl
 refine hK.out _ _ (cf hH) (fun hH => ?_)
 clear hK K
 refine done_ (by kernel_rfl) ?_
 try go_wp2
 refine bodyPost_ret (results_cell_row rfl _ _ gb704 137 #[.int .i64 t705, .slice Ao7 t706.length co7, .int .i64 a0_2, .slice A0_3 l0_3.length c0_3] (0, 0) _ rfl (bq BK704.out) Tryd.underlying137 rfl (by kernel_rfl)) rfl ?_
 exact ⟨_, _, by first | rfl | (simp [errW_none, errW_some] <;> rfl) | (simp [*, errW_none, errW_some] <;> rfl), by (with_reducible repeat (first | apply Kd.V_alloc | apply Kd.V_drewN | apply Kd.V_drew)); exact Kd.V_mono (Kd.V_far (p := ⟨gb704, 3, none⟩) (Kd.V_far (p := ⟨gb704, 2, none⟩) (Kd.V_far (p := ⟨gb704, 1, none⟩) (Kd.V_far (p := ⟨gb704, 0, none⟩) (Kd.V_mono HO708.out (fun k_ hk => (⟨hk, hk.2.2⟩ : _ ∧ k_ ≠ gb704))) (fun _ hk => hk.2) (.int .i64 t705)) (fun _ hk => hk.2) (.slice Ao7 t706.length co7)) (fun _ hk => hk.2) (.int .i64 a0_2)) (fun _ hk => hk.2) (.slice A0_3 l0_3.length c0_3)) (fun _ hk => hk.1.1), by (with_reducible repeat (first | apply Kd.V_alloc | apply Kd.V_drewN | apply Kd.V_drew)); exact Kd.V_mono (Kd.V_far (p := ⟨gb704, 3, none⟩) (Kd.V_far (p := ⟨gb704, 2, none⟩) (Kd.V_far (p := ⟨gb704, 1, none⟩) (Kd.V_far (p := ⟨gb704, 0, none⟩) (Kd.V_mono HO0_3.out (fun k_ hk => (⟨hk, hk.2⟩ : _ ∧ k_ ≠ gb704))) (fun _ hk => hk.2) (.int .i64 t705)) (fun _ hk => hk.2) (.slice Ao7 t706.length co7)) (fun _ hk => hk.2) (.int .i64 a0_2)) (fun _ hk => hk.2) (.slice A0_3 l0_3.length c0_3)) (fun _ hk => hk.1.1.1), by repeat (first | (with_reducible first | exact HB.out | apply below_alloc | apply pw_below_drewN | apply below_drew1 | refine below_set ?_ GE703.out | refine below_set ?_ GE704.out) | exact HB.out)⟩
end
section
def Bs_RatioSub.f (k : Nat) (a0_0 : Int) (l0_1 : List Int) (a0_2 : Int) (l0_3 : List Int) (a1_0 : Int) (l1_1 : List Int) (a1_2 : Int) (l1_3 : List Int) : Option (Int × List Int × Int × List Int) := (Bs_RatioNeg.f a1_0 l1_1 a1_2 l1_3).bind fun bt712 => ((Bs_RatioAdd.f k a0_0 l0_1 a0_2 l0_3 bt712.1 bt712.2.1 bt712.2.2.1 bt712.2.2.2).bind fun bt720 => (some (bt720.1, bt720.2.1, bt720.2.2.1, bt720.2.2.2)))
theorem Bs_RatioSub.mono : ∀ a0 a1 a2 a3 a4 a5 a6 a7 k, LeO (Bs_RatioSub.f k a0 a1 a2 a3 a4 a5 a6 a7) (Bs_RatioSub.f (k + 1) a0 a1 a2 a3 a4 a5 a6 a7) := by
 intro a0 a1 a2 a3 a4 a5 a6 a7 k
 unfold Bs_RatioSub.f
 repeat' with_reducible first
  | exact Bs_RatioAdd.mono ..
  | exact LeO.refl ..
  | exact LeO.none ..
  | refine LeO.ite ?_ ?_
  | refine LeO.bind ?_ (fun _ => ?_)
theorem Bs_RatioSub.calls (k : Nat) (a0_0 : Int) (A0_1 : Option Addr) (c0_1 : Nat) (l0_1 : List Int) (a0_2 : Int) (A0_3 : Option Addr) (c0_3 : Nat) (l0_3 : List Int) (a1_0 : Int) (P1_1_ : Nat → Prop) (A1_1 : Option Addr) (c1_1 : Nat) (l1_1 : List Int) (a1_2 : Int) (P1_3_ : Nat → Prop) (A1_3 : Option Addr) (c1_3 : Nat) (l1_3 : List Int) (r1 : Int) (r2 : List Int) (r3 : Int) (r4 : List Int) (w : World) (hr0_1 : Kd.C (Kd.int .i64) w A0_1 l0_1.length l0_1) (hc0_1 : l0_1.length ≤ c0_1) (hr0_3 : Kd.C (Kd.int .i64) w A0_3 l0_3.length l0_3) (hc0_3 : l0_3.length ≤ c0_3) (hs1_1 : Kd.V (Kd.int .i64) 3 w w.heap.size (fun k_ => P1_1_ k_) (.slice A1_1 l1_1.length c1_1) l1_1) (hs1_3 : Kd.V (Kd.int .i64) 3 w w.heap.size (fun k_ => P1_3_ k_) (.slice A1_3 l1_3.length c1_3) l1_3) (h : Bs_RatioSub.f k a0_0 l0_1 a0_2 l0_3 a1_0 l1_1 a1_2 l1_3 = some (r1, r2, r3, r4)) :
  Calls Tryd.prog 115 #[.agg #[.int .i64 a0_0, .slice A0_1 l0_1.length c0_1, .int .i64 a0_2, .slice A0_3 l0_3.length c0_3], .agg #[.int .i64 a1_0, .slice A1_1 l1_1.length c1_1, .int .i64 a1_2, .slice A1_3 l1_3.length c1_3]] w fun e w' => ∃ v1_ v3_ : Value, e = .returned (.agg #[.int .i64 r1, v1_, .int .i64 r3, v3_]) ∧ Kd.V (Kd.int .i64) 3 w' w.heap.size (fun k_ => ((P1_1_ k_ ∨ P1_3_ k_) ∨ w.heap.size ≤ k_)) v1_ r2 ∧ Kd.V (Kd.int .i64) 3 w' w.heap.size (fun k_ => ((P1_1_ k_ ∨ P1_3_ k_) ∨ w.heap.size ≤ k_)) v3_ r4 ∧ Below w.heap.size w w' := by
 have hu137 := Tryd.underlying137
 have HR0_1 := m0 hr0_1
 have HC0_1 := m0 hc0_1
 clear hr0_1 hc0_1
 have HR0_3 := m0 hr0_3
 have HC0_3 := m0 hc0_3
 clear hr0_3 hc0_3
 have HO1_1 := m0 (show Kd.V (Kd.int .i64) 3 w w.heap.size (fun k_ => ((P1_1_ k_ ∨ P1_3_ k_) ∨ w.heap.size ≤ k_)) (.slice A1_1 l1_1.length c1_1) l1_1 from Kd.V_mono hs1_1 (fun k_ hk => .inl (.inl hk)))
 have HO1_3 := m0 (show Kd.V (Kd.int .i64) 3 w w.heap.size (fun k_ => ((P1_1_ k_ ∨ P1_3_ k_) ∨ w.heap.size ≤ k_)) (.slice A1_3 l1_3.length c1_3) l1_3 from Kd.V_mono hs1_3 (fun k_ hk => .inl (.inr hk)))
 have HB := m0 (Below.refl w.heap.size w)
 have H : ((Bs_RatioNeg.f a1_0 l1_1 a1_2 l1_3).bind fun bt712 => ((Bs_RatioAdd.f k a0_0 l0_1 a0_2 l0_3 bt712.1 bt712.2.1 bt712.2.2.1 bt712.2.2.2).bind fun bt720 => (some (bt720.1, bt720.2.1, bt720.2.2.1, bt720.2.2.2)))) = some (r1, r2, r3, r4) := h
 clear h
 replace H := ob H
 obtain ⟨⟨t712, t713, t716, t717⟩, A3, H⟩ := H
 (try dsimp only at H)
 replace A3 := m0 A3
 replace H := ob H
 obtain ⟨⟨t720, t721, t724, t725⟩, A4, H⟩ := H
 (try dsimp only at H)
 replace A4 := m0 A4
 simp only [Option.some.injEq, Prod.mk.injEq] at H
 obtain ⟨rfl, rfl, rfl, rfl⟩ := H
 go_enter Tryd.func115, Tryd.ntmps115
 try go_wp2_with (first | ((with_reducible refine gate_dst (N := 2) rfl ?_); refine be 2 137 #[.int .i64 a0_0, .slice A0_1 l0_1.length c0_1, .int .i64 a0_2, .slice A0_3 l0_3.length c0_3] ?_; intro gb709 hg w5 hbox hb; replace HO1_1 := ve HO1_1 hg hb; replace HO1_3 := ve HO1_3 hg hb; have BK709 := m0 hbox; have GE709 := gw w hg; replace HB := sb HB hb; clear hb hbox hg) | ((with_reducible refine gate_dst (N := 3) rfl ?_); refine be 3 137 #[.int .i64 a1_0, .slice A1_1 l1_1.length c1_1, .int .i64 a1_2, .slice A1_3 l1_3.length c1_3] ?_; intro gb710 hg w6 hbox hb; replace HO1_1 := ve HO1_1 hg hb; replace HO1_3 := ve HO1_3 hg hb; have BK710 := m0 hbox; have GE710 := gw w hg; replace HB := sb HB hb; have NB709_710 := nl BK709 hg; have NB710_709 := ng (nl BK709 hg); replace BK709 := bb BK709 hb; clear hb hbox hg) | ((with_reducible refine gate_dst (N := 4) rfl ?_); refine be 4 137 #[.int .i64 0, .slice none 0 0, .int .i64 0, .slice none 0 0] ?_; intro gb711 hg w7 hbox hb; replace HO1_1 := ve HO1_1 hg hb; replace HO1_3 := ve HO1_3 hg hb; have BK711 := m0 hbox; have GE711 := gw w hg; replace HB := sb HB hb; have NB709_711 := nl BK709 hg; have NB711_709 := ng (nl BK709 hg); replace BK709 := bb BK709 hb; have NB710_711 := nl BK710 hg; have NB711_710 := ng (nl BK710 hg); replace BK710 := bb BK710 hb; clear hb hbox hg))
 replace HO1_1 := m0 (Kd.V_drew HO1_1.out); replace HO1_3 := m0 (Kd.V_drew HO1_3.out); replace BK709 := bd BK709; replace BK710 := bd BK710; replace BK711 := bd BK711; replace HB := sd HB
 refine start_ (n := 5) (S := fun w' => w'.cell? ⟨gb709, 0, none⟩ = some (.int .i64 a0_0) ∧ w'.cell? ⟨gb709, 1, none⟩ = some (.slice A0_1 l0_1.length c0_1) ∧ w'.cell? ⟨gb709, 2, none⟩ = some (.int .i64 a0_2) ∧ w'.cell? ⟨gb709, 3, none⟩ = some (.slice A0_3 l0_3.length c0_3) ∧ w'.cell? ⟨gb710, 0, none⟩ = some (.int .i64 a1_0) ∧ w'.cell? ⟨gb710, 1, none⟩ = some (.slice A1_1 l1_1.length c1_1) ∧ w'.cell? ⟨gb710, 2, none⟩ = some (.int .i64 a1_2) ∧ w'.cell? ⟨gb710, 3, none⟩ = some (.slice A1_3 l1_3.length c1_3)) (ds := []) #[false, false, false, false, false] (by kernel_rfl) rfl rfl cz (fun hH => ?_)
 generalize w7.drew = w8 at HO1_1 HO1_3 BK709 BK710 BK711 HB hH ⊢
 refine takeZ 0 (some 5) #[true, false, false, false, false] (by kernel_rfl) hH ?_
 refine takeZ 1 (some 6) #[true, true, false, false, false] (by kernel_rfl) hH ?_
 refine oneZ 2 (some 7) #[true, true, true, false, false] (by kernel_rfl) fun K hK => ?_
 refine gz Tryd.func138 #[.agg #[.int .i64 a1_0, .slice A1_1 l1_1.length c1_1, .int .i64 a1_2, .slice A1_3 l1_3.length c1_3]] ?_
 with_reducible refine (Bs_RatioNeg.calls a1_0 (fun k_ => (((((P1_1_ k_ ∨ P1_3_ k_) ∨ w.heap.size ≤ k_) ∧ k_ ≠ gb709) ∧ k_ ≠ gb710) ∧ k_ ≠ gb711)) _ _ l1_1 a1_2 (fun k_ => (((((P1_1_ k_ ∨ P1_3_ k_) ∨ w.heap.size ≤ k_) ∧ k_ ≠ gb709) ∧ k_ ≠ gb710) ∧ k_ ≠ gb711)) _ _ l1_3 t712 t713 t716 t717 _ ?side1 ?side2 A3.out).mono ?_
 (case side1 => exact HO1_1.out)
 (case side2 => exact HO1_3.out)
 rintro e w9 ⟨v714, v718, rfl, ho0, ho1, hb⟩
 refine ⟨_, rfl, ?_⟩
 replace HO1_1 := vb HO1_1 hb; replace HO1_3 := vb HO1_3 hb; have HO715 := m0 (Kd.V_lower (Kd.V_mono (ok' := fun k_ => ((P1_1_ k_ ∨ P1_3_ k_) ∨ w.heap.size ≤ k_) ∧ k_ ≠ gb709 ∧ k_ ≠ gb710 ∧ k_ ≠ gb711) ho0 (fun k_ hk_ => ⟨Or.elim hk_ (fun hs_ => Or.elim hs_ (fun hs_ => hs_.1.1.1) (fun hs_ => hs_.1.1.1)) (fun hn_ => (.inr (Nat.le_trans (below_size bz) hn_))), Or.elim hk_ (fun hs_ => Or.elim hs_ (fun hs_ => hs_.1.1.2) (fun hs_ => hs_.1.1.2)) (fun hn_ => (Kd.freshB (g := gb709) (o := .cells #[.int .i64 a0_0, .slice A0_1 l0_1.length c0_1, .int .i64 a0_2, .slice A0_3 l0_3.length c0_3] 137 (0, 0)) (bk BK709.out) k_ hn_)), Or.elim hk_ (fun hs_ => Or.elim hs_ (fun hs_ => hs_.1.2) (fun hs_ => hs_.1.2)) (fun hn_ => (Kd.freshB (g := gb710) (o := .cells #[.int .i64 a1_0, .slice A1_1 l1_1.length c1_1, .int .i64 a1_2, .slice A1_3 l1_3.length c1_3] 137 (0, 0)) (bk BK710.out) k_ hn_)), Or.elim hk_ (fun hs_ => Or.elim hs_ (fun hs_ => hs_.2) (fun hs_ => hs_.2)) (fun hn_ => (Kd.freshB (g := gb711) (o := .cells #[.int .i64 0, .slice none 0 0, .int .i64 0, .slice none 0 0] 137 (0, 0)) (bk BK711.out) k_ hn_))⟩)) (below_size bz)); have HO719 := m0 (Kd.V_lower (Kd.V_mono (ok' := fun k_ => ((P1_1_ k_ ∨ P1_3_ k_) ∨ w.heap.size ≤ k_) ∧ k_ ≠ gb709 ∧ k_ ≠ gb710 ∧ k_ ≠ gb711) ho1 (fun k_ hk_ => ⟨Or.elim hk_ (fun hs_ => Or.elim hs_ (fun hs_ => hs_.1.1.1) (fun hs_ => hs_.1.1.1)) (fun hn_ => (.inr (Nat.le_trans (below_size bz) hn_))), Or.elim hk_ (fun hs_ => Or.elim hs_ (fun hs_ => hs_.1.1.2) (fun hs_ => hs_.1.1.2)) (fun hn_ => (Kd.freshB (g := gb709) (o := .cells #[.int .i64 a0_0, .slice A0_1 l0_1.length c0_1, .int .i64 a0_2, .slice A0_3 l0_3.length c0_3] 137 (0, 0)) (bk BK709.out) k_ hn_)), Or.elim hk_ (fun hs_ => Or.elim hs_ (fun hs_ => hs_.1.2) (fun hs_ => hs_.1.2)) (fun hn_ => (Kd.freshB (g := gb710) (o := .cells #[.int .i64 a1_0, .slice A1_1 l1_1.length c1_1, .int .i64 a1_2, .slice A1_3 l1_3.length c1_3] 137 (0, 0)) (bk BK710.out) k_ hn_)), Or.elim hk_ (fun hs_ => Or.elim hs_ (fun hs_ => hs_.2) (fun hs_ => hs_.2)) (fun hn_ => (Kd.freshB (g := gb711) (o := .cells #[.int .i64 0, .slice none 0 0, .int .i64 0, .slice none 0 0] 137 (0, 0)) (bk BK711.out) k_ hn_))⟩)) (below_size bz)); replace BK709 := bb BK709 hb; replace BK710 := bb BK710 hb; replace BK711 := bb BK711 hb; replace HB := sb HB hb
 (try clear hb)
 (try clear ho0)
 (try clear ho1)
 obtain ⟨Ao10, co10, eo10⟩ := Kd.V_slice HO715.out
 subst eo10
 obtain ⟨Ao11, co11, eo11⟩ := Kd.V_slice HO719.out
 subst eo11
 refine hK.out _ _ cz (fun hH => ?_)
 clear hK K
 refine norm_ (a' := ?_) ?_ ?_
 rotate_left
 ·show Act.put _ (some 7) _ = _
  exact pz
 refine oneZ 3 (some 8) #[true, true, true, true, false] (by kernel_rfl) fun K hK => ?_
 refine gz Tryd.func119 #[.agg #[.int .i64 a0_0, .slice A0_1 l0_1.length c0_1, .int .i64 a0_2, .slice A0_3 l0_3.length c0_3], .agg #[.int .i64 t712, .slice Ao10 t713.length co10, .int .i64 t716, .slice Ao11 t717.length co11]] ?_
 with_reducible refine (Bs_RatioAdd.calls k a0_0 _ _ l0_1 a0_2 _ _ l0_3 t712 _ _ t713 t716 _ _ t717 t720 t721 t724 t725 _ ?side1 ?side2 ?side3 ?side4 ?side5 ?side6 ?side7 ?side8 A4.out).mono ?_
 (case side1 => exact cb HR0_1 HB)
 (case side2 => exact HC0_1.out)
 (case side3 => exact cb HR0_3 HB)
 (case side4 => exact HC0_3.out)
 (case side5 => exact bc (Kd.V_reads' HO715.out).2.2)
 (case side6 => exact (Kd.V_reads' HO715.out).2.1)
 (case side7 => exact bc (Kd.V_reads' HO719.out).2.2)
 (case side8 => exact (Kd.V_reads' HO719.out).2.1)
 rintro e w12 ⟨v722, v726, rfl, ho0, ho1, hb⟩
 refine ⟨_, rfl, ?_⟩
 replace HO1_1 := vb HO1_1 hb; replace HO1_3 := vb HO1_3 hb; replace HO715 := vb HO715 hb; replace HO719 := vb HO719 hb; have HO723 := m0 (Kd.V_lower (Kd.V_mono (ok' := fun k_ => ((P1_1_ k_ ∨ P1_3_ k_) ∨ w.heap.size ≤ k_) ∧ k_ ≠ gb709 ∧ k_ ≠ gb710 ∧ k_ ≠ gb711) ho0 (fun k_ hk_ => ⟨(.inr (Nat.le_trans (below_size bz) hk_)), (Kd.freshB (g := gb709) (o := .cells #[.int .i64 a0_0, .slice A0_1 l0_1.length c0_1, .int .i64 a0_2, .slice A0_3 l0_3.length c0_3] 137 (0, 0)) (bk BK709.out) k_ hk_), (Kd.freshB (g := gb710) (o := .cells #[.int .i64 a1_0, .slice A1_1 l1_1.length c1_1, .int .i64 a1_2, .slice A1_3 l1_3.length c1_3] 137 (0, 0)) (bk BK710.out) k_ hk_), (Kd.freshB (g := gb711) (o := .cells #[.int .i64 0, .slice none 0 0, .int .i64 0, .slice none 0 0] 137 (0, 0)) (bk BK711.out) k_ hk_)⟩)) (below_size bz)); have HO727 := m0 (Kd.V_lower (Kd.V_mono (ok' := fun k_ => ((P1_1_ k_ ∨ P1_3_ k_) ∨ w.heap.size ≤ k_) ∧ k_ ≠ gb709 ∧ k_ ≠ gb710 ∧ k_ ≠ gb711) ho1 (fun k_ hk_ => ⟨(.inr (Nat.le_trans (below_size bz) hk_)), (Kd.freshB (g := gb709) (o := .cells #[.int .i64 a0_0, .slice A0_1 l0_1.length c0_1, .int .i64 a0_2, .slice A0_3 l0_3.length c0_3] 137 (0, 0)) (bk BK709.out) k_ hk_), (Kd.freshB (g := gb710) (o := .cells #[.int .i64 a1_0, .slice A1_1 l1_1.length c1_1, .int .i64 a1_2, .slice A1_3 l1_3.length c1_3] 137 (0, 0)) (bk BK710.out) k_ hk_), (Kd.freshB (g := gb711) (o := .cells #[.int .i64 0, .slice none 0 0, .int .i64 0, .slice none 0 0] 137 (0, 0)) (bk BK711.out) k_ hk_)⟩)) (below_size bz)); replace BK709 := bb BK709 hb; replace BK710 := bb BK710 hb; replace BK711 := bb BK711 hb; replace HB := sb HB hb
 (try clear hb)
 (try clear ho0)
 (try clear ho1)
 obtain ⟨Ao14, co14, eo14⟩ := Kd.V_slice HO723.out
 subst eo14
 obtain ⟨Ao17, co17, eo17⟩ := Kd.V_slice HO727.out
 subst eo17
 refine hK.out _ _ cz (fun hH => ?_)
 clear hK K
 refine norm_ (a' := ?_) ?_ ?_
 rotate_left
 ·show Act.put _ (some 8) _ = _
  exact pz
 refine oneZ 4 (none) #[true, true, true, true, true] (by kernel_rfl) fun K hK => ?_
 have hs13 : w12.cell? ⟨gb711, 0, none⟩ = some (.int .i64 0) := (blk_cell BK711.out 0).trans rfl
 have hfs13 := blk_frozen BK711.out 0
 have hs15 : w12.cell? ⟨gb711, 1, none⟩ = some (.slice none 0 0) := (blk_cell BK711.out 1).trans rfl
 have hfs15 := blk_frozen BK711.out 1
 have hs16 : w12.cell? ⟨gb711, 2, none⟩ = some (.int .i64 0) := (blk_cell BK711.out 2).trans rfl
 have hfs16 := blk_frozen BK711.out 2
 have hs18 : w12.cell? ⟨gb711, 3, none⟩ = some (.slice none 0 0) := (blk_cell BK711.out 3).trans rfl
 have hfs18 := blk_frozen BK711.out 3
 refine skip_ (w1 := ?_) (by rfl) rfl ?_ ?_
 rotate_left
 ·go_simp
  rfl
 refine hK.out _ _ (cf hH) (fun hH => ?_)
 clear hK K
 refine done_ (by kernel_rfl) ?_
 try go_wp2
 refine bodyPost_ret (results_cell_row rfl _ _ gb711 137 #[.int .i64 t720, .slice Ao14 t721.length co14, .int .i64 t724, .slice Ao17 t725.length co17] (0, 0) _ rfl (bq BK711.out) Tryd.underlying137 rfl (by kernel_rfl)) rfl ?_
 exact ⟨_, _, by first | rfl | (simp [errW_none, errW_some] <;> rfl) | (simp [*, errW_none, errW_some] <;> rfl), by (with_reducible repeat (first | apply Kd.V_alloc | apply Kd.V_drewN | apply Kd.V_drew)); exact Kd.V_mono (Kd.V_far (p := ⟨gb711, 3, none⟩) (Kd.V_far (p := ⟨gb711, 2, none⟩) (Kd.V_far (p := ⟨gb711, 1, none⟩) (Kd.V_far (p := ⟨gb711, 0, none⟩) (Kd.V_mono HO723.out (fun k_ hk => (⟨hk, hk.2.2.2⟩ : _ ∧ k_ ≠ gb711))) (fun _ hk => hk.2) (.int .i64 t720)) (fun _ hk => hk.2) (.slice Ao14 t721.length co14)) (fun _ hk => hk.2) (.int .i64 t724)) (fun _ hk => hk.2) (.slice Ao17 t725.length co17)) (fun _ hk => hk.1.1), by (with_reducible repeat (first | apply Kd.V_alloc | apply Kd.V_drewN | apply Kd.V_drew)); exact Kd.V_mono (Kd.V_far (p := ⟨gb711, 3, none⟩) (Kd.V_far (p := ⟨gb711, 2, none⟩) (Kd.V_far (p := ⟨gb711, 1, none⟩) (Kd.V_far (p := ⟨gb711, 0, none⟩) (Kd.V_mono HO727.out (fun k_ hk => (⟨hk, hk.2.2.2⟩ : _ ∧ k_ ≠ gb711))) (fun _ hk => hk.2) (.int .i64 t720)) (fun _ hk => hk.2) (.slice Ao14 t721.length co14)) (fun _ hk => hk.2) (.int .i64 t724)) (fun _ hk => hk.2) (.slice Ao17 t725.length co17)) (fun _ hk => hk.1.1), by repeat (first | (with_reducible first | exact HB.out | apply below_alloc | apply pw_below_drewN | apply below_drew1 | refine below_set ?_ GE709.out | refine below_set ?_ GE710.out | refine below_set ?_ GE711.out) | exact HB.out)⟩
end
end Go.Proofs.YtjnkphmcndaijaaDoor.A
