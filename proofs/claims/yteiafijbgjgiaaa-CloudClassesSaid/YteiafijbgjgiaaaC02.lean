/- Walks of the program's functions (printed, made shorter), each with what it computes. -/
import Derived.Test.YteiafijbgjgiaaaC01
namespace Go.Proofs.Yteiafijbgjgiaaa.A
set_option maxHeartbeats 8000000
set_option maxRecDepth 100000
open Go.RowKit Go.Proofs.YteiafijbgjgiaaaW.PrintWords Go.Proofs.YteiafijbgjgiaaaW.PrintLast Go.Proofs.YteiafijbgjgiaaaW.PrintMore
attribute [local go_sem] max2_int min2_int max_two min_two max_three min_three max_four min_four
set_option linter.unusedVariables false
set_option linter.unusedSimpArgs false
section
mutual
def L_IsSureClass.l0 : Nat → List (S143) → Int → Int → Int → Int → Int → Option (Bool × Int)
  | 0, _, _, _, _, _, _ => none
  | k + 1, x0, x2, x9, x10, x977000, x977001 => if x10 ≤ (wrap64 (x977000 + x2)) then (L_IsSureClass.l1 k x0 x2 x9 x10 (wrap64 (x977001 - x2)) x977000 x977001) else (some (true, 0))
def L_IsSureClass.l1 : Nat → List (S143) → Int → Int → Int → Int → Int → Int → Option (Bool × Int)
  | 0, _, _, _, _, _, _, _ => none
  | k + 1, x0, x2, x9, x10, x11, x977000, x977001 => if x11 ≤ (wrap64 (x977001 + x2)) then ((L_classOf.f k x0 x10 x11).bind fun t985 => (if t985 = x9 then (L_IsSureClass.l1 k x0 x2 x9 x10 (wrap64 (x11 + 1)) x977000 x977001) else (some (false, 0)))) else (L_IsSureClass.l0 k x0 x2 x9 (wrap64 (x10 + 1)) x977000 x977001)
end
def L_IsSureClass.f (k : Nat) (l0 : List (S143)) (a1_0 : Int) (a1_1 : Int) (a2 : Int) : Option (Bool × Int) := (L_openClass.f k l0 a1_0 a1_1).bind fun t977 => ((L_within.f a2 0 10).bind fun t978 => ((L_unless.f t978 2).bind fun t979 => ((L_first.f k (([t977, t979] : List Int))).bind fun t983 => (if t983 = 0 then ((L_classOf.f k l0 a1_0 a1_1).bind fun t984 => (if t984 < 0 then (some (false, 12)) else (L_IsSureClass.l0 k l0 a2 t984 (wrap64 (a1_0 - a2)) a1_0 a1_1))) else (some (false, t983))))))
theorem L_IsSureClass.mono_l : ∀ k, (∀ y0 y1 y2 y3 y4 y5, LeO (L_IsSureClass.l0 k y0 y1 y2 y3 y4 y5) (L_IsSureClass.l0 (k + 1) y0 y1 y2 y3 y4 y5)) ∧ (∀ y0 y1 y2 y3 y4 y5 y6, LeO (L_IsSureClass.l1 k y0 y1 y2 y3 y4 y5 y6) (L_IsSureClass.l1 (k + 1) y0 y1 y2 y3 y4 y5 y6))
  | 0 => ⟨fun _ _ _ _ _ _ r h => by simp [L_IsSureClass.l0] at h, fun _ _ _ _ _ _ _ r h => by simp [L_IsSureClass.l1] at h⟩
  | k + 1 => by
    obtain ⟨ih0, ih1⟩ := L_IsSureClass.mono_l k; refine ⟨?_, ?_⟩
    · intro y0 y1 y2 y3 y4 y5; unfold L_IsSureClass.l0
      repeat' with_reducible first
        | exact ih0 ..
        | exact ih1 ..
        | exact L_classOf.mono ..
        | exact L_first.mono ..
        | exact L_openClass.mono ..
        | exact LeO.refl ..
        | exact LeO.none ..
        | refine LeO.ite ?_ ?_
        | refine LeO.bind ?_ (fun _ => ?_)
    · intro y0 y1 y2 y3 y4 y5 y6; unfold L_IsSureClass.l1
      repeat' with_reducible first
        | exact ih0 ..
        | exact ih1 ..
        | exact L_classOf.mono ..
        | exact L_first.mono ..
        | exact L_openClass.mono ..
        | exact LeO.refl ..
        | exact LeO.none ..
        | refine LeO.ite ?_ ?_
        | refine LeO.bind ?_ (fun _ => ?_)
theorem L_IsSureClass.mono : ∀ a0 a1 a2 a3 k, LeO (L_IsSureClass.f k a0 a1 a2 a3) (L_IsSureClass.f (k + 1) a0 a1 a2 a3) := by
  intro a0 a1 a2 a3 k; obtain ⟨ih0, ih1⟩ := L_IsSureClass.mono_l k; unfold L_IsSureClass.f
  repeat' with_reducible first
    | exact ih0 ..
    | exact ih1 ..
    | exact L_classOf.mono ..
    | exact L_first.mono ..
    | exact L_openClass.mono ..
    | exact LeO.refl ..
    | exact LeO.none ..
    | refine LeO.ite ?_ ?_
    | refine LeO.bind ?_ (fun _ => ?_)
theorem L_IsSureClass.calls (k : Nat) (A0 : Option Addr) (c0 : Nat) (l0 : List (S143)) (a1_0 : Int) (a1_1 : Int) (a2 : Int) (r1 : Bool) (r2 : Int) (w : World) (hr0 : Kd.C k143 w A0 l0.length l0) (hc0 : l0.length ≤ c0) (H : L_IsSureClass.f k l0 a1_0 a1_1 a2 = some (r1, r2)) :
    Calls Try.prog 58 #[.slice A0 l0.length c0, .agg #[.int .i64 a1_0, .int .i64 a1_1], .int .i64 a2] w fun e w' => e = .returned (.tuple #[.bool r1, .int .i64 r2]) ∧ Below w.heap.size w w' := by
  have hu87 := Try.underlying87; have HR0 := m0 hr0; have HC0 := m0 hc0; clear hr0 hc0; have HB := m0 (Below.refl w.heap.size w); unfold L_IsSureClass.f at H; replace H := oa H; obtain ⟨t977, A4, H⟩ := H; (try dsimp only at H); replace H := oa H; obtain ⟨t978, A5, H⟩ := H; (try dsimp only at H); replace H := oa H; obtain ⟨t979, A6, H⟩ := H; (try dsimp only at H); obtain ⟨y980, hy980⟩ : ∃ y_ : List Int, y_ = (([t977, t979] : List Int)) := ⟨_, rfl⟩; replace H : ((L_first.f k y980).bind fun t983 => (if t983 = 0 then ((L_classOf.f k l0 a1_0 a1_1).bind fun t984 => (if t984 < 0 then (some (false, 12)) else (L_IsSureClass.l0 k l0 a2 t984 (wrap64 (a1_0 - a2)) a1_0 a1_1))) else (some (false, t983)))) = some (r1, r2) := by first | (rw [hy980]; with_reducible exact H) | (have H2_ := (Option.bind_some _ _).symm.trans H; rw [hy980]; with_reducible exact H2_) | (have H2_ := (Option.bind_some _ _).symm.trans H; with_reducible exact H2_) | with_reducible exact H | (rw [hy980]; exact H) | exact H
  have Ny980 := m0 hy980; clear hy980; replace H := oa H; obtain ⟨t983, A7, H⟩ := H; (try dsimp only at H)
  by_cases c8 : t983 = 0
  · rw [if_pos c8] at H; have c8b0 := beq_iff_eq.mpr c8; have c8b1 := bne_eq_false_iff_eq.mpr c8; clear c8; replace H := oa H; obtain ⟨t984, A9, H⟩ := H; (try dsimp only at H)
    by_cases c10 : t984 < 0
    · rw [if_pos c10] at H; have c10b0 := decide_eq_true c10; clear c10; simp only [Option.some.injEq, Prod.mk.injEq] at H; obtain ⟨rfl, rfl⟩ := H; go_enter Try.func58, Try.ntmps58
      go_wp2_with (first | ((with_reducible refine ga 4 rfl ?_); refine be 4 87 #[.int .i64 a1_0, .int .i64 a1_1] ?_; intro gb976 hg w11 hbox hb; have BK976 := m0 hbox; have GE976 := gw w hg; replace HB := sb HB hb; clear hb hbox hg; obtain ⟨hcz12_0, hcz12_1, hfz12_0, hfz12_1⟩ := b2 BK976) | ((with_reducible refine gc 101 rfl ?_); refine gl (some 14) Try.func101 #[.slice A0 l0.length c0, .agg #[.int .i64 a1_0, .int .i64 a1_1]] ?_; (with_reducible refine (L_openClass.calls k _ _ l0 a1_0 a1_1 t977 _ ?side1 ?side2 A4.out).mono ?_); (case side1 => exact cb HR0 HB); (case side2 => exact HC0.out); rintro e w13 ⟨rfl, hb⟩; refine ⟨_, rfl, ?_⟩; replace BK976 := bb BK976 hb; replace HB := sb HB hb; (try clear hb)) | ((with_reducible refine gc 70 rfl ?_); refine gl (some 16) Try.func70 #[.int .i64 a2, .int .i64 0, .int .i64 10] ?_; (with_reducible refine (L_within.calls a2 0 10 t978 _ A5.out).mono ?_); rintro e w' ⟨rfl, ⟨nd, rfl⟩⟩; refine ⟨_, rfl, ?_⟩) | ((with_reducible refine gc 69 rfl ?_); refine gl (some 17) Try.func69 #[.bool t978, .int .i64 2] ?_; (with_reducible refine (L_unless.calls t978 2 t979 _ A6.out).mono ?_); rintro e w' ⟨rfl, ⟨nd, rfl⟩⟩; refine ⟨_, rfl, ?_⟩) | ((with_reducible refine ga 18 rfl ?_); refine Kd.R_lit (Kd.int .i64) _ 26 ?hg (N := 18) ?hd (xs := ([t977, t979] : List Int)) (inner := [.int .i64 t977, .int .i64 t979]) (ok := fun _ => True) (okp := fun _ => True) ?hr ?hp (fun _ hk => hk) trivial (Below.refl _ _) (Nat.le_refl _) (by simp) ?_; (case hd => rfl); (case hg => rfl); (case hr => first | (go_simp; done) | (go_simp; rfl)); (case hp => exact (Reps.one (ki t977) (Reps.one (ki t979) (Reps.none _ _)))); intro v981 w14 ho15 hb hg_ hnew_; clear hg_ hnew_; (first | rw [← Ny980.out] at ho15 | (simp only [Int.reduceToNat] at ho15; rw [← Ny980.out] at ho15)); have HO982 := m0 (Kd.R_lower ho15 (below_size bz)); replace BK976 := bb BK976 hb; replace HB := sb HB hb; clear hb ho15; obtain ⟨Ao16, co16, eo16⟩ := Kd.R_slice HO982.out; subst eo16) | ((with_reducible refine gc 68 rfl ?_); refine gl (some 19) Try.func68 #[.slice Ao16 y980.length co16] ?_; (with_reducible refine (L_first.calls k _ _ y980 t983 _ ?side1 ?side2 A7.out).mono ?_); (case side1 => exact bc (Kd.R_reads' HO982.out).2.2); (case side2 => exact (Kd.R_reads' HO982.out).2.1); rintro e w' ⟨rfl, ⟨nd, rfl⟩⟩; refine ⟨_, rfl, ?_⟩; obtain ⟨hcz17_0, hcz17_1, hfz17_0, hfz17_1⟩ := b2 BK976) | ((with_reducible refine gc 102 rfl ?_); refine gl (some 25) Try.func102 #[.slice A0 l0.length c0, .agg #[.int .i64 a1_0, .int .i64 a1_1]] ?_; (with_reducible refine (L_classOf.calls k _ _ l0 a1_0 a1_1 t984 _ ?side1 ?side2 A9.out).mono ?_); (case side1 => repeat (first | exact (Kd.C_below HR0.out bz) | (with_reducible refine Kd.C_alloc ?_ _) | (with_reducible refine Kd.C_drewN ?_ _) | (with_reducible refine Kd.C_drew ?_))); (case side2 => exact HC0.out); rintro e w18 ⟨rfl, hb⟩; refine ⟨_, rfl, ?_⟩; replace HO982 := rb HO982 hb; replace BK976 := bb BK976 hb; replace HB := sb HB hb; (try clear hb)))
      go_ret2
      exact ez
    · rw [if_neg c10] at H; have c10b0 := decide_eq_false c10; clear c10; have H' := m0 H; clear H; go_enter Try.func58, Try.ntmps58
      go_wp2_with (first | ((with_reducible refine ga 4 rfl ?_); refine be 4 87 #[.int .i64 a1_0, .int .i64 a1_1] ?_; intro gb976 hg w19 hbox hb; have BK976 := m0 hbox; have GE976 := gw w hg; replace HB := sb HB hb; clear hb hbox hg; obtain ⟨hcz20_0, hcz20_1, hfz20_0, hfz20_1⟩ := b2 BK976) | ((with_reducible refine gc 101 rfl ?_); refine gl (some 14) Try.func101 #[.slice A0 l0.length c0, .agg #[.int .i64 a1_0, .int .i64 a1_1]] ?_; (with_reducible refine (L_openClass.calls k _ _ l0 a1_0 a1_1 t977 _ ?side1 ?side2 A4.out).mono ?_); (case side1 => exact cb HR0 HB); (case side2 => exact HC0.out); rintro e w21 ⟨rfl, hb⟩; refine ⟨_, rfl, ?_⟩; replace BK976 := bb BK976 hb; replace HB := sb HB hb; (try clear hb)) | ((with_reducible refine gc 70 rfl ?_); refine gl (some 16) Try.func70 #[.int .i64 a2, .int .i64 0, .int .i64 10] ?_; (with_reducible refine (L_within.calls a2 0 10 t978 _ A5.out).mono ?_); rintro e w' ⟨rfl, ⟨nd, rfl⟩⟩; refine ⟨_, rfl, ?_⟩) | ((with_reducible refine gc 69 rfl ?_); refine gl (some 17) Try.func69 #[.bool t978, .int .i64 2] ?_; (with_reducible refine (L_unless.calls t978 2 t979 _ A6.out).mono ?_); rintro e w' ⟨rfl, ⟨nd, rfl⟩⟩; refine ⟨_, rfl, ?_⟩) | ((with_reducible refine ga 18 rfl ?_); refine Kd.R_lit (Kd.int .i64) _ 26 ?hg (N := 18) ?hd (xs := ([t977, t979] : List Int)) (inner := [.int .i64 t977, .int .i64 t979]) (ok := fun _ => True) (okp := fun _ => True) ?hr ?hp (fun _ hk => hk) trivial (Below.refl _ _) (Nat.le_refl _) (by simp) ?_; (case hd => rfl); (case hg => rfl); (case hr => first | (go_simp; done) | (go_simp; rfl)); (case hp => exact (Reps.one (ki t977) (Reps.one (ki t979) (Reps.none _ _)))); intro v981 w22 ho23 hb hg_ hnew_; clear hg_ hnew_; (first | rw [← Ny980.out] at ho23 | (simp only [Int.reduceToNat] at ho23; rw [← Ny980.out] at ho23)); have HO982 := m0 (Kd.R_lower ho23 (below_size bz)); replace BK976 := bb BK976 hb; replace HB := sb HB hb; clear hb ho23; obtain ⟨Ao24, co24, eo24⟩ := Kd.R_slice HO982.out; subst eo24) | ((with_reducible refine gc 68 rfl ?_); refine gl (some 19) Try.func68 #[.slice Ao24 y980.length co24] ?_; (with_reducible refine (L_first.calls k _ _ y980 t983 _ ?side1 ?side2 A7.out).mono ?_); (case side1 => exact bc (Kd.R_reads' HO982.out).2.2); (case side2 => exact (Kd.R_reads' HO982.out).2.1); rintro e w' ⟨rfl, ⟨nd, rfl⟩⟩; refine ⟨_, rfl, ?_⟩; obtain ⟨hcz25_0, hcz25_1, hfz25_0, hfz25_1⟩ := b2 BK976) | ((with_reducible refine gc 102 rfl ?_); refine gl (some 25) Try.func102 #[.slice A0 l0.length c0, .agg #[.int .i64 a1_0, .int .i64 a1_1]] ?_; (with_reducible refine (L_classOf.calls k _ _ l0 a1_0 a1_1 t984 _ ?side1 ?side2 A9.out).mono ?_); (case side1 => repeat (first | exact (Kd.C_below HR0.out bz) | (with_reducible refine Kd.C_alloc ?_ _) | (with_reducible refine Kd.C_drewN ?_ _) | (with_reducible refine Kd.C_drew ?_))); (case side2 => exact HC0.out); rintro e w26 ⟨rfl, hb⟩; refine ⟨_, rfl, ?_⟩; replace HO982 := rb HO982 hb; replace BK976 := bb BK976 hb; replace HB := sb HB hb; (try clear hb); obtain ⟨hcz27_0, hcz27_1, hfz27_0, hfz27_1⟩ := b2 BK976))
      go_loopg [10] k (fun kq v10 w' => ∃ (x10_1 : Int), v10 = .int .i64 x10_1 ∧ Aside0 (L_IsSureClass.l0 kq l0 a2 t984 x10_1 a1_0 a1_1 = some (r1, r2)) ∧ Aside0 (kq ≤ k) ∧ Aside0 (w'.heap[gb976]? = some (.cells #[.int .i64 a1_0, .int .i64 a1_1] 87 (0, 0))) ∧ Aside0 (Below w.heap.size w w'))
      case atStart => exact ⟨(wrap64 (a1_0 - a2)), rz, H', ⟨Nat.le_refl _⟩, ⟨bk BK976.out⟩, ⟨bz⟩⟩
      case round =>
        clear H'
        try clear hcz12_0
        try clear hcz12_1
        try clear hcz17_0
        try clear hcz17_1
        try clear hcz20_0
        try clear hcz20_1
        try clear hcz25_0
        try clear hcz25_1
        try clear hcz27_0
        try clear hcz27_1
        try clear hfz12_0
        try clear hfz12_1
        try clear hfz17_0
        try clear hfz17_1
        try clear hfz20_0
        try clear hfz20_1
        try clear hfz25_0
        try clear hfz25_1
        try clear hfz27_0
        try clear hfz27_1
        obtain ⟨x10_1, rfl, HA, HK1, BK976, HB⟩ := hrel
        cases gk with
        | zero => exact absurd HA.out (by simp [L_IsSureClass.l0])
        | succ k1 =>
          have H := HA.out; clear HA; simp only [L_IsSureClass.l0] at H
          by_cases c28 : x10_1 ≤ (wrap64 (a1_0 + a2))
          · rw [if_pos c28] at H; have c28b0 := decide_eq_true c28; clear c28; have H' := m0 H; clear H; obtain ⟨hcz29_0, hcz29_1, hfz29_0, hfz29_1⟩ := b2 BK976
            go_wp2
            go_loopg [11] k1 (fun kq v11 w' => ∃ (x11_2 : Int), v11 = .int .i64 x11_2 ∧ Aside0 (L_IsSureClass.l1 kq l0 a2 t984 x10_1 x11_2 a1_0 a1_1 = some (r1, r2)) ∧ Aside0 (kq ≤ k1) ∧ Aside0 (w'.heap[gb976]? = some (.cells #[.int .i64 a1_0, .int .i64 a1_1] 87 (0, 0))) ∧ Aside0 (Below w.heap.size w w'))
            case atStart => exact ⟨(wrap64 (a1_1 - a2)), rz, H', ⟨Nat.le_refl _⟩, ⟨bk BK976.out⟩, ⟨bz⟩⟩
            case round =>
              clear H'
              try clear hcz12_0
              try clear hcz12_1
              try clear hcz17_0
              try clear hcz17_1
              try clear hcz20_0
              try clear hcz20_1
              try clear hcz25_0
              try clear hcz25_1
              try clear hcz27_0
              try clear hcz27_1
              try clear hcz29_0
              try clear hcz29_1
              try clear hfz12_0
              try clear hfz12_1
              try clear hfz17_0
              try clear hfz17_1
              try clear hfz20_0
              try clear hfz20_1
              try clear hfz25_0
              try clear hfz25_1
              try clear hfz27_0
              try clear hfz27_1
              try clear hfz29_0
              try clear hfz29_1
              obtain ⟨x11_2, rfl, HA, HK2, BK976, HB⟩ := hrel
              cases gk with
              | zero => exact absurd HA.out (by simp [L_IsSureClass.l1])
              | succ k2 =>
                have H := HA.out; clear HA; simp only [L_IsSureClass.l1] at H
                by_cases c30 : x11_2 ≤ (wrap64 (a1_1 + a2))
                · rw [if_pos c30] at H; have c30b0 := decide_eq_true c30; clear c30; replace H := oa H; obtain ⟨t985, A31, H⟩ := H; (try dsimp only at H)
                  by_cases c32 : t985 = t984
                  · rw [if_pos c32] at H; have c32b0 := beq_iff_eq.mpr c32; have c32b1 := bne_eq_false_iff_eq.mpr c32; clear c32; have H' := m0 H; clear H; obtain ⟨_, _, _, _⟩ := b2 BK976
                    go_wp2_with (first | ((with_reducible refine gc 102 rfl ?_); refine gl (some 56) Try.func102 #[.slice A0 l0.length c0, .agg #[.int .i64 x10_1, .int .i64 x11_2]] ?_; (with_reducible refine (L_classOf.calls k2 _ _ l0 x10_1 x11_2 t985 _ ?side1 ?side2 A31.out).mono ?_); (case side1 => exact cb HR0 HB); (case side2 => exact HC0.out); rintro e w34 ⟨rfl, hb⟩; refine ⟨_, rfl, ?_⟩; replace BK976 := bb BK976 hb; replace HB := sb HB hb; (try clear hb)))
                    go_roundg k2
                    case measure => have := HK1.out; have := HK2.out; omega
                    case rel => exact ⟨(wrap64 (x11_2 + 1)), rz, H', ⟨by have := HK1.out; have := HK2.out; omega⟩, ⟨bk BK976.out⟩, ⟨bz⟩⟩
                  · rw [if_neg c32] at H; have c32b0 := beq_eq_false_iff_ne.mpr c32; have c32b1 := bne_iff_ne.mpr c32; simp only [Option.some.injEq, Prod.mk.injEq] at H; obtain ⟨rfl, rfl⟩ := H; obtain ⟨_, _, _, _⟩ := b2 BK976
                    go_wp2_with (first | ((with_reducible refine gc 102 rfl ?_); refine gl (some 56) Try.func102 #[.slice A0 l0.length c0, .agg #[.int .i64 x10_1, .int .i64 x11_2]] ?_; (with_reducible refine (L_classOf.calls k2 _ _ l0 x10_1 x11_2 t985 _ ?side1 ?side2 A31.out).mono ?_); (case side1 => exact cb HR0 HB); (case side2 => exact HC0.out); rintro e w36 ⟨rfl, hb⟩; refine ⟨_, rfl, ?_⟩; replace BK976 := bb BK976 hb; replace HB := sb HB hb; (try clear hb)))
                    go_ret2
                    exact ez
                · rw [if_neg c30] at H; have c30b0 := decide_eq_false c30; clear c30; have H' := m0 H; clear H; obtain ⟨_, _, _, _⟩ := b2 BK976
                  go_wp2
                  go_roundg k2
                  case measure => have := HK1.out; have := HK2.out; omega
                  case rel => exact ⟨(wrap64 (x10_1 + 1)), rz, H', ⟨by have := HK1.out; have := HK2.out; omega⟩, ⟨bk BK976.out⟩, ⟨bz⟩⟩
          · rw [if_neg c28] at H; have c28b0 := decide_eq_false c28; clear c28; simp only [Option.some.injEq, Prod.mk.injEq] at H; obtain ⟨rfl, rfl⟩ := H; obtain ⟨_, _, _, _⟩ := b2 BK976
            go_wp2
            go_ret2
            exact ez
  · rw [if_neg c8] at H; have c8b0 := beq_eq_false_iff_ne.mpr c8; have c8b1 := bne_iff_ne.mpr c8; simp only [Option.some.injEq, Prod.mk.injEq] at H; obtain ⟨rfl, rfl⟩ := H; go_enter Try.func58, Try.ntmps58
    go_wp2_with (first | ((with_reducible refine ga 4 rfl ?_); refine be 4 87 #[.int .i64 a1_0, .int .i64 a1_1] ?_; intro gb976 hg w39 hbox hb; have BK976 := m0 hbox; have GE976 := gw w hg; replace HB := sb HB hb; clear hb hbox hg; obtain ⟨_, _, _, _⟩ := b2 BK976) | ((with_reducible refine gc 101 rfl ?_); refine gl (some 14) Try.func101 #[.slice A0 l0.length c0, .agg #[.int .i64 a1_0, .int .i64 a1_1]] ?_; (with_reducible refine (L_openClass.calls k _ _ l0 a1_0 a1_1 t977 _ ?side1 ?side2 A4.out).mono ?_); (case side1 => exact cb HR0 HB); (case side2 => exact HC0.out); rintro e w41 ⟨rfl, hb⟩; refine ⟨_, rfl, ?_⟩; replace BK976 := bb BK976 hb; replace HB := sb HB hb; (try clear hb)) | ((with_reducible refine gc 70 rfl ?_); refine gl (some 16) Try.func70 #[.int .i64 a2, .int .i64 0, .int .i64 10] ?_; (with_reducible refine (L_within.calls a2 0 10 t978 _ A5.out).mono ?_); rintro e w' ⟨rfl, ⟨nd, rfl⟩⟩; refine ⟨_, rfl, ?_⟩) | ((with_reducible refine gc 69 rfl ?_); refine gl (some 17) Try.func69 #[.bool t978, .int .i64 2] ?_; (with_reducible refine (L_unless.calls t978 2 t979 _ A6.out).mono ?_); rintro e w' ⟨rfl, ⟨nd, rfl⟩⟩; refine ⟨_, rfl, ?_⟩) | ((with_reducible refine ga 18 rfl ?_); refine Kd.R_lit (Kd.int .i64) _ 26 ?hg (N := 18) ?hd (xs := ([t977, t979] : List Int)) (inner := [.int .i64 t977, .int .i64 t979]) (ok := fun _ => True) (okp := fun _ => True) ?hr ?hp (fun _ hk => hk) trivial (Below.refl _ _) (Nat.le_refl _) (by simp) ?_; (case hd => rfl); (case hg => rfl); (case hr => first | (go_simp; done) | (go_simp; rfl)); (case hp => exact (Reps.one (ki t977) (Reps.one (ki t979) (Reps.none _ _)))); intro v981 w42 ho43 hb hg_ hnew_; clear hg_ hnew_; (first | rw [← Ny980.out] at ho43 | (simp only [Int.reduceToNat] at ho43; rw [← Ny980.out] at ho43)); have HO982 := m0 (Kd.R_lower ho43 (below_size bz)); replace BK976 := bb BK976 hb; replace HB := sb HB hb; clear hb ho43; obtain ⟨Ao44, co44, eo44⟩ := Kd.R_slice HO982.out; subst eo44) | ((with_reducible refine gc 68 rfl ?_); refine gl (some 19) Try.func68 #[.slice Ao44 y980.length co44] ?_; (with_reducible refine (L_first.calls k _ _ y980 t983 _ ?side1 ?side2 A7.out).mono ?_); (case side1 => exact bc (Kd.R_reads' HO982.out).2.2); (case side2 => exact (Kd.R_reads' HO982.out).2.1); rintro e w' ⟨rfl, ⟨nd, rfl⟩⟩; refine ⟨_, rfl, ?_⟩))
    go_ret2
    exact ez
end
section
mutual
def Rf_CheckClasses.l0 : Nat → List (S143) → Int → Option (Int × Int)
  | 0, _, _ => none
  | k + 1, x0, x4 => if x4 < (x0.length : Int) then (if 0 ≤ x4 then ((Bs_Within.f ((rd_T143 x0 x4).f0.f0) 0 10000).bind fun t990 => (if t990 = true then ((Bs_Within.f ((rd_T143 x0 x4).f0.f1) 0 10000).bind fun t991 => (if t991 = true then ((Bs_Within.f ((rd_T143 x0 x4).f1.f0) 0 1000).bind fun t992 => (if t992 = true then ((Bs_Within.f ((rd_T143 x0 x4).f1.f1) 0 1000).bind fun t993 => (Rf_CheckClasses.j1 k x0 x4 (!t993) ((rd_T143 x0 x4).f0.f0) ((rd_T143 x0 x4).f0.f1) ((rd_T143 x0 x4).f1.f0) ((rd_T143 x0 x4).f1.f1))) else (Rf_CheckClasses.j1 k x0 x4 true ((rd_T143 x0 x4).f0.f0) ((rd_T143 x0 x4).f0.f1) ((rd_T143 x0 x4).f1.f0) ((rd_T143 x0 x4).f1.f1)))) else (Rf_CheckClasses.j1 k x0 x4 true ((rd_T143 x0 x4).f0.f0) ((rd_T143 x0 x4).f0.f1) ((rd_T143 x0 x4).f1.f0) ((rd_T143 x0 x4).f1.f1)))) else (Rf_CheckClasses.j1 k x0 x4 true ((rd_T143 x0 x4).f0.f0) ((rd_T143 x0 x4).f0.f1) ((rd_T143 x0 x4).f1.f0) ((rd_T143 x0 x4).f1.f1)))) else (none)) else (some (0, 0))
def Rf_CheckClasses.j1 : Nat → List (S143) → Int → Bool → Int → Int → Int → Int → Option (Int × Int)
  | 0, _, _, _, _, _, _, _ => none
  | k + 1, x0, x4, x50, x989000, x989001, x990000, x990001 => if x50 = true then (some (x4, 2)) else (if x989000 > x989001 then (some (x4, 9)) else (if x990000 > x990001 then (some (x4, 9)) else (Rf_CheckClasses.l0 k x0 (wrap64 (x4 + 1)))))
end
def Rf_CheckClasses.f (k : Nat) (l0 : List (S143)) : Option (Int × Int) := if (l0.length : Int) = 0 then (some (0, 10)) else (if (l0.length : Int) > 10 then (some (0, 8)) else (Rf_CheckClasses.l0 k l0 0))
theorem Rf_CheckClasses.mono_l : ∀ k, (∀ y0 y1, LeO (Rf_CheckClasses.l0 k y0 y1) (Rf_CheckClasses.l0 (k + 1) y0 y1)) ∧ (∀ y0 y1 y2 y3 y4 y5 y6, LeO (Rf_CheckClasses.j1 k y0 y1 y2 y3 y4 y5 y6) (Rf_CheckClasses.j1 (k + 1) y0 y1 y2 y3 y4 y5 y6))
  | 0 => ⟨fun _ _ r h => by simp [Rf_CheckClasses.l0] at h, fun _ _ _ _ _ _ _ r h => by simp [Rf_CheckClasses.j1] at h⟩
  | k + 1 => by
    obtain ⟨ih0, ih1⟩ := Rf_CheckClasses.mono_l k; refine ⟨?_, ?_⟩
    · intro y0 y1; unfold Rf_CheckClasses.l0
      repeat' with_reducible first
        | exact ih0 ..
        | exact ih1 ..
        | exact LeO.refl ..
        | exact LeO.none ..
        | refine LeO.ite ?_ ?_
        | refine LeO.bind ?_ (fun _ => ?_)
    · intro y0 y1 y2 y3 y4 y5 y6; unfold Rf_CheckClasses.j1
      repeat' with_reducible first
        | exact ih0 ..
        | exact ih1 ..
        | exact LeO.refl ..
        | exact LeO.none ..
        | refine LeO.ite ?_ ?_
        | refine LeO.bind ?_ (fun _ => ?_)
theorem Rf_CheckClasses.mono : ∀ a0 k, LeO (Rf_CheckClasses.f k a0) (Rf_CheckClasses.f (k + 1) a0) := by
  intro a0 k; obtain ⟨ih0, ih1⟩ := Rf_CheckClasses.mono_l k; unfold Rf_CheckClasses.f
  repeat' with_reducible first
    | exact ih0 ..
    | exact ih1 ..
    | exact LeO.refl ..
    | exact LeO.none ..
    | refine LeO.ite ?_ ?_
    | refine LeO.bind ?_ (fun _ => ?_)
def Rf_CheckClasses.T8 : Bool × List (List Nat × List Nat) := (true, [([], []), ([], []), ([0, 1], [0, 1]), ([2], [2]), ([3], [3]), ([], []), ([], []), ([5, 6], [5, 6]), ([7], [7]), ([8], [8]), ([], []), ([], []), ([10, 4, 0, 1, 2, 3, 4, 10, 11], [4, 10]), ([11, 9, 12, 0, 1, 2, 3, 4, 5, 6, 7, 8, 9, 10, 11, 12], [9, 11])])
def Rf_CheckClasses.B8 : List Nat := [0, 0, 3, 7, 15, 0, 0, 96, 224, 480, 0, 0, 3103, 8191]
theorem Rf_CheckClasses.tab8 : rtab .any (opsOf Try.f59 8) = Rf_CheckClasses.T8 := by kernel_rfl
theorem Rf_CheckClasses.bits8 : waitsOk Rf_CheckClasses.T8.2 Rf_CheckClasses.B8 = true := by kernel_rfl
theorem Rf_CheckClasses.calls (k : Nat) (A0 : Option Addr) (c0 : Nat) (l0 : List (S143)) (r1 : Int) (r2 : Int) (w : World) (hr0 : Kd.C k143 w A0 l0.length l0) (hc0 : l0.length ≤ c0) (H : Rf_CheckClasses.f k l0 = some (r1, r2)) :
    Calls Try.prog 59 #[.slice A0 l0.length c0] w fun e w' => e = .returned (.tuple #[.int .i64 r1, .int .i64 r2]) ∧ Below w.heap.size w w' := by
  have hu54 := Try.underlying54; have HR0 := m0 hr0; have HC0 := m0 hc0; clear hr0 hc0; have HB := m0 (Below.refl w.heap.size w); unfold Rf_CheckClasses.f at H
  by_cases c2 : (l0.length : Int) = 0
  · rw [if_pos c2] at H; have c2b0 := beq_iff_eq.mpr c2; have c2b1 := bne_eq_false_iff_eq.mpr c2; clear c2; simp only [Option.some.injEq, Prod.mk.injEq] at H; obtain ⟨rfl, rfl⟩ := H; go_enter Try.func59, Try.ntmps59
    go_wp2
    go_ret2
    exact ez
  · rw [if_neg c2] at H; have c2b0 := beq_eq_false_iff_ne.mpr c2; have c2b1 := bne_iff_ne.mpr c2; have c2b2 : ¬ (l0 = []) := fun h_ => c2 (by rw [h_]; rfl)
    by_cases c3 : (l0.length : Int) > 10
    · rw [if_pos c3] at H; have c3b0 := decide_eq_true c3; have c3b1 : decide (10 < l0.length) = true := decide_eq_true (by omega); clear c3; simp only [Option.some.injEq, Prod.mk.injEq] at H; obtain ⟨rfl, rfl⟩ := H; go_enter Try.func59, Try.ntmps59
      go_wp2
      go_ret2
      exact ez
    · rw [if_neg c3] at H; have c3b0 := decide_eq_false c3; have c3b1 : decide (10 < l0.length) = false := decide_eq_false (by omega); clear c3; have H' := m0 H; clear H; go_enter Try.func59, Try.ntmps59
      go_wp2
      go_loopg [4] k (fun kq v4 w' => ∃ (x4_1 : Int), v4 = .int .i64 x4_1 ∧ Aside0 (Rf_CheckClasses.l0 kq l0 x4_1 = some (r1, r2)) ∧ Aside0 (kq ≤ k) ∧ Aside0 (Below w.heap.size w w'))
      case atStart => exact ⟨(0), rz, H', ⟨Nat.le_refl _⟩, ⟨bz⟩⟩
      case round =>
        clear H'; obtain ⟨x4_1, rfl, HA, HK1, HB⟩ := hrel
        cases gk with
        | zero => exact absurd HA.out (by simp [Rf_CheckClasses.l0])
        | succ k1 =>
          have H := HA.out; clear HA; simp only [Rf_CheckClasses.l0] at H
          by_cases c4 : x4_1 < (l0.length : Int)
          · rw [if_pos c4] at H; have c4b0 := decide_eq_true c4; clear c4
            by_cases c5 : 0 ≤ x4_1
            · rw [if_pos c5] at H; have c5b0 := decide_eq_true c5; clear c5; have HC6 := m0 H; clear H
              try go_wp2
              replace HB := sd HB; have p986 : 0 ≤ (x4_1 : Int) := od; have q986 : x4_1 < (l0.length : Int) := od; obtain ⟨ad986, e986, hx986_0, hx986_1, hx986_2, hx986_3⟩ := at_T143 HR0.out x4_1 p986 q986; have hw986_3 := hx986_3; have hw986_2 := hx986_2; have hw986_1 := hx986_1; have hw986_0 := hx986_0
              cases e986
              replace hx986_0 := hc HB hx986_0; replace hx986_1 := hc HB hx986_1; replace hx986_2 := hc HB hx986_2; replace hx986_3 := hc HB hx986_3; replace p986 := eq_true p986; replace q986 := eq_true q986; have p987 : 0 ≤ (x4_1 : Int) := od; have q987 : x4_1 < (l0.length : Int) := od; obtain ⟨ad987, e987, hx987_0, hx987_1, hx987_2, hx987_3⟩ := at_T143 HR0.out x4_1 p987 q987; have hw987_3 := hx987_3; have hw987_2 := hx987_2; have hw987_1 := hx987_1; have hw987_0 := hx987_0; obtain rfl : ad986 = ad987 := (by injection e987); replace hx987_0 := hc HB hx987_0; replace hx987_1 := hc HB hx987_1; replace hx987_2 := hc HB hx987_2; replace hx987_3 := hc HB hx987_3; replace p987 := eq_true p987; replace q987 := eq_true q987; refine start_ (n := 14) (S := fun w' => w'.cell? (ad986.add ((x4_1).toNat * 4)) = some (.int .i64 ((rd_T143 l0 x4_1).f0.f0)) ∧ w'.cell? ⟨(ad986.add ((x4_1).toNat * 4)).block, (ad986.add ((x4_1).toNat * 4)).off + 1, none⟩ = some (.int .i64 ((rd_T143 l0 x4_1).f0.f1)) ∧ w'.cell? ⟨(ad986.add ((x4_1).toNat * 4)).block, (ad986.add ((x4_1).toNat * 4)).off + 2, none⟩ = some (.int .i64 ((rd_T143 l0 x4_1).f1.f0)) ∧ w'.cell? ⟨(ad986.add ((x4_1).toNat * 4)).block, (ad986.add ((x4_1).toNat * 4)).off + 3, none⟩ = some (.int .i64 ((rd_T143 l0 x4_1).f1.f1)) ∧ w'.cell? (ad986.add ((x4_1).toNat * 4)) = some (.int .i64 ((rd_T143 l0 x4_1).f0.f0)) ∧ w'.cell? ⟨(ad986.add ((x4_1).toNat * 4)).block, (ad986.add ((x4_1).toNat * 4)).off + 1, none⟩ = some (.int .i64 ((rd_T143 l0 x4_1).f0.f1)) ∧ w'.cell? ⟨(ad986.add ((x4_1).toNat * 4)).block, (ad986.add ((x4_1).toNat * 4)).off + 2, none⟩ = some (.int .i64 ((rd_T143 l0 x4_1).f1.f0)) ∧ w'.cell? ⟨(ad986.add ((x4_1).toNat * 4)).block, (ad986.add ((x4_1).toNat * 4)).off + 3, none⟩ = some (.int .i64 ((rd_T143 l0 x4_1).f1.f1))) (ds := []) _ (by kernel_rfl) rfl rfl ⟨((HB.out.cell (World.block_lt_of_cell? w _ hw986_0)).trans hw986_0), ((HB.out.cell (World.block_lt_of_cell? w _ hw986_1)).trans hw986_1), ((HB.out.cell (World.block_lt_of_cell? w _ hw986_2)).trans hw986_2), ((HB.out.cell (World.block_lt_of_cell? w _ hw986_3)).trans hw986_3), ((HB.out.cell (World.block_lt_of_cell? w _ hw987_0)).trans hw987_0), ((HB.out.cell (World.block_lt_of_cell? w _ hw987_1)).trans hw987_1), ((HB.out.cell (World.block_lt_of_cell? w _ hw987_2)).trans hw987_2), ((HB.out.cell (World.block_lt_of_cell? w _ hw987_3)).trans hw987_3)⟩ (fun hH => ?_); refine with_tabW Rf_CheckClasses.tab8 Rf_CheckClasses.bits8 (fun HT_ HW_ => ?_); generalize wr.drew = w7 at HB hx986_0 hx986_1 hx986_2 hx986_3 hx987_0 hx987_1 hx987_2 hx987_3 hH ⊢; refine pZ 0 (some 19) (bs 14 1) HT_ ?_; refine pZ 1 (some 20) (bs 14 3) HT_ ?_; refine pZ 2 (some 21) (bs 14 7) HT_ ?_; refine pZ 3 (some 22) (bs 14 15) HT_ ?_; refine pZ 5 (some 24) (bs 14 47) HT_ ?_; refine pZ 6 (some 25) (bs 14 111) HT_ ?_; refine pZ 7 (some 26) (bs 14 239) HT_ ?_; refine pZ 8 (some 27) (bs 14 495) HT_ ?_; refine takeZ 4 (some 23) (bs 14 511) (tw HT_ HW_) hH ?_; refine takeZ 9 (some 28) (bs 14 1023) (tw HT_ HW_) hH ?_; refine join_ (σ := Nat × Nat) 2 (bs 14 4095) (fun s_ => [(5, .pointer (some ⟨s_.1, 0, none⟩)), (6, .pointer (some ⟨s_.2, 0, none⟩))]) (fun s_ w' => (w'.cell? (ad986.add ((x4_1).toNat * 4)) = some (.int .i64 ((rd_T143 l0 x4_1).f0.f0)) ∧ w'.cell? ⟨(ad986.add ((x4_1).toNat * 4)).block, (ad986.add ((x4_1).toNat * 4)).off + 1, none⟩ = some (.int .i64 ((rd_T143 l0 x4_1).f0.f1)) ∧ w'.cell? ⟨(ad986.add ((x4_1).toNat * 4)).block, (ad986.add ((x4_1).toNat * 4)).off + 2, none⟩ = some (.int .i64 ((rd_T143 l0 x4_1).f1.f0)) ∧ w'.cell? ⟨(ad986.add ((x4_1).toNat * 4)).block, (ad986.add ((x4_1).toNat * 4)).off + 3, none⟩ = some (.int .i64 ((rd_T143 l0 x4_1).f1.f1)) ∧ w'.cell? (ad986.add ((x4_1).toNat * 4)) = some (.int .i64 ((rd_T143 l0 x4_1).f0.f0)) ∧ w'.cell? ⟨(ad986.add ((x4_1).toNat * 4)).block, (ad986.add ((x4_1).toNat * 4)).off + 1, none⟩ = some (.int .i64 ((rd_T143 l0 x4_1).f0.f1)) ∧ w'.cell? ⟨(ad986.add ((x4_1).toNat * 4)).block, (ad986.add ((x4_1).toNat * 4)).off + 2, none⟩ = some (.int .i64 ((rd_T143 l0 x4_1).f1.f0)) ∧ w'.cell? ⟨(ad986.add ((x4_1).toNat * 4)).block, (ad986.add ((x4_1).toNat * 4)).off + 3, none⟩ = some (.int .i64 ((rd_T143 l0 x4_1).f1.f1))) ∧ (w'.heap[s_.1]? = some (.cells #[.int .i64 0, .int .i64 0] 54 (0, 0))) ∧ (w'.heap[s_.2]? = some (.cells #[.int .i64 0, .int .i64 0] 54 (0, 0))) ∧ (w.heap.size ≤ s_.1) ∧ (w.heap.size ≤ s_.1) ∧ (s_.2 ≠ s_.1) ∧ (s_.1 ≠ s_.2) ∧ (w.heap.size ≤ s_.2) ∧ (w.heap.size ≤ s_.2) ∧ (Below w.heap.size w w')) ?_ ?_; rotate_left
              · intro hCont; refine two_ (i := 10) (j := 11) (Ni := some 5) (Nj := some 6) (bs 14 2047) (bs 14 3071) rfl rfl rfl rfl (two_of HT_.out (by kernel_rfl)) (by decide) (by decide) (fun K hK => ?_) (fun K hK => ?_)
                · skip
                  refine box_step ?hg (N := 5) ?hd (cs := #[.int .i64 0, .int .i64 0]) (t := 54) ?hr ?_; (case hd => rfl); (case hg => rfl); (case hr => first | (go_simp; done) | (go_simp; rfl))
                  intro gb988 hg w8 hbox hb; have BK988 := m0 hbox; have GW988 := gw w hg; have GE988 := gw w hg; replace HB := sb HB hb; clear hb hbox hg; refine hK.out _ _ ⟨((HB.out.cell (World.block_lt_of_cell? w _ hw986_0)).trans hw986_0), ((HB.out.cell (World.block_lt_of_cell? w _ hw986_1)).trans hw986_1), ((HB.out.cell (World.block_lt_of_cell? w _ hw986_2)).trans hw986_2), ((HB.out.cell (World.block_lt_of_cell? w _ hw986_3)).trans hw986_3), ((HB.out.cell (World.block_lt_of_cell? w _ hw987_0)).trans hw987_0), ((HB.out.cell (World.block_lt_of_cell? w _ hw987_1)).trans hw987_1), ((HB.out.cell (World.block_lt_of_cell? w _ hw987_2)).trans hw987_2), ((HB.out.cell (World.block_lt_of_cell? w _ hw987_3)).trans hw987_3)⟩ (fun hH => ?_); clear hK K; refine nz 5 ?_; refine oneZ 11 (some 6) (bs 14 4095) (o1 HT_) fun K hK => ?_; refine box_step ?hg (N := 6) ?hd (cs := #[.int .i64 0, .int .i64 0]) (t := 54) ?hr ?_; (case hd => rfl); (case hg => rfl); (case hr => first | (go_simp; done) | (go_simp; rfl))
                  intro gb989 hg w9 hbox hb; have BK989 := m0 hbox; have GW989 := gw w hg; have GE989 := gw w hg; replace HB := sb HB hb; have NB988_989 := nl BK988 hg; have NB989_988 := ng (nl BK988 hg); replace BK988 := bb BK988 hb; clear hb hbox hg; refine hK.out _ _ ⟨((HB.out.cell (World.block_lt_of_cell? w _ hw986_0)).trans hw986_0), ((HB.out.cell (World.block_lt_of_cell? w _ hw986_1)).trans hw986_1), ((HB.out.cell (World.block_lt_of_cell? w _ hw986_2)).trans hw986_2), ((HB.out.cell (World.block_lt_of_cell? w _ hw986_3)).trans hw986_3), ((HB.out.cell (World.block_lt_of_cell? w _ hw987_0)).trans hw987_0), ((HB.out.cell (World.block_lt_of_cell? w _ hw987_1)).trans hw987_1), ((HB.out.cell (World.block_lt_of_cell? w _ hw987_2)).trans hw987_2), ((HB.out.cell (World.block_lt_of_cell? w _ hw987_3)).trans hw987_3)⟩ (fun hH => ?_); clear hK K; refine nz 6 ?_; exact norm_ (by simp only [putAll, Act.put, List.setIfInBounds_toArray, List.set_cons_zero, List.set_cons_succ]) (hCont (gb988, gb989) _ ⟨hH, (bk BK988.out), (bk BK989.out), GW988.out, GE988.out, NB989_988.out, NB988_989.out, GW989.out, GE989.out, bz⟩)
                · skip
                  refine box_step ?hg (N := 6) ?hd (cs := #[.int .i64 0, .int .i64 0]) (t := 54) ?hr ?_; (case hd => rfl); (case hg => rfl); (case hr => first | (go_simp; done) | (go_simp; rfl))
                  intro gb989 hg w8 hbox hb; have BK989 := m0 hbox; have GW989 := gw w hg; have GE989 := gw w hg; replace HB := sb HB hb; clear hb hbox hg; refine hK.out _ _ ⟨((HB.out.cell (World.block_lt_of_cell? w _ hw986_0)).trans hw986_0), ((HB.out.cell (World.block_lt_of_cell? w _ hw986_1)).trans hw986_1), ((HB.out.cell (World.block_lt_of_cell? w _ hw986_2)).trans hw986_2), ((HB.out.cell (World.block_lt_of_cell? w _ hw986_3)).trans hw986_3), ((HB.out.cell (World.block_lt_of_cell? w _ hw987_0)).trans hw987_0), ((HB.out.cell (World.block_lt_of_cell? w _ hw987_1)).trans hw987_1), ((HB.out.cell (World.block_lt_of_cell? w _ hw987_2)).trans hw987_2), ((HB.out.cell (World.block_lt_of_cell? w _ hw987_3)).trans hw987_3)⟩ (fun hH => ?_); clear hK K; refine nz 6 ?_; refine oneZ 10 (some 5) (bs 14 4095) (o1 HT_) fun K hK => ?_; refine box_step ?hg (N := 5) ?hd (cs := #[.int .i64 0, .int .i64 0]) (t := 54) ?hr ?_; (case hd => rfl); (case hg => rfl); (case hr => first | (go_simp; done) | (go_simp; rfl))
                  intro gb988 hg w9 hbox hb; have BK988 := m0 hbox; have GW988 := gw w hg; have GE988 := gw w hg; replace HB := sb HB hb; have NB989_988 := nl BK989 hg; have NB988_989 := ng (nl BK989 hg); replace BK989 := bb BK989 hb; clear hb hbox hg; refine hK.out _ _ ⟨((HB.out.cell (World.block_lt_of_cell? w _ hw986_0)).trans hw986_0), ((HB.out.cell (World.block_lt_of_cell? w _ hw986_1)).trans hw986_1), ((HB.out.cell (World.block_lt_of_cell? w _ hw986_2)).trans hw986_2), ((HB.out.cell (World.block_lt_of_cell? w _ hw986_3)).trans hw986_3), ((HB.out.cell (World.block_lt_of_cell? w _ hw987_0)).trans hw987_0), ((HB.out.cell (World.block_lt_of_cell? w _ hw987_1)).trans hw987_1), ((HB.out.cell (World.block_lt_of_cell? w _ hw987_2)).trans hw987_2), ((HB.out.cell (World.block_lt_of_cell? w _ hw987_3)).trans hw987_3)⟩ (fun hH => ?_); clear hK K; refine nz 5 ?_; exact norm_ (by simp only [putAll, Act.put, List.setIfInBounds_toArray, List.set_cons_zero, List.set_cons_succ]) (hCont (gb988, gb989) _ ⟨hH, (bk BK988.out), (bk BK989.out), GW988.out, GE988.out, NB989_988.out, NB988_989.out, GW989.out, GE989.out, bz⟩)
              rintro ⟨gb988, gb989⟩ w10 ⟨hS_, h0_, h1_, h2_, h3_, h4_, h5_, h6_, h7_, h8_⟩; clear HB; have BK988 : Aside0 (w10.heap[gb988]? = some (.cells #[.int .i64 0, .int .i64 0] 54 (0, 0))) := ⟨h0_⟩; have BK989 : Aside0 (w10.heap[gb989]? = some (.cells #[.int .i64 0, .int .i64 0] 54 (0, 0))) := ⟨h1_⟩; have GW988 : Aside0 (w.heap.size ≤ gb988) := ⟨h2_⟩; have GE988 : Aside0 (w.heap.size ≤ gb988) := ⟨h3_⟩; have NB989_988 : Aside0 (gb989 ≠ gb988) := ⟨h4_⟩; have NB988_989 : Aside0 (gb988 ≠ gb989) := ⟨h5_⟩; have GW989 : Aside0 (w.heap.size ≤ gb989) := ⟨h6_⟩; have GE989 : Aside0 (w.heap.size ≤ gb989) := ⟨h7_⟩; have HB : Aside0 (Below w.heap.size w w10) := ⟨h8_⟩; clear h0_ h1_ h2_ h3_ h4_ h5_ h6_ h7_ h8_; have hH : w10.cell? (ad986.add ((x4_1).toNat * 4)) = some (.int .i64 ((rd_T143 l0 x4_1).f0.f0)) ∧ w10.cell? ⟨(ad986.add ((x4_1).toNat * 4)).block, (ad986.add ((x4_1).toNat * 4)).off + 1, none⟩ = some (.int .i64 ((rd_T143 l0 x4_1).f0.f1)) ∧ w10.cell? ⟨(ad986.add ((x4_1).toNat * 4)).block, (ad986.add ((x4_1).toNat * 4)).off + 2, none⟩ = some (.int .i64 ((rd_T143 l0 x4_1).f1.f0)) ∧ w10.cell? ⟨(ad986.add ((x4_1).toNat * 4)).block, (ad986.add ((x4_1).toNat * 4)).off + 3, none⟩ = some (.int .i64 ((rd_T143 l0 x4_1).f1.f1)) ∧ w10.cell? (ad986.add ((x4_1).toNat * 4)) = some (.int .i64 ((rd_T143 l0 x4_1).f0.f0)) ∧ w10.cell? ⟨(ad986.add ((x4_1).toNat * 4)).block, (ad986.add ((x4_1).toNat * 4)).off + 1, none⟩ = some (.int .i64 ((rd_T143 l0 x4_1).f0.f1)) ∧ w10.cell? ⟨(ad986.add ((x4_1).toNat * 4)).block, (ad986.add ((x4_1).toNat * 4)).off + 2, none⟩ = some (.int .i64 ((rd_T143 l0 x4_1).f1.f0)) ∧ w10.cell? ⟨(ad986.add ((x4_1).toNat * 4)).block, (ad986.add ((x4_1).toNat * 4)).off + 3, none⟩ = some (.int .i64 ((rd_T143 l0 x4_1).f1.f1)) := hS_; refine norm_ (a' := ?_) ?_ ?_; rotate_left
              · simp only [putAll, Act.put, List.setIfInBounds_toArray, List.set_cons_zero, List.set_cons_succ]
                rfl
              refine oneZ 12 (none) (bs 14 8191) (o1 HT_) fun K hK => ?_; obtain ⟨hs11, hfs11⟩ := q0 BK988; have hns11_1 := NB989_988.out; have hms11_1 := NB988_989.out; obtain ⟨hs12, hfs12⟩ := q1 BK988; have hns12_1 := NB989_988.out; have hms12_1 := NB988_989.out; refine skip_ (w1 := ?_) (by rfl) rfl ?_ ?_; rotate_left
              · go_simp
                rfl
              refine hK.out _ _ ⟨((cell_far (p := ⟨gb988, _, none⟩) (wz hw986_0 GW988) _).trans (((cell_far (p := ⟨gb988, _, none⟩) (wz hw986_0 GW988) _).trans (hH.1)))), ((cell_far (p := ⟨gb988, _, none⟩) (wz hw986_1 GW988) _).trans (((cell_far (p := ⟨gb988, _, none⟩) (wz hw986_1 GW988) _).trans (hH.2.1)))), ((cell_far (p := ⟨gb988, _, none⟩) (wz hw986_2 GW988) _).trans (((cell_far (p := ⟨gb988, _, none⟩) (wz hw986_2 GW988) _).trans (hH.2.2.1)))), ((cell_far (p := ⟨gb988, _, none⟩) (wz hw986_3 GW988) _).trans (((cell_far (p := ⟨gb988, _, none⟩) (wz hw986_3 GW988) _).trans (hH.2.2.2.1)))), ((cell_far (p := ⟨gb988, _, none⟩) (wz hw987_0 GW988) _).trans (((cell_far (p := ⟨gb988, _, none⟩) (wz hw987_0 GW988) _).trans (hH.2.2.2.2.1)))), ((cell_far (p := ⟨gb988, _, none⟩) (wz hw987_1 GW988) _).trans (((cell_far (p := ⟨gb988, _, none⟩) (wz hw987_1 GW988) _).trans (hH.2.2.2.2.2.1)))), ((cell_far (p := ⟨gb988, _, none⟩) (wz hw987_2 GW988) _).trans (((cell_far (p := ⟨gb988, _, none⟩) (wz hw987_2 GW988) _).trans (hH.2.2.2.2.2.2.1)))), ((cell_far (p := ⟨gb988, _, none⟩) (wz hw987_3 GW988) _).trans (((cell_far (p := ⟨gb988, _, none⟩) (wz hw987_3 GW988) _).trans (hH.2.2.2.2.2.2.2))))⟩ (fun hH => ?_); clear hK K; refine oneZ 13 (none) (bs 14 16383) (o1 HT_) fun K hK => ?_; obtain ⟨hs13, hfs13⟩ := q0 BK989; have hns13_0 := NB988_989.out; have hms13_0 := NB989_988.out; obtain ⟨hs14, hfs14⟩ := q1 BK989; have hns14_0 := NB988_989.out; have hms14_0 := NB989_988.out; refine skip_ (w1 := ?_) (by rfl) rfl ?_ ?_; rotate_left
              · go_simp
                rfl
              refine hK.out _ _ ⟨((cell_far (p := ⟨gb989, _, none⟩) (wz hw986_0 GW989) _).trans (((cell_far (p := ⟨gb989, _, none⟩) (wz hw986_0 GW989) _).trans (hH.1)))), ((cell_far (p := ⟨gb989, _, none⟩) (wz hw986_1 GW989) _).trans (((cell_far (p := ⟨gb989, _, none⟩) (wz hw986_1 GW989) _).trans (hH.2.1)))), ((cell_far (p := ⟨gb989, _, none⟩) (wz hw986_2 GW989) _).trans (((cell_far (p := ⟨gb989, _, none⟩) (wz hw986_2 GW989) _).trans (hH.2.2.1)))), ((cell_far (p := ⟨gb989, _, none⟩) (wz hw986_3 GW989) _).trans (((cell_far (p := ⟨gb989, _, none⟩) (wz hw986_3 GW989) _).trans (hH.2.2.2.1)))), ((cell_far (p := ⟨gb989, _, none⟩) (wz hw987_0 GW989) _).trans (((cell_far (p := ⟨gb989, _, none⟩) (wz hw987_0 GW989) _).trans (hH.2.2.2.2.1)))), ((cell_far (p := ⟨gb989, _, none⟩) (wz hw987_1 GW989) _).trans (((cell_far (p := ⟨gb989, _, none⟩) (wz hw987_1 GW989) _).trans (hH.2.2.2.2.2.1)))), ((cell_far (p := ⟨gb989, _, none⟩) (wz hw987_2 GW989) _).trans (((cell_far (p := ⟨gb989, _, none⟩) (wz hw987_2 GW989) _).trans (hH.2.2.2.2.2.2.1)))), ((cell_far (p := ⟨gb989, _, none⟩) (wz hw987_3 GW989) _).trans (((cell_far (p := ⟨gb989, _, none⟩) (wz hw987_3 GW989) _).trans (hH.2.2.2.2.2.2.2))))⟩ (fun hH => ?_); clear hK K; refine done_ (done_of HT_.out (by kernel_rfl)) ?_
              go_upto_region 9 with (fail)
              go_cut [50] (fun v50 wc => ∃ (kq : Nat) (x50_5 : Bool), v50 = .bool x50_5 ∧ Aside0 (Rf_CheckClasses.j1 kq l0 x4_1 x50_5 ((rd_T143 l0 x4_1).f0.f0) ((rd_T143 l0 x4_1).f0.f1) ((rd_T143 l0 x4_1).f1.f0) ((rd_T143 l0 x4_1).f1.f1) = some (r1, r2)) ∧ Aside0 (kq ≤ k1) ∧ Aside0 (wc.heap[gb988]? = some (.cells #[.int .i64 ((rd_T143 l0 x4_1).f0.f0), .int .i64 ((rd_T143 l0 x4_1).f0.f1)] 54 (0, 0))) ∧ Aside0 (wc.heap[gb989]? = some (.cells #[.int .i64 ((rd_T143 l0 x4_1).f1.f0), .int .i64 ((rd_T143 l0 x4_1).f1.f1)] 54 (0, 0))) ∧ Aside0 (Below w.heap.size w wc))
              case first =>
                have H := HC6.out; clear HC6; replace H := oa H; obtain ⟨t990, A15, H⟩ := H; (try dsimp only at H)
                by_cases c16 : t990 = true
                · subst c16; rw [if_pos rfl] at H; replace H := oa H; obtain ⟨t991, A17, H⟩ := H; (try dsimp only at H)
                  by_cases c18 : t991 = true
                  · subst c18; rw [if_pos rfl] at H; replace H := oa H; obtain ⟨t992, A19, H⟩ := H; (try dsimp only at H)
                    by_cases c20 : t992 = true
                    · subst c20; rw [if_pos rfl] at H; replace H := oa H; obtain ⟨t993, A21, H⟩ := H; (try dsimp only at H); have H' := m0 H; clear H; have hnb22 := NB988_989.out; have hnc22 := NB989_988.out; obtain ⟨hcz23_0, hcz23_1, hfz23_0, hfz23_1⟩ := b2 BK988
                      go_wp2_with (first | ((with_reducible refine gc 19 rfl ?_); refine gl (some 31) Try.func19 #[.int .i64 ((rd_T143 l0 x4_1).f0.f0), .int .i64 0, .int .i64 10000] ?_; (with_reducible refine (Bs_Within.calls ((rd_T143 l0 x4_1).f0.f0) 0 10000 true _ A15.out).mono ?_); rintro e w' ⟨rfl, ⟨nd, rfl⟩⟩; refine ⟨_, rfl, ?_⟩) | (go_at_call 19; (with_reducible refine (Bs_Within.calls ((rd_T143 l0 x4_1).f0.f1) 0 10000 true _ A17.out).mono ?_); rintro e w' ⟨rfl, ⟨nd, rfl⟩⟩; obtain ⟨hcz24_0, hcz24_1, hfz24_0, hfz24_1⟩ := b2 BK989) | (go_at_call 19; (with_reducible refine (Bs_Within.calls ((rd_T143 l0 x4_1).f1.f0) 0 1000 true _ A19.out).mono ?_); rintro e w' ⟨rfl, ⟨nd, rfl⟩⟩) | (go_at_call 19; (with_reducible refine (Bs_Within.calls ((rd_T143 l0 x4_1).f1.f1) 0 1000 t993 _ A21.out).mono ?_); rintro e w' ⟨rfl, ⟨nd, rfl⟩⟩))
                      go_meet
                      case rel => exact ⟨_, (!t993), rz, H', ⟨by have := HK1.out; first | omega | exact Nat.le_refl _⟩, ⟨by (with_reducible repeat (first | refine blk_drewN ?_ _ | refine blk_drew ?_ | refine blk_alloc ?_ _)); refine blk_far ?_ NB988_989.out _; (with_reducible repeat (first | refine blk_drewN ?_ _ | refine blk_drew ?_ | refine blk_alloc ?_ _)); refine blk_far ?_ NB988_989.out _; (with_reducible repeat (first | refine blk_drewN ?_ _ | refine blk_drew ?_ | refine blk_alloc ?_ _)); refine blk_put (cs := #[.int .i64 ((rd_T143 l0 x4_1).f0.f0), .int .i64 0]) ?_ 1 _ rfl; (with_reducible repeat (first | refine blk_drewN ?_ _ | refine blk_drew ?_ | refine blk_alloc ?_ _)); refine blk_put (cs := #[.int .i64 0, .int .i64 0]) ?_ 0 _ rfl; (with_reducible repeat (first | refine blk_drewN ?_ _ | refine blk_drew ?_ | refine blk_alloc ?_ _)); exact BK988.out⟩, ⟨by (with_reducible repeat (first | refine blk_drewN ?_ _ | refine blk_drew ?_ | refine blk_alloc ?_ _)); refine blk_put (cs := #[.int .i64 ((rd_T143 l0 x4_1).f1.f0), .int .i64 0]) ?_ 1 _ rfl; (with_reducible repeat (first | refine blk_drewN ?_ _ | refine blk_drew ?_ | refine blk_alloc ?_ _)); refine blk_put (cs := #[.int .i64 0, .int .i64 0]) ?_ 0 _ rfl; (with_reducible repeat (first | refine blk_drewN ?_ _ | refine blk_drew ?_ | refine blk_alloc ?_ _)); refine blk_far ?_ NB989_988.out _; (with_reducible repeat (first | refine blk_drewN ?_ _ | refine blk_drew ?_ | refine blk_alloc ?_ _)); refine blk_far ?_ NB989_988.out _; (with_reducible repeat (first | refine blk_drewN ?_ _ | refine blk_drew ?_ | refine blk_alloc ?_ _)); exact BK989.out⟩, ⟨bz⟩⟩
                    · replace c20 := Bool.eq_false_iff.mpr c20; subst c20; rw [if_neg (show ¬ (false = true) by decide)] at H; have H' := m0 H; clear H; have hnb25 := NB988_989.out; have hnc25 := NB989_988.out; obtain ⟨hcz26_0, hcz26_1, hfz26_0, hfz26_1⟩ := b2 BK988
                      go_wp2_with (first | ((with_reducible refine gc 19 rfl ?_); refine gl (some 31) Try.func19 #[.int .i64 ((rd_T143 l0 x4_1).f0.f0), .int .i64 0, .int .i64 10000] ?_; (with_reducible refine (Bs_Within.calls ((rd_T143 l0 x4_1).f0.f0) 0 10000 true _ A15.out).mono ?_); rintro e w' ⟨rfl, ⟨nd, rfl⟩⟩; refine ⟨_, rfl, ?_⟩) | (go_at_call 19; (with_reducible refine (Bs_Within.calls ((rd_T143 l0 x4_1).f0.f1) 0 10000 true _ A17.out).mono ?_); rintro e w' ⟨rfl, ⟨nd, rfl⟩⟩; obtain ⟨hcz27_0, hcz27_1, hfz27_0, hfz27_1⟩ := b2 BK989) | (go_at_call 19; (with_reducible refine (Bs_Within.calls ((rd_T143 l0 x4_1).f1.f0) 0 1000 false _ A19.out).mono ?_); rintro e w' ⟨rfl, ⟨nd, rfl⟩⟩))
                      go_meet
                      case rel => exact ⟨_, (true), rz, H', ⟨by have := HK1.out; first | omega | exact Nat.le_refl _⟩, ⟨by (with_reducible repeat (first | refine blk_drewN ?_ _ | refine blk_drew ?_ | refine blk_alloc ?_ _)); refine blk_far ?_ NB988_989.out _; (with_reducible repeat (first | refine blk_drewN ?_ _ | refine blk_drew ?_ | refine blk_alloc ?_ _)); refine blk_far ?_ NB988_989.out _; (with_reducible repeat (first | refine blk_drewN ?_ _ | refine blk_drew ?_ | refine blk_alloc ?_ _)); refine blk_put (cs := #[.int .i64 ((rd_T143 l0 x4_1).f0.f0), .int .i64 0]) ?_ 1 _ rfl; (with_reducible repeat (first | refine blk_drewN ?_ _ | refine blk_drew ?_ | refine blk_alloc ?_ _)); refine blk_put (cs := #[.int .i64 0, .int .i64 0]) ?_ 0 _ rfl; (with_reducible repeat (first | refine blk_drewN ?_ _ | refine blk_drew ?_ | refine blk_alloc ?_ _)); exact BK988.out⟩, ⟨by (with_reducible repeat (first | refine blk_drewN ?_ _ | refine blk_drew ?_ | refine blk_alloc ?_ _)); refine blk_put (cs := #[.int .i64 ((rd_T143 l0 x4_1).f1.f0), .int .i64 0]) ?_ 1 _ rfl; (with_reducible repeat (first | refine blk_drewN ?_ _ | refine blk_drew ?_ | refine blk_alloc ?_ _)); refine blk_put (cs := #[.int .i64 0, .int .i64 0]) ?_ 0 _ rfl; (with_reducible repeat (first | refine blk_drewN ?_ _ | refine blk_drew ?_ | refine blk_alloc ?_ _)); refine blk_far ?_ NB989_988.out _; (with_reducible repeat (first | refine blk_drewN ?_ _ | refine blk_drew ?_ | refine blk_alloc ?_ _)); refine blk_far ?_ NB989_988.out _; (with_reducible repeat (first | refine blk_drewN ?_ _ | refine blk_drew ?_ | refine blk_alloc ?_ _)); exact BK989.out⟩, ⟨bz⟩⟩
                  · replace c18 := Bool.eq_false_iff.mpr c18; subst c18; rw [if_neg (show ¬ (false = true) by decide)] at H; have H' := m0 H; clear H; have hnb28 := NB988_989.out; have hnc28 := NB989_988.out; obtain ⟨hcz29_0, hcz29_1, hfz29_0, hfz29_1⟩ := b2 BK988
                    go_wp2_with (first | ((with_reducible refine gc 19 rfl ?_); refine gl (some 31) Try.func19 #[.int .i64 ((rd_T143 l0 x4_1).f0.f0), .int .i64 0, .int .i64 10000] ?_; (with_reducible refine (Bs_Within.calls ((rd_T143 l0 x4_1).f0.f0) 0 10000 true _ A15.out).mono ?_); rintro e w' ⟨rfl, ⟨nd, rfl⟩⟩; refine ⟨_, rfl, ?_⟩) | (go_at_call 19; (with_reducible refine (Bs_Within.calls ((rd_T143 l0 x4_1).f0.f1) 0 10000 false _ A17.out).mono ?_); rintro e w' ⟨rfl, ⟨nd, rfl⟩⟩))
                    go_meet
                    case rel => exact ⟨_, (true), rz, H', ⟨by have := HK1.out; first | omega | exact Nat.le_refl _⟩, ⟨by (with_reducible repeat (first | refine blk_drewN ?_ _ | refine blk_drew ?_ | refine blk_alloc ?_ _)); refine blk_far ?_ NB988_989.out _; (with_reducible repeat (first | refine blk_drewN ?_ _ | refine blk_drew ?_ | refine blk_alloc ?_ _)); refine blk_far ?_ NB988_989.out _; (with_reducible repeat (first | refine blk_drewN ?_ _ | refine blk_drew ?_ | refine blk_alloc ?_ _)); refine blk_put (cs := #[.int .i64 ((rd_T143 l0 x4_1).f0.f0), .int .i64 0]) ?_ 1 _ rfl; (with_reducible repeat (first | refine blk_drewN ?_ _ | refine blk_drew ?_ | refine blk_alloc ?_ _)); refine blk_put (cs := #[.int .i64 0, .int .i64 0]) ?_ 0 _ rfl; (with_reducible repeat (first | refine blk_drewN ?_ _ | refine blk_drew ?_ | refine blk_alloc ?_ _)); exact BK988.out⟩, ⟨by (with_reducible repeat (first | refine blk_drewN ?_ _ | refine blk_drew ?_ | refine blk_alloc ?_ _)); refine blk_put (cs := #[.int .i64 ((rd_T143 l0 x4_1).f1.f0), .int .i64 0]) ?_ 1 _ rfl; (with_reducible repeat (first | refine blk_drewN ?_ _ | refine blk_drew ?_ | refine blk_alloc ?_ _)); refine blk_put (cs := #[.int .i64 0, .int .i64 0]) ?_ 0 _ rfl; (with_reducible repeat (first | refine blk_drewN ?_ _ | refine blk_drew ?_ | refine blk_alloc ?_ _)); refine blk_far ?_ NB989_988.out _; (with_reducible repeat (first | refine blk_drewN ?_ _ | refine blk_drew ?_ | refine blk_alloc ?_ _)); refine blk_far ?_ NB989_988.out _; (with_reducible repeat (first | refine blk_drewN ?_ _ | refine blk_drew ?_ | refine blk_alloc ?_ _)); exact BK989.out⟩, ⟨bz⟩⟩
                · replace c16 := Bool.eq_false_iff.mpr c16; subst c16; rw [if_neg (show ¬ (false = true) by decide)] at H; have H' := m0 H; clear H; have hnb30 := NB988_989.out; have hnc30 := NB989_988.out; obtain ⟨hcz31_0, hcz31_1, hfz31_0, hfz31_1⟩ := b2 BK988
                  go_wp2_with (first | ((with_reducible refine gc 19 rfl ?_); refine gl (some 31) Try.func19 #[.int .i64 ((rd_T143 l0 x4_1).f0.f0), .int .i64 0, .int .i64 10000] ?_; (with_reducible refine (Bs_Within.calls ((rd_T143 l0 x4_1).f0.f0) 0 10000 false _ A15.out).mono ?_); rintro e w' ⟨rfl, ⟨nd, rfl⟩⟩; refine ⟨_, rfl, ?_⟩))
                  go_meet
                  case rel => exact ⟨_, (true), rz, H', ⟨by have := HK1.out; first | omega | exact Nat.le_refl _⟩, ⟨by (with_reducible repeat (first | refine blk_drewN ?_ _ | refine blk_drew ?_ | refine blk_alloc ?_ _)); refine blk_far ?_ NB988_989.out _; (with_reducible repeat (first | refine blk_drewN ?_ _ | refine blk_drew ?_ | refine blk_alloc ?_ _)); refine blk_far ?_ NB988_989.out _; (with_reducible repeat (first | refine blk_drewN ?_ _ | refine blk_drew ?_ | refine blk_alloc ?_ _)); refine blk_put (cs := #[.int .i64 ((rd_T143 l0 x4_1).f0.f0), .int .i64 0]) ?_ 1 _ rfl; (with_reducible repeat (first | refine blk_drewN ?_ _ | refine blk_drew ?_ | refine blk_alloc ?_ _)); refine blk_put (cs := #[.int .i64 0, .int .i64 0]) ?_ 0 _ rfl; (with_reducible repeat (first | refine blk_drewN ?_ _ | refine blk_drew ?_ | refine blk_alloc ?_ _)); exact BK988.out⟩, ⟨by (with_reducible repeat (first | refine blk_drewN ?_ _ | refine blk_drew ?_ | refine blk_alloc ?_ _)); refine blk_put (cs := #[.int .i64 ((rd_T143 l0 x4_1).f1.f0), .int .i64 0]) ?_ 1 _ rfl; (with_reducible repeat (first | refine blk_drewN ?_ _ | refine blk_drew ?_ | refine blk_alloc ?_ _)); refine blk_put (cs := #[.int .i64 0, .int .i64 0]) ?_ 0 _ rfl; (with_reducible repeat (first | refine blk_drewN ?_ _ | refine blk_drew ?_ | refine blk_alloc ?_ _)); refine blk_far ?_ NB989_988.out _; (with_reducible repeat (first | refine blk_drewN ?_ _ | refine blk_drew ?_ | refine blk_alloc ?_ _)); refine blk_far ?_ NB989_988.out _; (with_reducible repeat (first | refine blk_drewN ?_ _ | refine blk_drew ?_ | refine blk_alloc ?_ _)); exact BK989.out⟩, ⟨bz⟩⟩
              case rest =>
                clear HC6
                try clear hx9
                try clear hcz23_0
                try clear hcz23_1
                try clear hcz24_0
                try clear hcz24_1
                try clear hcz26_0
                try clear hcz26_1
                try clear hcz27_0
                try clear hcz27_1
                try clear hcz29_0
                try clear hcz29_1
                try clear hcz31_0
                try clear hcz31_1
                try clear hfz23_0
                try clear hfz23_1
                try clear hfz24_0
                try clear hfz24_1
                try clear hfz26_0
                try clear hfz26_1
                try clear hfz27_0
                try clear hfz27_1
                try clear hfz29_0
                try clear hfz29_1
                try clear hfz31_0
                try clear hfz31_1
                try clear hx986_0
                try clear hx986_1
                try clear hx986_2
                try clear hx986_3
                try clear hx987_0
                try clear hx987_1
                try clear hx987_2
                try clear hx987_3
                obtain ⟨kq, x50_5, rfl, HA, HJ5, BK988, BK989, HB⟩ := hcut
                cases kq with
                | zero => exact absurd HA.out (by simp [Rf_CheckClasses.j1])
                | succ kj5 =>
                  have H := HA.out; clear HA; simp only [Rf_CheckClasses.j1] at H
                  by_cases c32 : x50_5 = true
                  · subst c32; rw [if_pos rfl] at H; simp only [Option.some.injEq, Prod.mk.injEq] at H; obtain ⟨rfl, rfl⟩ := H
                    go_wp2
                    go_ret2
                    exact ez
                  · replace c32 := Bool.eq_false_iff.mpr c32; subst c32; rw [if_neg (show ¬ (false = true) by decide)] at H
                    by_cases c33 : ((rd_T143 l0 x4_1).f0.f0) > ((rd_T143 l0 x4_1).f0.f1)
                    · rw [if_pos c33] at H; have c33b0 := decide_eq_true c33; clear c33; simp only [Option.some.injEq, Prod.mk.injEq] at H; obtain ⟨rfl, rfl⟩ := H; have hnb34 := NB988_989.out; have hnc34 := NB989_988.out; obtain ⟨_, _, _, _⟩ := b2 BK988
                      go_wp2
                      go_ret2
                      exact ez
                    · rw [if_neg c33] at H; have c33b0 := decide_eq_false c33; clear c33
                      by_cases c36 : ((rd_T143 l0 x4_1).f1.f0) > ((rd_T143 l0 x4_1).f1.f1)
                      · rw [if_pos c36] at H; have c36b0 := decide_eq_true c36; clear c36; simp only [Option.some.injEq, Prod.mk.injEq] at H; obtain ⟨rfl, rfl⟩ := H; have hnb37 := NB988_989.out; have hnc37 := NB989_988.out; obtain ⟨_, _, _, _⟩ := b2 BK988; obtain ⟨_, _, _, _⟩ := b2 BK989
                        go_wp2
                        go_ret2
                        exact ez
                      · rw [if_neg c36] at H; have c36b0 := decide_eq_false c36; clear c36; have H' := m0 H; clear H; have hnb40 := NB988_989.out; have hnc40 := NB989_988.out; obtain ⟨_, _, _, _⟩ := b2 BK988; obtain ⟨_, _, _, _⟩ := b2 BK989
                        go_wp2
                        go_roundg kj5
                        case measure => have := HK1.out; have := HJ5.out; omega
                        case rel => exact ⟨(wrap64 (x4_1 + 1)), rz, H', ⟨by have := HK1.out; have := HJ5.out; omega⟩, ⟨bz⟩⟩
            · rw [if_neg c5] at H; exact absurd H (by simp)
          · rw [if_neg c4] at H; have c4b0 := decide_eq_false c4; clear c4; simp only [Option.some.injEq, Prod.mk.injEq] at H; obtain ⟨rfl, rfl⟩ := H
            go_wp2
            go_ret2
            exact ez
end
section
def Rf_SignalErr.f (a0_0 : Int) (a0_1 : Int) : Option (Int) := (Bs_Within.f a0_0 0 10000).bind fun t995 => (if t995 = true then ((Bs_Within.f a0_1 0 1000).bind fun t996 => (if t996 = true then (some 0) else (some 2))) else (some 2))
theorem Rf_SignalErr.calls (a0_0 : Int) (a0_1 : Int) (r : Int) (w : World) (H : Rf_SignalErr.f a0_0 a0_1 = some r) :
  Calls Try.prog 60 #[.agg #[.int .i64 a0_0, .int .i64 a0_1]] w fun e w' => e = .returned (.int .i64 r) ∧ Below w.heap.size w w' := by
 have hu87 := Try.underlying87; have HB := m0 (Below.refl w.heap.size w); unfold Rf_SignalErr.f at H; replace H := oa H; obtain ⟨t995, A2, H⟩ := H; (try dsimp only at H)
 by_cases c3 : t995 = true
 ·subst c3; rw [if_pos rfl] at H; replace H := oa H; obtain ⟨t996, A4, H⟩ := H; (try dsimp only at H)
  by_cases c5 : t996 = true
  ·subst c5; rw [if_pos rfl] at H; obtain rfl := Option.some.inj H; go_enter Try.func60, Try.ntmps60
   go_wp2_with (first | ((with_reducible refine ga 1 rfl ?_); refine be 1 87 #[.int .i64 a0_0, .int .i64 a0_1] ?_; intro gb994 hg w6 hbox hb; have BK994 := m0 hbox; have GE994 := gw w hg; replace HB := sb HB hb; clear hb hbox hg; obtain ⟨_, _, _, _⟩ := b2 BK994) | ((with_reducible refine gc 19 rfl ?_); refine gl (some 5) Try.func19 #[.int .i64 a0_0, .int .i64 0, .int .i64 10000] ?_; (with_reducible refine (Bs_Within.calls a0_0 0 10000 true _ A2.out).mono ?_); rintro e w' ⟨rfl, ⟨nd, rfl⟩⟩; refine ⟨_, rfl, ?_⟩) | (go_at_call 19; (with_reducible refine (Bs_Within.calls a0_1 0 1000 true _ A4.out).mono ?_); rintro e w' ⟨rfl, ⟨nd, rfl⟩⟩))
   go_ret
   exact ez
  ·replace c5 := Bool.eq_false_iff.mpr c5; subst c5; rw [if_neg (show ¬ (false = true) by decide)] at H; obtain rfl := Option.some.inj H; go_enter Try.func60, Try.ntmps60
   go_wp2_with (first | ((with_reducible refine ga 1 rfl ?_); refine be 1 87 #[.int .i64 a0_0, .int .i64 a0_1] ?_; intro gb994 hg w8 hbox hb; have BK994 := m0 hbox; have GE994 := gw w hg; replace HB := sb HB hb; clear hb hbox hg; obtain ⟨_, _, _, _⟩ := b2 BK994) | ((with_reducible refine gc 19 rfl ?_); refine gl (some 5) Try.func19 #[.int .i64 a0_0, .int .i64 0, .int .i64 10000] ?_; (with_reducible refine (Bs_Within.calls a0_0 0 10000 true _ A2.out).mono ?_); rintro e w' ⟨rfl, ⟨nd, rfl⟩⟩; refine ⟨_, rfl, ?_⟩) | (go_at_call 19; (with_reducible refine (Bs_Within.calls a0_1 0 1000 false _ A4.out).mono ?_); rintro e w' ⟨rfl, ⟨nd, rfl⟩⟩))
   go_ret
   exact ez
 ·replace c3 := Bool.eq_false_iff.mpr c3; subst c3; rw [if_neg (show ¬ (false = true) by decide)] at H; obtain rfl := Option.some.inj H; go_enter Try.func60, Try.ntmps60
  go_wp2_with (first | ((with_reducible refine ga 1 rfl ?_); refine be 1 87 #[.int .i64 a0_0, .int .i64 a0_1] ?_; intro gb994 hg w10 hbox hb; have BK994 := m0 hbox; have GE994 := gw w hg; replace HB := sb HB hb; clear hb hbox hg; obtain ⟨_, _, _, _⟩ := b2 BK994) | ((with_reducible refine gc 19 rfl ?_); refine gl (some 5) Try.func19 #[.int .i64 a0_0, .int .i64 0, .int .i64 10000] ?_; (with_reducible refine (Bs_Within.calls a0_0 0 10000 false _ A2.out).mono ?_); rintro e w' ⟨rfl, ⟨nd, rfl⟩⟩; refine ⟨_, rfl, ?_⟩))
  go_ret
  exact ez
end
section
def Rf_Class.l0 : Nat → List (S143) → Int → Int → Int → Option (Int)
 | 0, _, _, _, _ => none
 | k + 1, x0, x5, x998000, x998001 => if x5 < (x0.length : Int) then (if 0 ≤ x5 then ((Bs_Within.f x998000 ((rd_T143 x0 x5).f0.f0) ((rd_T143 x0 x5).f0.f1)).bind fun t1000 => (if t1000 = true then ((Bs_Within.f x998001 ((rd_T143 x0 x5).f1.f0) ((rd_T143 x0 x5).f1.f1)).bind fun t1003 => (if t1003 = true then (some x5) else (Rf_Class.l0 k x0 (wrap64 (x5 + 1)) x998000 x998001))) else (Rf_Class.l0 k x0 (wrap64 (x5 + 1)) x998000 x998001))) else (none)) else (some (-1))
def Rf_Class.f (k : Nat) (l0 : List (S143)) (a1_0 : Int) (a1_1 : Int) : Option (Int) := Rf_Class.l0 k l0 0 a1_0 a1_1
theorem Rf_Class.mono_l : ∀ k, (∀ y0 y1 y2 y3, LeO (Rf_Class.l0 k y0 y1 y2 y3) (Rf_Class.l0 (k + 1) y0 y1 y2 y3))
 | 0 => fun _ _ _ _ r h => by simp [Rf_Class.l0] at h
 | k + 1 => by
  have ih0 := Rf_Class.mono_l k
  ·intro y0 y1 y2 y3; unfold Rf_Class.l0
   repeat' with_reducible first
    | exact ih0 ..
    | exact LeO.refl ..
    | exact LeO.none ..
    | refine LeO.ite ?_ ?_
    | refine LeO.bind ?_ (fun _ => ?_)
theorem Rf_Class.mono : ∀ a0 a1 a2 k, LeO (Rf_Class.f k a0 a1 a2) (Rf_Class.f (k + 1) a0 a1 a2) := by
 intro a0 a1 a2 k; have ih0 := Rf_Class.mono_l k; unfold Rf_Class.f
 repeat' with_reducible first
  | exact ih0 ..
  | exact LeO.refl ..
  | exact LeO.none ..
  | refine LeO.ite ?_ ?_
  | refine LeO.bind ?_ (fun _ => ?_)
def Rf_Class.T4 : Bool × List (List Nat × List Nat) := (true, [([], []), ([0], [0]), ([], []), ([], []), ([2, 3], [2, 3]), ([4], [4]), ([5], [5]), ([6], [6]), ([], []), ([], []), ([8, 9], [8, 9]), ([10], [10]), ([11], [11]), ([12], [12]), ([1, 7, 13], [1, 7, 13]), ([14, 14], [14]), ([15], [15]), ([16, 15], [15, 16]), ([15], [15]), ([15], [15]), ([18, 19, 15], [15, 18, 19]), ([20, 15], [15, 20]), ([21, 15], [15, 21]), ([22, 15], [15, 22]), ([15], [15]), ([15], [15]), ([24, 25, 15], [15, 24, 25]), ([26, 15], [15, 26]), ([27, 15], [15, 27]), ([28, 15], [15, 28]), ([17, 23, 29, 15, 15], [15, 17, 23, 29]), ([15, 30], [15, 30])])
def Rf_Class.B4 : List Nat := [0, 1, 0, 0, 12, 28, 60, 124, 0, 0, 768, 1792, 3840, 7936, 16383, 32767, 65535, 131071, 65535, 65535, 851967, 1900543, 3997695, 8191999, 65535, 65535, 50397183, 117506047, 251723775, 520159231, 1073741823, 2147483647]
theorem Rf_Class.tab4 : rtab .any (opsOf Try.f61 4) = Rf_Class.T4 := by kernel_rfl
theorem Rf_Class.bits4 : waitsOk Rf_Class.T4.2 Rf_Class.B4 = true := by kernel_rfl
theorem Rf_Class.calls (k : Nat) (A0 : Option Addr) (c0 : Nat) (l0 : List (S143)) (a1_0 : Int) (a1_1 : Int) (r : Int) (w : World) (hr0 : Kd.C k143 w A0 l0.length l0) (hc0 : l0.length ≤ c0) (H : Rf_Class.f k l0 a1_0 a1_1 = some r) :
  Calls Try.prog 61 #[.slice A0 l0.length c0, .agg #[.int .i64 a1_0, .int .i64 a1_1]] w fun e w' => e = .returned (.int .i64 r) ∧ Below w.heap.size w w' := by
 have hu87 := Try.underlying87; have HR0 := m0 hr0; have HC0 := m0 hc0; clear hr0 hc0; have HB := m0 (Below.refl w.heap.size w); unfold Rf_Class.f at H; have H' := m0 H; clear H; go_enter Try.func61, Try.ntmps61
 go_wp2_with (first | ((with_reducible refine ga 3 rfl ?_); refine be 3 87 #[.int .i64 a1_0, .int .i64 a1_1] ?_; intro gb997 hg w3 hbox hb; have BK997 := m0 hbox; have GE997 := gw w hg; replace HB := sb HB hb; clear hb hbox hg))
 go_loopg [5] k (fun kq v5 w' => ∃ (x5_1 : Int), v5 = .int .i64 x5_1 ∧ Aside0 (Rf_Class.l0 kq l0 x5_1 a1_0 a1_1 = some r) ∧ Aside0 (kq ≤ k) ∧ Aside0 (w'.heap[gb997]? = some (.cells #[.int .i64 a1_0, .int .i64 a1_1] 87 (0, 0))) ∧ Aside0 (Below w.heap.size w w'))
 case atStart => exact ⟨(0), rz, H', ⟨Nat.le_refl _⟩, ⟨bk BK997.out⟩, ⟨bz⟩⟩
 case round =>
  clear H'; obtain ⟨x5_1, rfl, HA, HK1, BK997, HB⟩ := hrel
  cases gk with
  | zero => exact absurd HA.out (by simp [Rf_Class.l0])
  | succ k1 =>
   have H := HA.out; clear HA; simp only [Rf_Class.l0] at H
   by_cases c4 : x5_1 < (l0.length : Int)
   ·rw [if_pos c4] at H; have c4b0 := decide_eq_true c4; clear c4
    by_cases c5 : 0 ≤ x5_1
    ·rw [if_pos c5] at H; have c5b0 := decide_eq_true c5; clear c5; replace H := oa H; obtain ⟨t1000, A6, H⟩ := H; (try dsimp only at H)
     by_cases c7 : t1000 = true
     ·subst c7; rw [if_pos rfl] at H; replace H := oa H; obtain ⟨t1003, A8, H⟩ := H; (try dsimp only at H)
      by_cases c9 : t1003 = true
      ·subst c9; rw [if_pos rfl] at H; obtain rfl := Option.some.inj H
       try go_wp2
       replace BK997 := bd BK997; replace HB := sd HB; have p998 : 0 ≤ (x5_1 : Int) := od; have q998 : x5_1 < (l0.length : Int) := od; obtain ⟨ad998, e998, hx998_0, hx998_1, hx998_2, hx998_3⟩ := at_T143 HR0.out x5_1 p998 q998; have hw998_3 := hx998_3; have hw998_2 := hx998_2; have hw998_1 := hx998_1; have hw998_0 := hx998_0
       cases e998
       replace hx998_0 := hc HB hx998_0; replace hx998_1 := hc HB hx998_1; replace hx998_2 := hc HB hx998_2; replace hx998_3 := hc HB hx998_3; replace p998 := eq_true p998; replace q998 := eq_true q998; have p999 : 0 ≤ (x5_1 : Int) := od; have q999 : x5_1 < (l0.length : Int) := od; obtain ⟨ad999, e999, hx999_0, hx999_1, hx999_2, hx999_3⟩ := at_T143 HR0.out x5_1 p999 q999; have hw999_3 := hx999_3; have hw999_2 := hx999_2; have hw999_1 := hx999_1; have hw999_0 := hx999_0; obtain rfl : ad998 = ad999 := (by injection e999); replace hx999_0 := hc HB hx999_0; replace hx999_1 := hc HB hx999_1; replace hx999_2 := hc HB hx999_2; replace hx999_3 := hc HB hx999_3; replace p999 := eq_true p999; replace q999 := eq_true q999; have p1001 : 0 ≤ (x5_1 : Int) := od; have q1001 : x5_1 < (l0.length : Int) := od; obtain ⟨ad1001, e1001, hx1001_0, hx1001_1, hx1001_2, hx1001_3⟩ := at_T143 HR0.out x5_1 p1001 q1001; have hw1001_3 := hx1001_3; have hw1001_2 := hx1001_2; have hw1001_1 := hx1001_1; have hw1001_0 := hx1001_0; obtain rfl : ad998 = ad1001 := (by injection e1001); replace hx1001_0 := hc HB hx1001_0; replace hx1001_1 := hc HB hx1001_1; replace hx1001_2 := hc HB hx1001_2; replace hx1001_3 := hc HB hx1001_3; replace p1001 := eq_true p1001; replace q1001 := eq_true q1001; have p1002 : 0 ≤ (x5_1 : Int) := od; have q1002 : x5_1 < (l0.length : Int) := od; obtain ⟨ad1002, e1002, hx1002_0, hx1002_1, hx1002_2, hx1002_3⟩ := at_T143 HR0.out x5_1 p1002 q1002; have hw1002_3 := hx1002_3; have hw1002_2 := hx1002_2; have hw1002_1 := hx1002_1; have hw1002_0 := hx1002_0; obtain rfl : ad998 = ad1002 := (by injection e1002); replace hx1002_0 := hc HB hx1002_0; replace hx1002_1 := hc HB hx1002_1; replace hx1002_2 := hc HB hx1002_2; replace hx1002_3 := hc HB hx1002_3; replace p1002 := eq_true p1002; replace q1002 := eq_true q1002; refine start_ (n := 32) (S := fun w' => w'.cell? ⟨gb997, 0, none⟩ = some (.int .i64 a1_0) ∧ w'.cell? ⟨gb997, 1, none⟩ = some (.int .i64 a1_1) ∧ w'.cell? (ad998.add ((x5_1).toNat * 4)) = some (.int .i64 ((rd_T143 l0 x5_1).f0.f0)) ∧ w'.cell? ⟨(ad998.add ((x5_1).toNat * 4)).block, (ad998.add ((x5_1).toNat * 4)).off + 1, none⟩ = some (.int .i64 ((rd_T143 l0 x5_1).f0.f1)) ∧ w'.cell? ⟨(ad998.add ((x5_1).toNat * 4)).block, (ad998.add ((x5_1).toNat * 4)).off + 2, none⟩ = some (.int .i64 ((rd_T143 l0 x5_1).f1.f0)) ∧ w'.cell? ⟨(ad998.add ((x5_1).toNat * 4)).block, (ad998.add ((x5_1).toNat * 4)).off + 3, none⟩ = some (.int .i64 ((rd_T143 l0 x5_1).f1.f1)) ∧ w'.cell? (ad998.add ((x5_1).toNat * 4)) = some (.int .i64 ((rd_T143 l0 x5_1).f0.f0)) ∧ w'.cell? ⟨(ad998.add ((x5_1).toNat * 4)).block, (ad998.add ((x5_1).toNat * 4)).off + 1, none⟩ = some (.int .i64 ((rd_T143 l0 x5_1).f0.f1)) ∧ w'.cell? ⟨(ad998.add ((x5_1).toNat * 4)).block, (ad998.add ((x5_1).toNat * 4)).off + 2, none⟩ = some (.int .i64 ((rd_T143 l0 x5_1).f1.f0)) ∧ w'.cell? ⟨(ad998.add ((x5_1).toNat * 4)).block, (ad998.add ((x5_1).toNat * 4)).off + 3, none⟩ = some (.int .i64 ((rd_T143 l0 x5_1).f1.f1)) ∧ w'.cell? (ad998.add ((x5_1).toNat * 4)) = some (.int .i64 ((rd_T143 l0 x5_1).f0.f0)) ∧ w'.cell? ⟨(ad998.add ((x5_1).toNat * 4)).block, (ad998.add ((x5_1).toNat * 4)).off + 1, none⟩ = some (.int .i64 ((rd_T143 l0 x5_1).f0.f1)) ∧ w'.cell? ⟨(ad998.add ((x5_1).toNat * 4)).block, (ad998.add ((x5_1).toNat * 4)).off + 2, none⟩ = some (.int .i64 ((rd_T143 l0 x5_1).f1.f0)) ∧ w'.cell? ⟨(ad998.add ((x5_1).toNat * 4)).block, (ad998.add ((x5_1).toNat * 4)).off + 3, none⟩ = some (.int .i64 ((rd_T143 l0 x5_1).f1.f1)) ∧ w'.cell? (ad998.add ((x5_1).toNat * 4)) = some (.int .i64 ((rd_T143 l0 x5_1).f0.f0)) ∧ w'.cell? ⟨(ad998.add ((x5_1).toNat * 4)).block, (ad998.add ((x5_1).toNat * 4)).off + 1, none⟩ = some (.int .i64 ((rd_T143 l0 x5_1).f0.f1)) ∧ w'.cell? ⟨(ad998.add ((x5_1).toNat * 4)).block, (ad998.add ((x5_1).toNat * 4)).off + 2, none⟩ = some (.int .i64 ((rd_T143 l0 x5_1).f1.f0)) ∧ w'.cell? ⟨(ad998.add ((x5_1).toNat * 4)).block, (ad998.add ((x5_1).toNat * 4)).off + 3, none⟩ = some (.int .i64 ((rd_T143 l0 x5_1).f1.f1))) (ds := []) _ (by kernel_rfl) rfl rfl ⟨(blk_cell BK997.out 0).trans rfl, (blk_cell BK997.out 1).trans rfl, ((HB.out.cell (World.block_lt_of_cell? w _ hw998_0)).trans hw998_0), ((HB.out.cell (World.block_lt_of_cell? w _ hw998_1)).trans hw998_1), ((HB.out.cell (World.block_lt_of_cell? w _ hw998_2)).trans hw998_2), ((HB.out.cell (World.block_lt_of_cell? w _ hw998_3)).trans hw998_3), ((HB.out.cell (World.block_lt_of_cell? w _ hw999_0)).trans hw999_0), ((HB.out.cell (World.block_lt_of_cell? w _ hw999_1)).trans hw999_1), ((HB.out.cell (World.block_lt_of_cell? w _ hw999_2)).trans hw999_2), ((HB.out.cell (World.block_lt_of_cell? w _ hw999_3)).trans hw999_3), ((HB.out.cell (World.block_lt_of_cell? w _ hw1001_0)).trans hw1001_0), ((HB.out.cell (World.block_lt_of_cell? w _ hw1001_1)).trans hw1001_1), ((HB.out.cell (World.block_lt_of_cell? w _ hw1001_2)).trans hw1001_2), ((HB.out.cell (World.block_lt_of_cell? w _ hw1001_3)).trans hw1001_3), ((HB.out.cell (World.block_lt_of_cell? w _ hw1002_0)).trans hw1002_0), ((HB.out.cell (World.block_lt_of_cell? w _ hw1002_1)).trans hw1002_1), ((HB.out.cell (World.block_lt_of_cell? w _ hw1002_2)).trans hw1002_2), ((HB.out.cell (World.block_lt_of_cell? w _ hw1002_3)).trans hw1002_3)⟩ (fun hH => ?_); refine with_tabW Rf_Class.tab4 Rf_Class.bits4 (fun HT_ HW_ => ?_); generalize wr.drew = w10 at BK997 HB hx1001_0 hx1001_1 hx1001_2 hx1001_3 hx1002_0 hx1002_1 hx1002_2 hx1002_3 hx998_0 hx998_1 hx998_2 hx998_3 hx999_0 hx999_1 hx999_2 hx999_3 hH ⊢; refine pZ 0 (some 12) (bs 32 1) HT_ ?_; refine pZ 2 (some 14) (bs 32 5) HT_ ?_; refine pZ 3 (some 15) (bs 32 13) HT_ ?_; refine pZ 4 (some 16) (bs 32 29) HT_ ?_; refine pZ 5 (some 17) (bs 32 61) HT_ ?_; refine pZ 6 (some 18) (bs 32 125) HT_ ?_; refine pZ 8 (some 20) (bs 32 381) HT_ ?_; refine pZ 9 (some 21) (bs 32 893) HT_ ?_; refine pZ 10 (some 22) (bs 32 1917) HT_ ?_; refine pZ 11 (some 23) (bs 32 3965) HT_ ?_; refine pZ 12 (some 24) (bs 32 8061) HT_ ?_; refine takeZ 1 (some 13) (bs 32 8063) (tw HT_ HW_) hH ?_; refine takeZ 7 (some 19) (bs 32 8191) (tw HT_ HW_) hH ?_; refine takeZ 13 (some 25) (bs 32 16383) (tw HT_ HW_) hH ?_; refine oneZ 14 (some 26) (bs 32 32767) (o1 HT_) fun K hK => ?_; refine gz Try.func19 #[.int .i64 a1_0, .int .i64 ((rd_T143 l0 x5_1).f0.f0), .int .i64 ((rd_T143 l0 x5_1).f0.f1)] ?_
       with_reducible refine (Bs_Within.calls a1_0 ((rd_T143 l0 x5_1).f0.f0) ((rd_T143 l0 x5_1).f0.f1) true _ A6.out).mono ?_
       rintro e w' ⟨rfl, ⟨nd, rfl⟩⟩; refine ⟨_, rfl, ?_⟩; refine hK.out _ _ ⟨(blk_cell BK997.out 0).trans rfl, (blk_cell BK997.out 1).trans rfl, ((HB.out.cell (World.block_lt_of_cell? w _ hw998_0)).trans hw998_0), ((HB.out.cell (World.block_lt_of_cell? w _ hw998_1)).trans hw998_1), ((HB.out.cell (World.block_lt_of_cell? w _ hw998_2)).trans hw998_2), ((HB.out.cell (World.block_lt_of_cell? w _ hw998_3)).trans hw998_3), ((HB.out.cell (World.block_lt_of_cell? w _ hw999_0)).trans hw999_0), ((HB.out.cell (World.block_lt_of_cell? w _ hw999_1)).trans hw999_1), ((HB.out.cell (World.block_lt_of_cell? w _ hw999_2)).trans hw999_2), ((HB.out.cell (World.block_lt_of_cell? w _ hw999_3)).trans hw999_3), ((HB.out.cell (World.block_lt_of_cell? w _ hw1001_0)).trans hw1001_0), ((HB.out.cell (World.block_lt_of_cell? w _ hw1001_1)).trans hw1001_1), ((HB.out.cell (World.block_lt_of_cell? w _ hw1001_2)).trans hw1001_2), ((HB.out.cell (World.block_lt_of_cell? w _ hw1001_3)).trans hw1001_3), ((HB.out.cell (World.block_lt_of_cell? w _ hw1002_0)).trans hw1002_0), ((HB.out.cell (World.block_lt_of_cell? w _ hw1002_1)).trans hw1002_1), ((HB.out.cell (World.block_lt_of_cell? w _ hw1002_2)).trans hw1002_2), ((HB.out.cell (World.block_lt_of_cell? w _ hw1002_3)).trans hw1002_3)⟩ (fun hH => ?_); clear hK K; refine nz 26 ?_; refine pZ 15 (some 27) (bs 32 65535) HT_ ?_; refine pZ 16 (some 28) (bs 32 131071) HT_ ?_; refine pZ 18 (some 30) (bs 32 393215) HT_ ?_; refine pZ 19 (some 31) (bs 32 917503) HT_ ?_; refine pZ 20 (some 32) (bs 32 1966079) HT_ ?_; refine pZ 21 (some 33) (bs 32 4063231) HT_ ?_; refine pZ 22 (some 34) (bs 32 8257535) HT_ ?_; refine pZ 24 (some 36) (bs 32 25034751) HT_ ?_; refine pZ 25 (some 37) (bs 32 58589183) HT_ ?_; refine pZ 26 (some 38) (bs 32 125698047) HT_ ?_; refine pZ 27 (some 39) (bs 32 259915775) HT_ ?_; refine pZ 28 (some 40) (bs 32 528351231) HT_ ?_; refine takeZ 17 (some 29) (bs 32 528482303) (tw HT_ HW_) hH ?_; refine takeZ 23 (some 35) (bs 32 536870911) (tw HT_ HW_) hH ?_; refine takeZ 29 (some 41) (bs 32 1073741823) (tw HT_ HW_) hH ?_; refine oneZ 30 (some 42) (bs 32 2147483647) (o1 HT_) fun K hK => ?_; refine gz Try.func19 #[.int .i64 a1_1, .int .i64 ((rd_T143 l0 x5_1).f1.f0), .int .i64 ((rd_T143 l0 x5_1).f1.f1)] ?_
       with_reducible refine (Bs_Within.calls a1_1 ((rd_T143 l0 x5_1).f1.f0) ((rd_T143 l0 x5_1).f1.f1) true _ A8.out).mono ?_
       rintro e w' ⟨rfl, ⟨nd, rfl⟩⟩; refine ⟨_, rfl, ?_⟩; refine hK.out _ _ ⟨(blk_cell BK997.out 0).trans rfl, (blk_cell BK997.out 1).trans rfl, ((HB.out.cell (World.block_lt_of_cell? w _ hw998_0)).trans hw998_0), ((HB.out.cell (World.block_lt_of_cell? w _ hw998_1)).trans hw998_1), ((HB.out.cell (World.block_lt_of_cell? w _ hw998_2)).trans hw998_2), ((HB.out.cell (World.block_lt_of_cell? w _ hw998_3)).trans hw998_3), ((HB.out.cell (World.block_lt_of_cell? w _ hw999_0)).trans hw999_0), ((HB.out.cell (World.block_lt_of_cell? w _ hw999_1)).trans hw999_1), ((HB.out.cell (World.block_lt_of_cell? w _ hw999_2)).trans hw999_2), ((HB.out.cell (World.block_lt_of_cell? w _ hw999_3)).trans hw999_3), ((HB.out.cell (World.block_lt_of_cell? w _ hw1001_0)).trans hw1001_0), ((HB.out.cell (World.block_lt_of_cell? w _ hw1001_1)).trans hw1001_1), ((HB.out.cell (World.block_lt_of_cell? w _ hw1001_2)).trans hw1001_2), ((HB.out.cell (World.block_lt_of_cell? w _ hw1001_3)).trans hw1001_3), ((HB.out.cell (World.block_lt_of_cell? w _ hw1002_0)).trans hw1002_0), ((HB.out.cell (World.block_lt_of_cell? w _ hw1002_1)).trans hw1002_1), ((HB.out.cell (World.block_lt_of_cell? w _ hw1002_2)).trans hw1002_2), ((HB.out.cell (World.block_lt_of_cell? w _ hw1002_3)).trans hw1002_3)⟩ (fun hH => ?_); clear hK K; refine nz 42 ?_; refine pZ 31 (some 43) (bs 32 4294967295) HT_ ?_; refine done_ (done_of HT_.out (by kernel_rfl)) ?_
       try go_wp2
       go_ret
       exact ez
      ·replace c9 := Bool.eq_false_iff.mpr c9; subst c9; rw [if_neg (show ¬ (false = true) by decide)] at H; have H' := m0 H; clear H
       try go_wp2
       replace BK997 := bd BK997; replace HB := sd HB; have p998 : 0 ≤ (x5_1 : Int) := od; have q998 : x5_1 < (l0.length : Int) := od; obtain ⟨ad998, e998, hx998_0, hx998_1, hx998_2, hx998_3⟩ := at_T143 HR0.out x5_1 p998 q998; have hw998_3 := hx998_3; have hw998_2 := hx998_2; have hw998_1 := hx998_1; have hw998_0 := hx998_0
       cases e998
       replace hx998_0 := hc HB hx998_0; replace hx998_1 := hc HB hx998_1; replace hx998_2 := hc HB hx998_2; replace hx998_3 := hc HB hx998_3; replace p998 := eq_true p998; replace q998 := eq_true q998; have p999 : 0 ≤ (x5_1 : Int) := od; have q999 : x5_1 < (l0.length : Int) := od; obtain ⟨ad999, e999, hx999_0, hx999_1, hx999_2, hx999_3⟩ := at_T143 HR0.out x5_1 p999 q999; have hw999_3 := hx999_3; have hw999_2 := hx999_2; have hw999_1 := hx999_1; have hw999_0 := hx999_0; obtain rfl : ad998 = ad999 := (by injection e999); replace hx999_0 := hc HB hx999_0; replace hx999_1 := hc HB hx999_1; replace hx999_2 := hc HB hx999_2; replace hx999_3 := hc HB hx999_3; replace p999 := eq_true p999; replace q999 := eq_true q999; have p1001 : 0 ≤ (x5_1 : Int) := od; have q1001 : x5_1 < (l0.length : Int) := od; obtain ⟨ad1001, e1001, hx1001_0, hx1001_1, hx1001_2, hx1001_3⟩ := at_T143 HR0.out x5_1 p1001 q1001; have hw1001_3 := hx1001_3; have hw1001_2 := hx1001_2; have hw1001_1 := hx1001_1; have hw1001_0 := hx1001_0; obtain rfl : ad998 = ad1001 := (by injection e1001); replace hx1001_0 := hc HB hx1001_0; replace hx1001_1 := hc HB hx1001_1; replace hx1001_2 := hc HB hx1001_2; replace hx1001_3 := hc HB hx1001_3; replace p1001 := eq_true p1001; replace q1001 := eq_true q1001; have p1002 : 0 ≤ (x5_1 : Int) := od; have q1002 : x5_1 < (l0.length : Int) := od; obtain ⟨ad1002, e1002, hx1002_0, hx1002_1, hx1002_2, hx1002_3⟩ := at_T143 HR0.out x5_1 p1002 q1002; have hw1002_3 := hx1002_3; have hw1002_2 := hx1002_2; have hw1002_1 := hx1002_1; have hw1002_0 := hx1002_0; obtain rfl : ad998 = ad1002 := (by injection e1002); replace hx1002_0 := hc HB hx1002_0; replace hx1002_1 := hc HB hx1002_1; replace hx1002_2 := hc HB hx1002_2; replace hx1002_3 := hc HB hx1002_3; replace p1002 := eq_true p1002; replace q1002 := eq_true q1002; refine start_ (n := 32) (S := fun w' => w'.cell? ⟨gb997, 0, none⟩ = some (.int .i64 a1_0) ∧ w'.cell? ⟨gb997, 1, none⟩ = some (.int .i64 a1_1) ∧ w'.cell? (ad998.add ((x5_1).toNat * 4)) = some (.int .i64 ((rd_T143 l0 x5_1).f0.f0)) ∧ w'.cell? ⟨(ad998.add ((x5_1).toNat * 4)).block, (ad998.add ((x5_1).toNat * 4)).off + 1, none⟩ = some (.int .i64 ((rd_T143 l0 x5_1).f0.f1)) ∧ w'.cell? ⟨(ad998.add ((x5_1).toNat * 4)).block, (ad998.add ((x5_1).toNat * 4)).off + 2, none⟩ = some (.int .i64 ((rd_T143 l0 x5_1).f1.f0)) ∧ w'.cell? ⟨(ad998.add ((x5_1).toNat * 4)).block, (ad998.add ((x5_1).toNat * 4)).off + 3, none⟩ = some (.int .i64 ((rd_T143 l0 x5_1).f1.f1)) ∧ w'.cell? (ad998.add ((x5_1).toNat * 4)) = some (.int .i64 ((rd_T143 l0 x5_1).f0.f0)) ∧ w'.cell? ⟨(ad998.add ((x5_1).toNat * 4)).block, (ad998.add ((x5_1).toNat * 4)).off + 1, none⟩ = some (.int .i64 ((rd_T143 l0 x5_1).f0.f1)) ∧ w'.cell? ⟨(ad998.add ((x5_1).toNat * 4)).block, (ad998.add ((x5_1).toNat * 4)).off + 2, none⟩ = some (.int .i64 ((rd_T143 l0 x5_1).f1.f0)) ∧ w'.cell? ⟨(ad998.add ((x5_1).toNat * 4)).block, (ad998.add ((x5_1).toNat * 4)).off + 3, none⟩ = some (.int .i64 ((rd_T143 l0 x5_1).f1.f1)) ∧ w'.cell? (ad998.add ((x5_1).toNat * 4)) = some (.int .i64 ((rd_T143 l0 x5_1).f0.f0)) ∧ w'.cell? ⟨(ad998.add ((x5_1).toNat * 4)).block, (ad998.add ((x5_1).toNat * 4)).off + 1, none⟩ = some (.int .i64 ((rd_T143 l0 x5_1).f0.f1)) ∧ w'.cell? ⟨(ad998.add ((x5_1).toNat * 4)).block, (ad998.add ((x5_1).toNat * 4)).off + 2, none⟩ = some (.int .i64 ((rd_T143 l0 x5_1).f1.f0)) ∧ w'.cell? ⟨(ad998.add ((x5_1).toNat * 4)).block, (ad998.add ((x5_1).toNat * 4)).off + 3, none⟩ = some (.int .i64 ((rd_T143 l0 x5_1).f1.f1)) ∧ w'.cell? (ad998.add ((x5_1).toNat * 4)) = some (.int .i64 ((rd_T143 l0 x5_1).f0.f0)) ∧ w'.cell? ⟨(ad998.add ((x5_1).toNat * 4)).block, (ad998.add ((x5_1).toNat * 4)).off + 1, none⟩ = some (.int .i64 ((rd_T143 l0 x5_1).f0.f1)) ∧ w'.cell? ⟨(ad998.add ((x5_1).toNat * 4)).block, (ad998.add ((x5_1).toNat * 4)).off + 2, none⟩ = some (.int .i64 ((rd_T143 l0 x5_1).f1.f0)) ∧ w'.cell? ⟨(ad998.add ((x5_1).toNat * 4)).block, (ad998.add ((x5_1).toNat * 4)).off + 3, none⟩ = some (.int .i64 ((rd_T143 l0 x5_1).f1.f1))) (ds := []) _ (by kernel_rfl) rfl rfl ⟨(blk_cell BK997.out 0).trans rfl, (blk_cell BK997.out 1).trans rfl, ((HB.out.cell (World.block_lt_of_cell? w _ hw998_0)).trans hw998_0), ((HB.out.cell (World.block_lt_of_cell? w _ hw998_1)).trans hw998_1), ((HB.out.cell (World.block_lt_of_cell? w _ hw998_2)).trans hw998_2), ((HB.out.cell (World.block_lt_of_cell? w _ hw998_3)).trans hw998_3), ((HB.out.cell (World.block_lt_of_cell? w _ hw999_0)).trans hw999_0), ((HB.out.cell (World.block_lt_of_cell? w _ hw999_1)).trans hw999_1), ((HB.out.cell (World.block_lt_of_cell? w _ hw999_2)).trans hw999_2), ((HB.out.cell (World.block_lt_of_cell? w _ hw999_3)).trans hw999_3), ((HB.out.cell (World.block_lt_of_cell? w _ hw1001_0)).trans hw1001_0), ((HB.out.cell (World.block_lt_of_cell? w _ hw1001_1)).trans hw1001_1), ((HB.out.cell (World.block_lt_of_cell? w _ hw1001_2)).trans hw1001_2), ((HB.out.cell (World.block_lt_of_cell? w _ hw1001_3)).trans hw1001_3), ((HB.out.cell (World.block_lt_of_cell? w _ hw1002_0)).trans hw1002_0), ((HB.out.cell (World.block_lt_of_cell? w _ hw1002_1)).trans hw1002_1), ((HB.out.cell (World.block_lt_of_cell? w _ hw1002_2)).trans hw1002_2), ((HB.out.cell (World.block_lt_of_cell? w _ hw1002_3)).trans hw1002_3)⟩ (fun hH => ?_); refine with_tabW Rf_Class.tab4 Rf_Class.bits4 (fun HT_ HW_ => ?_); generalize wr.drew = w11 at BK997 HB hx1001_0 hx1001_1 hx1001_2 hx1001_3 hx1002_0 hx1002_1 hx1002_2 hx1002_3 hx998_0 hx998_1 hx998_2 hx998_3 hx999_0 hx999_1 hx999_2 hx999_3 hH ⊢; refine pZ 0 (some 12) (bs 32 1) HT_ ?_; refine pZ 2 (some 14) (bs 32 5) HT_ ?_; refine pZ 3 (some 15) (bs 32 13) HT_ ?_; refine pZ 4 (some 16) (bs 32 29) HT_ ?_; refine pZ 5 (some 17) (bs 32 61) HT_ ?_; refine pZ 6 (some 18) (bs 32 125) HT_ ?_; refine pZ 8 (some 20) (bs 32 381) HT_ ?_; refine pZ 9 (some 21) (bs 32 893) HT_ ?_; refine pZ 10 (some 22) (bs 32 1917) HT_ ?_; refine pZ 11 (some 23) (bs 32 3965) HT_ ?_; refine pZ 12 (some 24) (bs 32 8061) HT_ ?_; refine takeZ 1 (some 13) (bs 32 8063) (tw HT_ HW_) hH ?_; refine takeZ 7 (some 19) (bs 32 8191) (tw HT_ HW_) hH ?_; refine takeZ 13 (some 25) (bs 32 16383) (tw HT_ HW_) hH ?_; refine oneZ 14 (some 26) (bs 32 32767) (o1 HT_) fun K hK => ?_; refine gz Try.func19 #[.int .i64 a1_0, .int .i64 ((rd_T143 l0 x5_1).f0.f0), .int .i64 ((rd_T143 l0 x5_1).f0.f1)] ?_
       with_reducible refine (Bs_Within.calls a1_0 ((rd_T143 l0 x5_1).f0.f0) ((rd_T143 l0 x5_1).f0.f1) true _ A6.out).mono ?_
       rintro e w' ⟨rfl, ⟨nd, rfl⟩⟩; refine ⟨_, rfl, ?_⟩; refine hK.out _ _ ⟨(blk_cell BK997.out 0).trans rfl, (blk_cell BK997.out 1).trans rfl, ((HB.out.cell (World.block_lt_of_cell? w _ hw998_0)).trans hw998_0), ((HB.out.cell (World.block_lt_of_cell? w _ hw998_1)).trans hw998_1), ((HB.out.cell (World.block_lt_of_cell? w _ hw998_2)).trans hw998_2), ((HB.out.cell (World.block_lt_of_cell? w _ hw998_3)).trans hw998_3), ((HB.out.cell (World.block_lt_of_cell? w _ hw999_0)).trans hw999_0), ((HB.out.cell (World.block_lt_of_cell? w _ hw999_1)).trans hw999_1), ((HB.out.cell (World.block_lt_of_cell? w _ hw999_2)).trans hw999_2), ((HB.out.cell (World.block_lt_of_cell? w _ hw999_3)).trans hw999_3), ((HB.out.cell (World.block_lt_of_cell? w _ hw1001_0)).trans hw1001_0), ((HB.out.cell (World.block_lt_of_cell? w _ hw1001_1)).trans hw1001_1), ((HB.out.cell (World.block_lt_of_cell? w _ hw1001_2)).trans hw1001_2), ((HB.out.cell (World.block_lt_of_cell? w _ hw1001_3)).trans hw1001_3), ((HB.out.cell (World.block_lt_of_cell? w _ hw1002_0)).trans hw1002_0), ((HB.out.cell (World.block_lt_of_cell? w _ hw1002_1)).trans hw1002_1), ((HB.out.cell (World.block_lt_of_cell? w _ hw1002_2)).trans hw1002_2), ((HB.out.cell (World.block_lt_of_cell? w _ hw1002_3)).trans hw1002_3)⟩ (fun hH => ?_); clear hK K; refine nz 26 ?_; refine pZ 15 (some 27) (bs 32 65535) HT_ ?_; refine pZ 16 (some 28) (bs 32 131071) HT_ ?_; refine pZ 18 (some 30) (bs 32 393215) HT_ ?_; refine pZ 19 (some 31) (bs 32 917503) HT_ ?_; refine pZ 20 (some 32) (bs 32 1966079) HT_ ?_; refine pZ 21 (some 33) (bs 32 4063231) HT_ ?_; refine pZ 22 (some 34) (bs 32 8257535) HT_ ?_; refine pZ 24 (some 36) (bs 32 25034751) HT_ ?_; refine pZ 25 (some 37) (bs 32 58589183) HT_ ?_; refine pZ 26 (some 38) (bs 32 125698047) HT_ ?_; refine pZ 27 (some 39) (bs 32 259915775) HT_ ?_; refine pZ 28 (some 40) (bs 32 528351231) HT_ ?_; refine takeZ 17 (some 29) (bs 32 528482303) (tw HT_ HW_) hH ?_; refine takeZ 23 (some 35) (bs 32 536870911) (tw HT_ HW_) hH ?_; refine takeZ 29 (some 41) (bs 32 1073741823) (tw HT_ HW_) hH ?_; refine oneZ 30 (some 42) (bs 32 2147483647) (o1 HT_) fun K hK => ?_; refine gz Try.func19 #[.int .i64 a1_1, .int .i64 ((rd_T143 l0 x5_1).f1.f0), .int .i64 ((rd_T143 l0 x5_1).f1.f1)] ?_
       with_reducible refine (Bs_Within.calls a1_1 ((rd_T143 l0 x5_1).f1.f0) ((rd_T143 l0 x5_1).f1.f1) false _ A8.out).mono ?_
       rintro e w' ⟨rfl, ⟨nd, rfl⟩⟩; refine ⟨_, rfl, ?_⟩; refine hK.out _ _ ⟨(blk_cell BK997.out 0).trans rfl, (blk_cell BK997.out 1).trans rfl, ((HB.out.cell (World.block_lt_of_cell? w _ hw998_0)).trans hw998_0), ((HB.out.cell (World.block_lt_of_cell? w _ hw998_1)).trans hw998_1), ((HB.out.cell (World.block_lt_of_cell? w _ hw998_2)).trans hw998_2), ((HB.out.cell (World.block_lt_of_cell? w _ hw998_3)).trans hw998_3), ((HB.out.cell (World.block_lt_of_cell? w _ hw999_0)).trans hw999_0), ((HB.out.cell (World.block_lt_of_cell? w _ hw999_1)).trans hw999_1), ((HB.out.cell (World.block_lt_of_cell? w _ hw999_2)).trans hw999_2), ((HB.out.cell (World.block_lt_of_cell? w _ hw999_3)).trans hw999_3), ((HB.out.cell (World.block_lt_of_cell? w _ hw1001_0)).trans hw1001_0), ((HB.out.cell (World.block_lt_of_cell? w _ hw1001_1)).trans hw1001_1), ((HB.out.cell (World.block_lt_of_cell? w _ hw1001_2)).trans hw1001_2), ((HB.out.cell (World.block_lt_of_cell? w _ hw1001_3)).trans hw1001_3), ((HB.out.cell (World.block_lt_of_cell? w _ hw1002_0)).trans hw1002_0), ((HB.out.cell (World.block_lt_of_cell? w _ hw1002_1)).trans hw1002_1), ((HB.out.cell (World.block_lt_of_cell? w _ hw1002_2)).trans hw1002_2), ((HB.out.cell (World.block_lt_of_cell? w _ hw1002_3)).trans hw1002_3)⟩ (fun hH => ?_); clear hK K; refine nz 42 ?_; refine pZ 31 (some 43) (bs 32 4294967295) HT_ ?_; refine done_ (done_of HT_.out (by kernel_rfl)) ?_
       try go_wp2
       go_roundg k1
       case measure => have := HK1.out; omega
       case rel => exact ⟨(wrap64 (x5_1 + 1)), rz, H', ⟨by have := HK1.out; omega⟩, ⟨bk BK997.out⟩, ⟨bz⟩⟩
     ·replace c7 := Bool.eq_false_iff.mpr c7; subst c7; rw [if_neg (show ¬ (false = true) by decide)] at H; have H' := m0 H; clear H
      try go_wp2
      replace BK997 := bd BK997; replace HB := sd HB; have p998 : 0 ≤ (x5_1 : Int) := od; have q998 : x5_1 < (l0.length : Int) := od; obtain ⟨ad998, e998, hx998_0, hx998_1, hx998_2, hx998_3⟩ := at_T143 HR0.out x5_1 p998 q998; have hw998_3 := hx998_3; have hw998_2 := hx998_2; have hw998_1 := hx998_1; have hw998_0 := hx998_0
      cases e998
      replace hx998_0 := hc HB hx998_0; replace hx998_1 := hc HB hx998_1; replace hx998_2 := hc HB hx998_2; replace hx998_3 := hc HB hx998_3; replace p998 := eq_true p998; replace q998 := eq_true q998; have p999 : 0 ≤ (x5_1 : Int) := od; have q999 : x5_1 < (l0.length : Int) := od; obtain ⟨ad999, e999, hx999_0, hx999_1, hx999_2, hx999_3⟩ := at_T143 HR0.out x5_1 p999 q999; have hw999_3 := hx999_3; have hw999_2 := hx999_2; have hw999_1 := hx999_1; have hw999_0 := hx999_0; obtain rfl : ad998 = ad999 := (by injection e999); replace hx999_0 := hc HB hx999_0; replace hx999_1 := hc HB hx999_1; replace hx999_2 := hc HB hx999_2; replace hx999_3 := hc HB hx999_3; replace p999 := eq_true p999; replace q999 := eq_true q999; refine start_ (n := 32) (S := fun w' => w'.cell? ⟨gb997, 0, none⟩ = some (.int .i64 a1_0) ∧ w'.cell? ⟨gb997, 1, none⟩ = some (.int .i64 a1_1) ∧ w'.cell? (ad998.add ((x5_1).toNat * 4)) = some (.int .i64 ((rd_T143 l0 x5_1).f0.f0)) ∧ w'.cell? ⟨(ad998.add ((x5_1).toNat * 4)).block, (ad998.add ((x5_1).toNat * 4)).off + 1, none⟩ = some (.int .i64 ((rd_T143 l0 x5_1).f0.f1)) ∧ w'.cell? ⟨(ad998.add ((x5_1).toNat * 4)).block, (ad998.add ((x5_1).toNat * 4)).off + 2, none⟩ = some (.int .i64 ((rd_T143 l0 x5_1).f1.f0)) ∧ w'.cell? ⟨(ad998.add ((x5_1).toNat * 4)).block, (ad998.add ((x5_1).toNat * 4)).off + 3, none⟩ = some (.int .i64 ((rd_T143 l0 x5_1).f1.f1)) ∧ w'.cell? (ad998.add ((x5_1).toNat * 4)) = some (.int .i64 ((rd_T143 l0 x5_1).f0.f0)) ∧ w'.cell? ⟨(ad998.add ((x5_1).toNat * 4)).block, (ad998.add ((x5_1).toNat * 4)).off + 1, none⟩ = some (.int .i64 ((rd_T143 l0 x5_1).f0.f1)) ∧ w'.cell? ⟨(ad998.add ((x5_1).toNat * 4)).block, (ad998.add ((x5_1).toNat * 4)).off + 2, none⟩ = some (.int .i64 ((rd_T143 l0 x5_1).f1.f0)) ∧ w'.cell? ⟨(ad998.add ((x5_1).toNat * 4)).block, (ad998.add ((x5_1).toNat * 4)).off + 3, none⟩ = some (.int .i64 ((rd_T143 l0 x5_1).f1.f1))) (ds := []) _ (by kernel_rfl) rfl rfl ⟨(blk_cell BK997.out 0).trans rfl, (blk_cell BK997.out 1).trans rfl, ((HB.out.cell (World.block_lt_of_cell? w _ hw998_0)).trans hw998_0), ((HB.out.cell (World.block_lt_of_cell? w _ hw998_1)).trans hw998_1), ((HB.out.cell (World.block_lt_of_cell? w _ hw998_2)).trans hw998_2), ((HB.out.cell (World.block_lt_of_cell? w _ hw998_3)).trans hw998_3), ((HB.out.cell (World.block_lt_of_cell? w _ hw999_0)).trans hw999_0), ((HB.out.cell (World.block_lt_of_cell? w _ hw999_1)).trans hw999_1), ((HB.out.cell (World.block_lt_of_cell? w _ hw999_2)).trans hw999_2), ((HB.out.cell (World.block_lt_of_cell? w _ hw999_3)).trans hw999_3)⟩ (fun hH => ?_); refine with_tabW Rf_Class.tab4 Rf_Class.bits4 (fun HT_ HW_ => ?_); generalize wr.drew = w12 at BK997 HB hx998_0 hx998_1 hx998_2 hx998_3 hx999_0 hx999_1 hx999_2 hx999_3 hH ⊢; refine pZ 0 (some 12) (bs 32 1) HT_ ?_; refine pZ 2 (some 14) (bs 32 5) HT_ ?_; refine pZ 3 (some 15) (bs 32 13) HT_ ?_; refine pZ 4 (some 16) (bs 32 29) HT_ ?_; refine pZ 5 (some 17) (bs 32 61) HT_ ?_; refine pZ 6 (some 18) (bs 32 125) HT_ ?_; refine pZ 8 (some 20) (bs 32 381) HT_ ?_; refine pZ 9 (some 21) (bs 32 893) HT_ ?_; refine pZ 10 (some 22) (bs 32 1917) HT_ ?_; refine pZ 11 (some 23) (bs 32 3965) HT_ ?_; refine pZ 12 (some 24) (bs 32 8061) HT_ ?_; refine takeZ 1 (some 13) (bs 32 8063) (tw HT_ HW_) hH ?_; refine takeZ 7 (some 19) (bs 32 8191) (tw HT_ HW_) hH ?_; refine takeZ 13 (some 25) (bs 32 16383) (tw HT_ HW_) hH ?_; refine oneZ 14 (some 26) (bs 32 32767) (o1 HT_) fun K hK => ?_; refine gz Try.func19 #[.int .i64 a1_0, .int .i64 ((rd_T143 l0 x5_1).f0.f0), .int .i64 ((rd_T143 l0 x5_1).f0.f1)] ?_
      with_reducible refine (Bs_Within.calls a1_0 ((rd_T143 l0 x5_1).f0.f0) ((rd_T143 l0 x5_1).f0.f1) false _ A6.out).mono ?_
      rintro e w' ⟨rfl, ⟨nd, rfl⟩⟩; refine ⟨_, rfl, ?_⟩; refine hK.out _ _ ⟨(blk_cell BK997.out 0).trans rfl, (blk_cell BK997.out 1).trans rfl, ((HB.out.cell (World.block_lt_of_cell? w _ hw998_0)).trans hw998_0), ((HB.out.cell (World.block_lt_of_cell? w _ hw998_1)).trans hw998_1), ((HB.out.cell (World.block_lt_of_cell? w _ hw998_2)).trans hw998_2), ((HB.out.cell (World.block_lt_of_cell? w _ hw998_3)).trans hw998_3), ((HB.out.cell (World.block_lt_of_cell? w _ hw999_0)).trans hw999_0), ((HB.out.cell (World.block_lt_of_cell? w _ hw999_1)).trans hw999_1), ((HB.out.cell (World.block_lt_of_cell? w _ hw999_2)).trans hw999_2), ((HB.out.cell (World.block_lt_of_cell? w _ hw999_3)).trans hw999_3)⟩ (fun hH => ?_); clear hK K; refine nz 26 ?_; refine pZ 15 (some 27) (bs 32 65535) HT_ ?_; refine pure_ (i := 16) (N := some 28) (v := undef) (a' := ?_) (bs 32 131071) rfl rfl (any_of HT_.out (by kernel_rfl)) (fun _ _ _ h => h) (Or.inr ⟨by rfl, rfl⟩) ?_ ?_; rotate_left
      ·exact pz
      refine pure_ (i := 17) (N := some 29) (v := undef) (a' := ?_) (bs 32 262143) rfl rfl (any_of HT_.out (by kernel_rfl)) (fun _ _ _ h => h) (Or.inr ⟨by rfl, rfl⟩) ?_ ?_; rotate_left
      ·exact pz
      refine pure_ (i := 18) (N := some 30) (v := undef) (a' := ?_) (bs 32 524287) rfl rfl (any_of HT_.out (by kernel_rfl)) (fun _ _ _ h => h) (Or.inr ⟨by rfl, rfl⟩) ?_ ?_; rotate_left
      ·exact pz
      refine pure_ (i := 19) (N := some 31) (v := undef) (a' := ?_) (bs 32 1048575) rfl rfl (any_of HT_.out (by kernel_rfl)) (fun _ _ _ h => h) (Or.inr ⟨by rfl, rfl⟩) ?_ ?_; rotate_left
      ·exact pz
      refine pure_ (i := 20) (N := some 32) (v := undef) (a' := ?_) (bs 32 2097151) rfl rfl (any_of HT_.out (by kernel_rfl)) (fun _ _ _ h => h) (Or.inr ⟨by rfl, rfl⟩) ?_ ?_; rotate_left
      ·exact pz
      refine pure_ (i := 21) (N := some 33) (v := undef) (a' := ?_) (bs 32 4194303) rfl rfl (any_of HT_.out (by kernel_rfl)) (fun _ _ _ h => h) (Or.inr ⟨by rfl, rfl⟩) ?_ ?_; rotate_left
      ·exact pz
      refine pure_ (i := 22) (N := some 34) (v := undef) (a' := ?_) (bs 32 8388607) rfl rfl (any_of HT_.out (by kernel_rfl)) (fun _ _ _ h => h) (Or.inr ⟨by rfl, rfl⟩) ?_ ?_; rotate_left
      ·exact pz
      refine pure_ (i := 23) (N := some 35) (v := undef) (a' := ?_) (bs 32 16777215) rfl rfl (any_of HT_.out (by kernel_rfl)) (fun _ _ _ h => h) (Or.inr ⟨by rfl, rfl⟩) ?_ ?_; rotate_left
      ·exact pz
      refine pure_ (i := 24) (N := some 36) (v := undef) (a' := ?_) (bs 32 33554431) rfl rfl (any_of HT_.out (by kernel_rfl)) (fun _ _ _ h => h) (Or.inr ⟨by rfl, rfl⟩) ?_ ?_; rotate_left
      ·exact pz
      refine pure_ (i := 25) (N := some 37) (v := undef) (a' := ?_) (bs 32 67108863) rfl rfl (any_of HT_.out (by kernel_rfl)) (fun _ _ _ h => h) (Or.inr ⟨by rfl, rfl⟩) ?_ ?_; rotate_left
      ·exact pz
      refine pure_ (i := 26) (N := some 38) (v := undef) (a' := ?_) (bs 32 134217727) rfl rfl (any_of HT_.out (by kernel_rfl)) (fun _ _ _ h => h) (Or.inr ⟨by rfl, rfl⟩) ?_ ?_; rotate_left
      ·exact pz
      refine pure_ (i := 27) (N := some 39) (v := undef) (a' := ?_) (bs 32 268435455) rfl rfl (any_of HT_.out (by kernel_rfl)) (fun _ _ _ h => h) (Or.inr ⟨by rfl, rfl⟩) ?_ ?_; rotate_left
      ·exact pz
      refine pure_ (i := 28) (N := some 40) (v := undef) (a' := ?_) (bs 32 536870911) rfl rfl (any_of HT_.out (by kernel_rfl)) (fun _ _ _ h => h) (Or.inr ⟨by rfl, rfl⟩) ?_ ?_; rotate_left
      ·exact pz
      refine pure_ (i := 29) (N := some 41) (v := undef) (a' := ?_) (bs 32 1073741823) rfl rfl (any_of HT_.out (by kernel_rfl)) (fun _ _ _ h => h) (Or.inr ⟨by rfl, rfl⟩) ?_ ?_; rotate_left
      ·exact pz
      refine pure_ (i := 30) (N := some 42) (v := undef) (a' := ?_) (bs 32 2147483647) rfl rfl (any_of HT_.out (by kernel_rfl)) (fun _ _ _ h => h) (Or.inr ⟨by rfl, rfl⟩) ?_ ?_; rotate_left
      ·exact pz
      refine pZ 31 (some 43) (bs 32 4294967295) HT_ ?_; refine done_ (done_of HT_.out (by kernel_rfl)) ?_
      try go_wp2
      go_roundg k1
      case measure => have := HK1.out; omega
      case rel => exact ⟨(wrap64 (x5_1 + 1)), rz, H', ⟨by have := HK1.out; omega⟩, ⟨bk BK997.out⟩, ⟨bz⟩⟩
    ·rw [if_neg c5] at H; exact absurd H (by simp)
   ·rw [if_neg c4] at H; have c4b0 := decide_eq_false c4; clear c4; obtain rfl := Option.some.inj H
    go_wp2
    go_ret
    exact ez
end
section
mutual
def Rf_Sure.l0 : Nat → List (S143) → Int → Int → Int → Int → Int → Option (Bool)
  | 0, _, _, _, _, _, _ => none
  | k + 1, x0, x2, x7, x8, x1005000, x1005001 => if x8 ≤ x2 then (Rf_Sure.l1 k x0 x2 x7 x8 (wrap64 (-x2)) x1005000 x1005001) else (some true)
def Rf_Sure.l1 : Nat → List (S143) → Int → Int → Int → Int → Int → Int → Option (Bool)
  | 0, _, _, _, _, _, _, _ => none
  | k + 1, x0, x2, x7, x8, x9, x1005000, x1005001 => if x9 ≤ x2 then ((Rf_Class.f k x0 (wrap64 (x1005000 + x8)) (wrap64 (x1005001 + x9))).bind fun t1006 => (if t1006 = x7 then (Rf_Sure.l1 k x0 x2 x7 x8 (wrap64 (x9 + 1)) x1005000 x1005001) else (some false))) else (Rf_Sure.l0 k x0 x2 x7 (wrap64 (x8 + 1)) x1005000 x1005001)
end
def Rf_Sure.f (k : Nat) (l0 : List (S143)) (a1_0 : Int) (a1_1 : Int) (a2 : Int) : Option (Bool) := (Rf_Class.f k l0 a1_0 a1_1).bind fun t1005 => (Rf_Sure.l0 k l0 a2 t1005 (wrap64 (-a2)) a1_0 a1_1)
theorem Rf_Sure.mono_l : ∀ k, (∀ y0 y1 y2 y3 y4 y5, LeO (Rf_Sure.l0 k y0 y1 y2 y3 y4 y5) (Rf_Sure.l0 (k + 1) y0 y1 y2 y3 y4 y5)) ∧ (∀ y0 y1 y2 y3 y4 y5 y6, LeO (Rf_Sure.l1 k y0 y1 y2 y3 y4 y5 y6) (Rf_Sure.l1 (k + 1) y0 y1 y2 y3 y4 y5 y6))
  | 0 => ⟨fun _ _ _ _ _ _ r h => by simp [Rf_Sure.l0] at h, fun _ _ _ _ _ _ _ r h => by simp [Rf_Sure.l1] at h⟩
  | k + 1 => by
    obtain ⟨ih0, ih1⟩ := Rf_Sure.mono_l k; refine ⟨?_, ?_⟩
    · intro y0 y1 y2 y3 y4 y5; unfold Rf_Sure.l0
      repeat' with_reducible first
        | exact ih0 ..
        | exact ih1 ..
        | exact Rf_Class.mono ..
        | exact LeO.refl ..
        | exact LeO.none ..
        | refine LeO.ite ?_ ?_
        | refine LeO.bind ?_ (fun _ => ?_)
    · intro y0 y1 y2 y3 y4 y5 y6; unfold Rf_Sure.l1
      repeat' with_reducible first
        | exact ih0 ..
        | exact ih1 ..
        | exact Rf_Class.mono ..
        | exact LeO.refl ..
        | exact LeO.none ..
        | refine LeO.ite ?_ ?_
        | refine LeO.bind ?_ (fun _ => ?_)
theorem Rf_Sure.mono : ∀ a0 a1 a2 a3 k, LeO (Rf_Sure.f k a0 a1 a2 a3) (Rf_Sure.f (k + 1) a0 a1 a2 a3) := by
  intro a0 a1 a2 a3 k; obtain ⟨ih0, ih1⟩ := Rf_Sure.mono_l k; unfold Rf_Sure.f
  repeat' with_reducible first
    | exact ih0 ..
    | exact ih1 ..
    | exact Rf_Class.mono ..
    | exact LeO.refl ..
    | exact LeO.none ..
    | refine LeO.ite ?_ ?_
    | refine LeO.bind ?_ (fun _ => ?_)
theorem Rf_Sure.calls (k : Nat) (A0 : Option Addr) (c0 : Nat) (l0 : List (S143)) (a1_0 : Int) (a1_1 : Int) (a2 : Int) (r : Bool) (w : World) (hr0 : Kd.C k143 w A0 l0.length l0) (hc0 : l0.length ≤ c0) (H : Rf_Sure.f k l0 a1_0 a1_1 a2 = some r) :
    Calls Try.prog 62 #[.slice A0 l0.length c0, .agg #[.int .i64 a1_0, .int .i64 a1_1], .int .i64 a2] w fun e w' => e = .returned (.bool r) ∧ Below w.heap.size w w' := by
  have hu87 := Try.underlying87; have HR0 := m0 hr0; have HC0 := m0 hc0; clear hr0 hc0; have HB := m0 (Below.refl w.heap.size w); unfold Rf_Sure.f at H; replace H := oa H; obtain ⟨t1005, A4, H⟩ := H; (try dsimp only at H); have H' := m0 H; clear H; go_enter Try.func62, Try.ntmps62
  go_wp2_with (first | ((with_reducible refine ga 4 rfl ?_); refine be 4 87 #[.int .i64 a1_0, .int .i64 a1_1] ?_; intro gb1004 hg w5 hbox hb; have BK1004 := m0 hbox; have GE1004 := gw w hg; replace HB := sb HB hb; clear hb hbox hg; obtain ⟨hcz6_0, hcz6_1, hfz6_0, hfz6_1⟩ := b2 BK1004) | ((with_reducible refine gc 61 rfl ?_); refine gl (some 12) Try.func61 #[.slice A0 l0.length c0, .agg #[.int .i64 a1_0, .int .i64 a1_1]] ?_; (with_reducible refine (Rf_Class.calls k _ _ l0 a1_0 a1_1 t1005 _ ?side1 ?side2 A4.out).mono ?_); (case side1 => exact cb HR0 HB); (case side2 => exact HC0.out); rintro e w7 ⟨rfl, hb⟩; refine ⟨_, rfl, ?_⟩; replace BK1004 := bb BK1004 hb; replace HB := sb HB hb; (try clear hb)))
  go_loopg [8] k (fun kq v8 w' => ∃ (x8_1 : Int), v8 = .int .i64 x8_1 ∧ Aside0 (Rf_Sure.l0 kq l0 a2 t1005 x8_1 a1_0 a1_1 = some r) ∧ Aside0 (kq ≤ k) ∧ Aside0 (w'.heap[gb1004]? = some (.cells #[.int .i64 a1_0, .int .i64 a1_1] 87 (0, 0))) ∧ Aside0 (Below w.heap.size w w'))
  case atStart => exact ⟨(wrap64 (-a2)), rz, H', ⟨Nat.le_refl _⟩, ⟨bk BK1004.out⟩, ⟨bz⟩⟩
  case round =>
    clear H'
    try clear hcz6_0
    try clear hcz6_1
    try clear hfz6_0
    try clear hfz6_1
    obtain ⟨x8_1, rfl, HA, HK1, BK1004, HB⟩ := hrel
    cases gk with
    | zero => exact absurd HA.out (by simp [Rf_Sure.l0])
    | succ k1 =>
      have H := HA.out; clear HA; simp only [Rf_Sure.l0] at H
      by_cases c8 : x8_1 ≤ a2
      · rw [if_pos c8] at H; have c8b0 := decide_eq_true c8; clear c8; have H' := m0 H; clear H
        go_wp2
        go_loopg [9] k1 (fun kq v9 w' => ∃ (x9_2 : Int), v9 = .int .i64 x9_2 ∧ Aside0 (Rf_Sure.l1 kq l0 a2 t1005 x8_1 x9_2 a1_0 a1_1 = some r) ∧ Aside0 (kq ≤ k1) ∧ Aside0 (w'.heap[gb1004]? = some (.cells #[.int .i64 a1_0, .int .i64 a1_1] 87 (0, 0))) ∧ Aside0 (Below w.heap.size w w'))
        case atStart => exact ⟨(wrap64 (-a2)), rz, H', ⟨Nat.le_refl _⟩, ⟨bk BK1004.out⟩, ⟨bz⟩⟩
        case round =>
          clear H'
          try clear hcz6_0
          try clear hcz6_1
          try clear hfz6_0
          try clear hfz6_1
          obtain ⟨x9_2, rfl, HA, HK2, BK1004, HB⟩ := hrel
          cases gk with
          | zero => exact absurd HA.out (by simp [Rf_Sure.l1])
          | succ k2 =>
            have H := HA.out; clear HA; simp only [Rf_Sure.l1] at H
            by_cases c9 : x9_2 ≤ a2
            · rw [if_pos c9] at H; have c9b0 := decide_eq_true c9; clear c9; replace H := oa H; obtain ⟨t1006, A10, H⟩ := H; (try dsimp only at H)
              by_cases c11 : t1006 = t1005
              · rw [if_pos c11] at H; have c11b0 := beq_iff_eq.mpr c11; have c11b1 := bne_eq_false_iff_eq.mpr c11; clear c11; have H' := m0 H; clear H; obtain ⟨_, _, _, _⟩ := b2 BK1004
                go_wp2_with (first | ((with_reducible refine gc 61 rfl ?_); refine gl (some 37) Try.func61 #[.slice A0 l0.length c0, .agg #[.int .i64 (wrap64 (a1_0 + x8_1)), .int .i64 (wrap64 (a1_1 + x9_2))]] ?_; (with_reducible refine (Rf_Class.calls k2 _ _ l0 (wrap64 (a1_0 + x8_1)) (wrap64 (a1_1 + x9_2)) t1006 _ ?side1 ?side2 A10.out).mono ?_); (case side1 => exact cb HR0 HB); (case side2 => exact HC0.out); rintro e w13 ⟨rfl, hb⟩; refine ⟨_, rfl, ?_⟩; replace BK1004 := bb BK1004 hb; replace HB := sb HB hb; (try clear hb)))
                go_roundg k2
                case measure => have := HK1.out; have := HK2.out; omega
                case rel => exact ⟨(wrap64 (x9_2 + 1)), rz, H', ⟨by have := HK1.out; have := HK2.out; omega⟩, ⟨bk BK1004.out⟩, ⟨bz⟩⟩
              · rw [if_neg c11] at H; have c11b0 := beq_eq_false_iff_ne.mpr c11; have c11b1 := bne_iff_ne.mpr c11; obtain rfl := Option.some.inj H; obtain ⟨_, _, _, _⟩ := b2 BK1004
                go_wp2_with (first | ((with_reducible refine gc 61 rfl ?_); refine gl (some 37) Try.func61 #[.slice A0 l0.length c0, .agg #[.int .i64 (wrap64 (a1_0 + x8_1)), .int .i64 (wrap64 (a1_1 + x9_2))]] ?_; (with_reducible refine (Rf_Class.calls k2 _ _ l0 (wrap64 (a1_0 + x8_1)) (wrap64 (a1_1 + x9_2)) t1006 _ ?side1 ?side2 A10.out).mono ?_); (case side1 => exact cb HR0 HB); (case side2 => exact HC0.out); rintro e w15 ⟨rfl, hb⟩; refine ⟨_, rfl, ?_⟩; replace BK1004 := bb BK1004 hb; replace HB := sb HB hb; (try clear hb)))
                go_ret
                exact ez
            · rw [if_neg c9] at H; have c9b0 := decide_eq_false c9; clear c9; have H' := m0 H; clear H
              go_wp2
              go_roundg k2
              case measure => have := HK1.out; have := HK2.out; omega
              case rel => exact ⟨(wrap64 (x8_1 + 1)), rz, H', ⟨by have := HK1.out; have := HK2.out; omega⟩, ⟨bk BK1004.out⟩, ⟨bz⟩⟩
      · rw [if_neg c8] at H; have c8b0 := decide_eq_false c8; clear c8; obtain rfl := Option.some.inj H
        go_wp2
        go_ret
        exact ez
end
end Go.Proofs.Yteiafijbgjgiaaa.A
