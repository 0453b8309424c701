/- Walks of the program's functions (printed, made shorter), each with what it computes. -/
import Derived.Test.YtibhfahbabgbaaaB05
import Derived.Test.YtibhfahbabgbaaaTA02
import Derived.Test.YtibhfahbabgbaaaB04
import Derived.Test.YtibhfahbabgbaaaB12
import Derived.Test.YtibhfahbabgbaaaTA01
import Derived.Test.YtibhfahbabgbaaaB16
namespace Go.Proofs.Ytibhfahbabgbaaa.A
set_option maxHeartbeats 8000000
set_option maxRecDepth 100000
open Go.RowKit Go.Proofs.YtibhfahbabgbaaaW.PrintWords Go.Proofs.YtibhfahbabgbaaaW.PrintLast Go.Proofs.YtibhfahbabgbaaaW.PrintMore
attribute [local go_sem] max2_int min2_int max_two min_two max_three min_three max_four min_four
set_option linter.unusedVariables false
set_option linter.unusedSimpArgs false
section
mutual
def Rf_Agreement.l0 : Nat → List (S165) → Int → Int → Int → Int → Int → Option (Int × Int × Int)
  | 0, _, _, _, _, _, _ => none
  | k + 1, x0, x1, x6, x1252000, x1252001, x1252002 => if x6 < (x0.length : Int) then (if 0 ≤ x6 then ((Rf_difference.f ((rd_T165 x0 x6).f0.f0) ((rd_T165 x0 x6).f0.f1) ((rd_T165 x0 x6).f1.f0) ((rd_T165 x0 x6).f1.f1)).bind fun bt1253 => (if bt1253.1 > x1 then (Rf_Agreement.j1 k x0 x1 x6 true x1252000 x1252001 x1252002 bt1253.1 bt1253.2) else (Rf_Agreement.j1 k x0 x1 x6 (decide (bt1253.2 < (wrap64 (-x1)))) x1252000 x1252001 x1252002 bt1253.1 bt1253.2))) else (none)) else (some (x1252000, x1252001, x1252002))
def Rf_Agreement.j1 : Nat → List (S165) → Int → Int → Bool → Int → Int → Int → Int → Int → Option (Int × Int × Int)
  | 0, _, _, _, _, _, _, _, _, _ => none
  | k + 1, x0, x1, x6, x23, x1252000, x1252001, x1252002, x1256000, x1256001 => if x23 = true then (Rf_Agreement.l0 k x0 x1 (wrap64 (x6 + 1)) (wrap64 (x1252000 + 1)) x1252001 x1252002) else ((Bs_Size.f x1256000).bind fun t1256 => (if t1256 ≤ x1 then ((Bs_Size.f x1256001).bind fun t1257 => (if t1257 ≤ x1 then (Rf_Agreement.l0 k x0 x1 (wrap64 (x6 + 1)) x1252000 x1252001 (wrap64 (x1252002 + 1))) else (Rf_Agreement.l0 k x0 x1 (wrap64 (x6 + 1)) x1252000 (wrap64 (x1252001 + 1)) x1252002))) else (Rf_Agreement.l0 k x0 x1 (wrap64 (x6 + 1)) x1252000 (wrap64 (x1252001 + 1)) x1252002)))
end
def Rf_Agreement.f (k : Nat) (l0 : List (S165)) (a1 : Int) : Option (Int × Int × Int) := Rf_Agreement.l0 k l0 a1 0 0 0 0
theorem Rf_Agreement.mono_l : ∀ k, (∀ y0 y1 y2 y3 y4 y5, LeO (Rf_Agreement.l0 k y0 y1 y2 y3 y4 y5) (Rf_Agreement.l0 (k + 1) y0 y1 y2 y3 y4 y5)) ∧ (∀ y0 y1 y2 y3 y4 y5 y6 y7 y8, LeO (Rf_Agreement.j1 k y0 y1 y2 y3 y4 y5 y6 y7 y8) (Rf_Agreement.j1 (k + 1) y0 y1 y2 y3 y4 y5 y6 y7 y8))
  | 0 => ⟨fun _ _ _ _ _ _ r h => by simp [Rf_Agreement.l0] at h, fun _ _ _ _ _ _ _ _ _ r h => by simp [Rf_Agreement.j1] at h⟩
  | k + 1 => by
    obtain ⟨ih0, ih1⟩ := Rf_Agreement.mono_l k
    refine ⟨?_, ?_⟩
    · intro y0 y1 y2 y3 y4 y5
      unfold Rf_Agreement.l0
      repeat' with_reducible first
        | exact ih0 ..
        | exact ih1 ..
        | exact LeO.refl ..
        | exact LeO.none ..
        | refine LeO.ite ?_ ?_
        | refine LeO.bind ?_ (fun _ => ?_)
    · intro y0 y1 y2 y3 y4 y5 y6 y7 y8
      unfold Rf_Agreement.j1
      repeat' with_reducible first
        | exact ih0 ..
        | exact ih1 ..
        | exact LeO.refl ..
        | exact LeO.none ..
        | refine LeO.ite ?_ ?_
        | refine LeO.bind ?_ (fun _ => ?_)
theorem Rf_Agreement.mono : ∀ a0 a1 k, LeO (Rf_Agreement.f k a0 a1) (Rf_Agreement.f (k + 1) a0 a1) := by
  intro a0 a1 k
  obtain ⟨ih0, ih1⟩ := Rf_Agreement.mono_l k
  unfold Rf_Agreement.f
  repeat' with_reducible first
    | exact ih0 ..
    | exact ih1 ..
    | exact LeO.refl ..
    | exact LeO.none ..
    | refine LeO.ite ?_ ?_
    | refine LeO.bind ?_ (fun _ => ?_)
theorem Rf_Agreement.calls (k : Nat) (A0 : Option Addr) (c0 : Nat) (l0 : List (S165)) (a1 : Int) (r1 : Int) (r2 : Int) (r3 : Int) (w : World) (hr0 : Kd.C k165 w A0 l0.length l0) (hc0 : l0.length ≤ c0) (h : Rf_Agreement.f k l0 a1 = some (r1, r2, r3)) :
    Calls Try.prog 53 #[.slice A0 l0.length c0, .int .i64 a1] w fun e w' => e = .returned (.agg #[.int .i64 r1, .int .i64 r2, .int .i64 r3]) ∧ Below w.heap.size w w' := by
  have hu44 := Try.underlying44
  have hu165 := Try.underlying165
  have hu58 := Try.underlying58
  have hix44_0 : ∀ (g_ : Nat) (W_ : World), (Instr.indexAt 44 (.pointer (some ⟨g_, 0, none⟩)) (.int .i64 0)).run Try.prog W_ = .ok (.pointer (some ⟨g_, 0, none⟩)) W_ := fun _ _ => by kernel_rfl
  have hix44_1 : ∀ (g_ : Nat) (W_ : World), (Instr.indexAt 44 (.pointer (some ⟨g_, 0, none⟩)) (.int .i64 1)).run Try.prog W_ = .ok (.pointer (some ⟨g_, 1, none⟩)) W_ := fun _ _ => by kernel_rfl
  have hix44_2 : ∀ (g_ : Nat) (W_ : World), (Instr.indexAt 44 (.pointer (some ⟨g_, 0, none⟩)) (.int .i64 2)).run Try.prog W_ = .ok (.pointer (some ⟨g_, 2, none⟩)) W_ := fun _ _ => by kernel_rfl
  have HR0 := m0 hr0
  have HC0 := m0 hc0
  clear hr0 hc0
  have HB := m0 (Below.refl w.heap.size w)
  have H : (Rf_Agreement.l0 k l0 a1 0 0 0 0) = some (r1, r2, r3) := h
  clear h
  have H' := m0 H
  clear H
  go_enter Try.func53, Try.ntmps53
  go_wp2_with (first | ((with_reducible refine gate_dst (N := 4) rfl ?_); refine be 4 44 #[.int .i64 0, .int .i64 0, .int .i64 0] ?_; intro gb1250 hg w3 hbox hb; have BK1250 := m0 hbox; have GE1250 := gw w hg; replace HB := sb HB hb; clear hb hbox hg) | ((with_reducible refine gate_dst (N := 5) rfl ?_); refine be 5 44 #[.int .i64 0, .int .i64 0, .int .i64 0] ?_; intro gb1251 hg w4 hbox hb; have BK1251 := m0 hbox; have GE1251 := gw w hg; replace HB := sb HB hb; have NB1250_1251 := nl BK1250 hg; have NB1251_1250 := ng (nl BK1250 hg); replace BK1250 := bb BK1250 hb; clear hb hbox hg))
  go_loopg [6] k (fun kq v6 w' => ∃ (x6_1 : Int) (x1252000_1 : Int) (x1252001_1 : Int) (x1252002_1 : Int), v6 = .int .i64 x6_1 ∧ Aside0 (Rf_Agreement.l0 kq l0 a1 x6_1 x1252000_1 x1252001_1 x1252002_1 = some (r1, r2, r3)) ∧ Aside0 (kq ≤ k) ∧ Aside0 (w'.heap[gb1250]? = some (.cells #[.int .i64 0, .int .i64 0, .int .i64 0] 44 (0, 0))) ∧ Aside0 (w'.heap[gb1251]? = some (.cells #[.int .i64 x1252000_1, .int .i64 x1252001_1, .int .i64 x1252002_1] 44 (0, 0))) ∧ Aside0 (Below w.heap.size w w'))
  case atStart => exact ⟨(0), (0), (0), (0), (by first | rfl | (simp; done) | (simp [*]; done)), H', ⟨Nat.le_refl _⟩, ⟨bk BK1250.out⟩, ⟨bk BK1251.out⟩, ⟨bz⟩⟩
  case round =>
    clear H'
    obtain ⟨x6_1, x1252000_1, x1252001_1, x1252002_1, rfl, HA, HK1, BK1250, BK1251, HB⟩ := hrel
    cases gk with
    | zero => exact absurd HA.out (by simp [Rf_Agreement.l0])
    | succ k1 =>
      have H := HA.out
      clear HA
      simp only [Rf_Agreement.l0] at H
      by_cases c5 : x6_1 < (l0.length : Int)
      · rw [if_pos c5] at H
        have c5b0 := decide_eq_true c5
        clear c5
        by_cases c6 : 0 ≤ x6_1
        · rw [if_pos c6] at H
          have c6b0 := decide_eq_true c6
          clear c6
          replace H := ob H
          obtain ⟨⟨t1253, t1254⟩, A7, H⟩ := H
          (try dsimp only at H)
          replace A7 := m0 A7
          have HC8 := m0 H
          clear H
          have p1252 : 0 ≤ (x6_1 : Int) := od
          have q1252 : x6_1 < (l0.length : Int) := od
          obtain ⟨ad1252, e1252, hx1252_0, hx1252_1, hx1252_2, hx1252_3⟩ := at_T165 HR0.out x6_1 p1252 q1252
          cases e1252
          replace hx1252_0 := (HB.out.cell (World.block_lt_of_cell? w _ hx1252_0)).trans hx1252_0
          replace hx1252_1 := (HB.out.cell (World.block_lt_of_cell? w _ hx1252_1)).trans hx1252_1
          replace hx1252_2 := (HB.out.cell (World.block_lt_of_cell? w _ hx1252_2)).trans hx1252_2
          replace hx1252_3 := (HB.out.cell (World.block_lt_of_cell? w _ hx1252_3)).trans hx1252_3
          replace p1252 := eq_true p1252
          replace q1252 := eq_true q1252
          go_upto_region 7 with (first | ((with_reducible refine gate_callee (f := 108) rfl ?_); refine gl (some 18) Try.func108 #[.agg #[.int .i64 ((rd_T165 l0 x6_1).f0.f0), .int .i64 ((rd_T165 l0 x6_1).f0.f1), .int .i64 ((rd_T165 l0 x6_1).f1.f0), .int .i64 ((rd_T165 l0 x6_1).f1.f1)]] ?_; (with_reducible refine (Rf_difference.calls ((rd_T165 l0 x6_1).f0.f0) ((rd_T165 l0 x6_1).f0.f1) ((rd_T165 l0 x6_1).f1.f0) ((rd_T165 l0 x6_1).f1.f1) t1253 t1254 _ A7.out).mono ?_); rintro e w9 ⟨rfl, hb⟩; refine ⟨_, rfl, ?_⟩; replace BK1250 := bb BK1250 hb; replace BK1251 := bb BK1251 hb; replace HB := sb HB hb; (try clear hb)) | ((with_reducible refine gate_dst (N := 7) rfl ?_); refine be 7 58 #[.int .i64 0, .int .i64 0] ?_; intro gb1255 hg w10 hbox hb; have BK1255 := m0 hbox; have GE1255 := gw w hg; replace HB := sb HB hb; have NB1250_1255 := nl BK1250 hg; have NB1255_1250 := ng (nl BK1250 hg); replace BK1250 := bb BK1250 hb; have NB1251_1255 := nl BK1251 hg; have NB1255_1251 := ng (nl BK1251 hg); replace BK1251 := bb BK1251 hb; clear hb hbox hg; have hnb11 := NB1255_1250.out; have hnc11 := NB1250_1255.out; have hnb12 := NB1255_1251.out; have hnc12 := NB1251_1255.out; obtain ⟨hcz13_0, hcz13_1, hfz13_0, hfz13_1⟩ := b2 BK1255))
          (try simp only [Act.put, List.setIfInBounds_toArray, List.set_cons_zero, List.set_cons_succ])
          go_cut [23] (fun v23 wc => ∃ (kq : Nat) (x23_7 : Bool), v23 = .bool x23_7 ∧ Aside0 (Rf_Agreement.j1 kq l0 a1 x6_1 x23_7 x1252000_1 x1252001_1 x1252002_1 t1253 t1254 = some (r1, r2, r3)) ∧ Aside0 (kq ≤ k1) ∧ Aside0 (wc.heap[gb1250]? = some (.cells #[.int .i64 0, .int .i64 0, .int .i64 0] 44 (0, 0))) ∧ Aside0 (wc.heap[gb1251]? = some (.cells #[.int .i64 x1252000_1, .int .i64 x1252001_1, .int .i64 x1252002_1] 44 (0, 0))) ∧ Aside0 (wc.heap[gb1255]? = some (.cells #[.int .i64 t1253, .int .i64 t1254] 58 (0, 0))) ∧ Aside0 (Below w.heap.size w wc))
          case first =>
            have H := HC8.out
            clear HC8
            by_cases c14 : t1253 > a1
            · rw [if_pos c14] at H
              have c14b0 := decide_eq_true c14
              clear c14
              (first | rw [c14b0] | (simp only [i64_w, i32_w]; rw [c14b0]) | skip)
              have H' := m0 H
              clear H
              have hnb15 := NB1255_1250.out
              have hnc15 := NB1250_1255.out
              have hnb16 := NB1255_1251.out
              have hnc16 := NB1251_1255.out
              obtain ⟨hcz17_0, hcz17_1, hfz17_0, hfz17_1⟩ := b2 BK1255
              go_wp2
              go_meet
              case rel => exact ⟨_, (true), (by first | rfl | (simp; done) | (simp [*]; done)), H', ⟨by have := HK1.out; first | omega | exact Nat.le_refl _⟩, ⟨bq BK1250.out⟩, ⟨bq BK1251.out⟩, ⟨bq BK1255.out⟩, ⟨bz⟩⟩
            · rw [if_neg c14] at H
              have c14b0 := decide_eq_false c14
              clear c14
              (first | rw [c14b0] | (simp only [i64_w, i32_w]; rw [c14b0]) | skip)
              have H' := m0 H
              clear H
              have hnb18 := NB1255_1250.out
              have hnc18 := NB1250_1255.out
              have hnb19 := NB1255_1251.out
              have hnc19 := NB1251_1255.out
              obtain ⟨hcz20_0, hcz20_1, hfz20_0, hfz20_1⟩ := b2 BK1255
              go_wp2
              go_meet
              case rel => exact ⟨_, (decide (t1254 < (wrap64 (-a1)))), (by first | rfl | (simp; done) | (simp [*]; done)), H', ⟨by have := HK1.out; first | omega | exact Nat.le_refl _⟩, ⟨bq BK1250.out⟩, ⟨bq BK1251.out⟩, ⟨bq BK1255.out⟩, ⟨bz⟩⟩
          case rest =>
            clear HC8
            try clear hx1
            try clear hx12
            try clear hcz13_0
            try clear hcz13_1
            try clear hcz17_0
            try clear hcz17_1
            try clear hcz20_0
            try clear hcz20_1
            try clear hfz13_0
            try clear hfz13_1
            try clear hfz17_0
            try clear hfz17_1
            try clear hfz20_0
            try clear hfz20_1
            try clear hx1252_0
            try clear hx1252_1
            try clear hx1252_2
            try clear hx1252_3
            obtain ⟨kq, x23_7, rfl, HA, HJ7, BK1250, BK1251, BK1255, HB⟩ := hcut
            cases kq with
            | zero => exact absurd HA.out (by simp [Rf_Agreement.j1])
            | succ kj7 =>
              have H := HA.out
              clear HA
              simp only [Rf_Agreement.j1] at H
              by_cases c21 : x23_7 = true
              · subst c21
                rw [if_pos rfl] at H
                have H' := m0 H
                clear H
                have hnb22 := NB1251_1250.out
                have hnc22 := NB1250_1251.out
                have hnb23 := NB1251_1255.out
                have hnc23 := NB1255_1251.out
                obtain ⟨_, _, _, _, _, _⟩ := b3 BK1251
                go_wp2
                go_roundg kj7
                case measure => have := HK1.out; have := HJ7.out; omega
                case rel => exact ⟨(wrap64 (x6_1 + 1)), (wrap64 (x1252000_1 + 1)), (x1252001_1), (x1252002_1), (by first | rfl | (simp; done) | (simp [*]; done)), H', ⟨by have := HK1.out; have := HJ7.out; omega⟩, ⟨bq BK1250.out⟩, ⟨bq BK1251.out⟩, ⟨bz⟩⟩
              · replace c21 := Bool.eq_false_iff.mpr c21
                subst c21
                rw [if_neg (show ¬ (false = true) by decide)] at H
                replace H := ob H
                obtain ⟨t1256, A25, H⟩ := H
                (try dsimp only at H)
                replace A25 := m0 A25
                by_cases c26 : t1256 ≤ a1
                · rw [if_pos c26] at H
                  have c26b0 := decide_eq_true c26
                  clear c26
                  replace H := ob H
                  obtain ⟨t1257, A27, H⟩ := H
                  (try dsimp only at H)
                  replace A27 := m0 A27
                  by_cases c28 : t1257 ≤ a1
                  · rw [if_pos c28] at H
                    have c28b0 := decide_eq_true c28
                    clear c28
                    have H' := m0 H
                    clear H
                    have hnb29 := NB1255_1250.out
                    have hnc29 := NB1250_1255.out
                    have hnb30 := NB1255_1251.out
                    have hnc30 := NB1251_1255.out
                    obtain ⟨_, _, _, _⟩ := b2 BK1255
                    go_wp2_with (first | ((with_reducible refine gate_callee (f := 110) rfl ?_); refine gl (some 42) Try.func110 #[.int .i64 t1253] ?_; (with_reducible refine (Bs_Size.calls t1253 t1256 _ A25.out).mono ?_); rintro e w32 ⟨rfl, hb⟩; refine ⟨_, rfl, ?_⟩; replace BK1250 := bb BK1250 hb; replace BK1251 := bb BK1251 hb; replace BK1255 := bb BK1255 hb; replace HB := sb HB hb; (try clear hb); obtain ⟨_, _, _, _⟩ := b2 BK1255) | (go_at_call 110; (with_reducible refine (Bs_Size.calls t1254 t1257 _ A27.out).mono ?_); rintro e w34 ⟨rfl, hb⟩; replace BK1250 := bb BK1250 hb; replace BK1251 := bb BK1251 hb; replace BK1255 := bb BK1255 hb; replace HB := sb HB hb; (try clear hb); have hnb35 := NB1251_1250.out; have hnc35 := NB1250_1251.out; obtain ⟨_, _, _, _, _, _⟩ := b3 BK1251))
                    go_roundg kj7
                    case measure => have := HK1.out; have := HJ7.out; omega
                    case rel => exact ⟨(wrap64 (x6_1 + 1)), (x1252000_1), (x1252001_1), (wrap64 (x1252002_1 + 1)), (by first | rfl | (simp; done) | (simp [*]; done)), H', ⟨by have := HK1.out; have := HJ7.out; omega⟩, ⟨bq BK1250.out⟩, ⟨bq BK1251.out⟩, ⟨bz⟩⟩
                  · rw [if_neg c28] at H
                    have c28b0 := decide_eq_false c28
                    clear c28
                    have H' := m0 H
                    clear H
                    have hnb37 := NB1255_1250.out
                    have hnc37 := NB1250_1255.out
                    have hnb38 := NB1255_1251.out
                    have hnc38 := NB1251_1255.out
                    obtain ⟨_, _, _, _⟩ := b2 BK1255
                    go_wp2_with (first | ((with_reducible refine gate_callee (f := 110) rfl ?_); refine gl (some 42) Try.func110 #[.int .i64 t1253] ?_; (with_reducible refine (Bs_Size.calls t1253 t1256 _ A25.out).mono ?_); rintro e w40 ⟨rfl, hb⟩; refine ⟨_, rfl, ?_⟩; replace BK1250 := bb BK1250 hb; replace BK1251 := bb BK1251 hb; replace BK1255 := bb BK1255 hb; replace HB := sb HB hb; (try clear hb); obtain ⟨_, _, _, _⟩ := b2 BK1255) | (go_at_call 110; (with_reducible refine (Bs_Size.calls t1254 t1257 _ A27.out).mono ?_); rintro e w42 ⟨rfl, hb⟩; replace BK1250 := bb BK1250 hb; replace BK1251 := bb BK1251 hb; replace BK1255 := bb BK1255 hb; replace HB := sb HB hb; (try clear hb); have hnb43 := NB1251_1250.out; have hnc43 := NB1250_1251.out; obtain ⟨_, _, _, _, _, _⟩ := b3 BK1251))
                    go_roundg kj7
                    case measure => have := HK1.out; have := HJ7.out; omega
                    case rel => exact ⟨(wrap64 (x6_1 + 1)), (x1252000_1), (wrap64 (x1252001_1 + 1)), (x1252002_1), (by first | rfl | (simp; done) | (simp [*]; done)), H', ⟨by have := HK1.out; have := HJ7.out; omega⟩, ⟨bq BK1250.out⟩, ⟨bq BK1251.out⟩, ⟨bz⟩⟩
                · rw [if_neg c26] at H
                  have c26b0 := decide_eq_false c26
                  clear c26
                  have H' := m0 H
                  clear H
                  have hnb45 := NB1255_1250.out
                  have hnc45 := NB1250_1255.out
                  have hnb46 := NB1255_1251.out
                  have hnc46 := NB1251_1255.out
                  obtain ⟨_, _, _, _⟩ := b2 BK1255
                  go_wp2_with (first | ((with_reducible refine gate_callee (f := 110) rfl ?_); refine gl (some 42) Try.func110 #[.int .i64 t1253] ?_; (with_reducible refine (Bs_Size.calls t1253 t1256 _ A25.out).mono ?_); rintro e w48 ⟨rfl, hb⟩; refine ⟨_, rfl, ?_⟩; replace BK1250 := bb BK1250 hb; replace BK1251 := bb BK1251 hb; replace BK1255 := bb BK1255 hb; replace HB := sb HB hb; (try clear hb); have hnb49 := NB1251_1250.out; have hnc49 := NB1250_1251.out; obtain ⟨_, _, _, _, _, _⟩ := b3 BK1251))
                  go_roundg kj7
                  case measure => have := HK1.out; have := HJ7.out; omega
                  case rel => exact ⟨(wrap64 (x6_1 + 1)), (x1252000_1), (wrap64 (x1252001_1 + 1)), (x1252002_1), (by first | rfl | (simp; done) | (simp [*]; done)), H', ⟨by have := HK1.out; have := HJ7.out; omega⟩, ⟨bq BK1250.out⟩, ⟨bq BK1251.out⟩, ⟨bz⟩⟩
        · rw [if_neg c6] at H
          exact absurd H (by simp)
      · rw [if_neg c5] at H
        have c5b0 := decide_eq_false c5
        clear c5
        simp only [Option.some.injEq, Prod.mk.injEq] at H
        obtain ⟨rfl, rfl, rfl⟩ := H
        have hnb51 := NB1251_1250.out
        have hnc51 := NB1250_1251.out
        obtain ⟨_, _, _, _, _, _⟩ := b3 BK1251
        obtain ⟨_, _, _, _, _, _⟩ := b3 BK1250
        go_wp2
        refine bodyPost_ret (results_cell_row rfl _ _ gb1250 44 #[.int .i64 x1252000_1, .int .i64 x1252001_1, .int .i64 x1252002_1] (0, 0) _ rfl (bq BK1250.out) Try.underlying44 rfl (by kernel_rfl)) rfl ?_
        exact ez
end
section
attribute [local go_sem high] eqA44 eqA93
mutual
def Lw_TargetAgreement.j0 : Nat → List (S165) → Int → Int → Int → Bool → Int → Int → Int → Option (Bool)
  | 0, _, _, _, _, _, _, _, _ => none
  | k + 1, x0, x1, x6, x9, x57, x1267000, x1267001, x1267002 => if x57 = true then (none) else (if x9 = 0 then ((Bs_Within.f x1 0 10000).bind fun t1281 => (Lw_TargetAgreement.j1 k x0 x1 x6 x9 (!t1281) x1267000 x1267001 x1267002)) else (Lw_TargetAgreement.j1 k x0 x1 x6 x9 false x1267000 x1267001 x1267002))
def Lw_TargetAgreement.j1 : Nat → List (S165) → Int → Int → Int → Bool → Int → Int → Int → Option (Bool)
  | 0, _, _, _, _, _, _, _, _ => none
  | k + 1, x0, x1, x6, x9, x64, x1267000, x1267001, x1267002 => if x64 = true then (Lw_TargetAgreement.j2 k x0 x1 x6 2 x1267000 x1267001 x1267002) else (Lw_TargetAgreement.j2 k x0 x1 x6 x9 x1267000 x1267001 x1267002)
def Lw_TargetAgreement.j2 : Nat → List (S165) → Int → Int → Int → Int → Int → Int → Option (Bool)
  | 0, _, _, _, _, _, _, _ => none
  | k + 1, x0, x1, x6, x9, x1267000, x1267001, x1267002 => if x9 = 0 then (if x6 = 0 then ((Rf_Agreement.f k x0 x1).bind fun bt1282 => (if (!(x1267000 == bt1282.1) || (!(x1267001 == bt1282.2.1) || (!(x1267002 == bt1282.2.2)))) = true then (none) else (Lw_TargetAgreement.j3 k x0 x1 ((wrap64 ((wrap64 (x1267000 + x1267001)) + x1267002)) != (x0.length : Int)) x1267000 x1267001 x1267002))) else (none)) else (if x6 = x9 then (some (x1267000 == 0 && (x1267001 == 0 && (x1267002 == 0)))) else (none))
def Lw_TargetAgreement.j3 : Nat → List (S165) → Int → Bool → Int → Int → Int → Option (Bool)
  | 0, _, _, _, _, _, _ => none
  | k + 1, x0, x1, x96, x1267000, x1267001, x1267002 => if x96 = true then (none) else ((Rf_CopyPairs.f x0).bind fun t1285 => ((L_AgreementOf.f k t1285 (mn 10000 (wrap64 (x1 + 1)))).bind fun bt1288 => (if bt1288.2.2.2 = 0 then (if bt1288.2.2.1 ≥ x1267002 then (some (decide (bt1288.1 ≤ x1267000))) else (none)) else (none))))
end
def Lw_TargetAgreement.f (k : Nat) (l0 : List (S165)) (a1 : Int) : Option (Bool) := (Lw_awake.f k).bind fun t1258 => (if t1258 = true then (if (l0.length : Int) > 22 then (some true) else ((Rf_CopyPairs.f l0).bind fun t1259 => ((L_AgreementOf.f k t1259 a1).bind fun bt1262 => ((Rf_CopyPairs.f l0).bind fun t1267 => ((L_BiasOf.f k t1267).bind fun bt1270 => ((Rf_PairsErr.f k l0).bind fun t1276 => (if t1276 = 0 then (if bt1270.2.2.2.2 = 0 then ((Rf_Bias.f k l0).bind fun bt1277 => (Lw_TargetAgreement.j0 k l0 a1 bt1262.2.2.2 t1276 ((!(bt1270.1 == bt1277.1) || (!(bt1270.2.1 == bt1277.2.1))) || ((!(bt1270.2.2.1 == bt1277.2.2.1) || (!(bt1270.2.2.2.1 == bt1277.2.2.2))))) bt1262.1 bt1262.2.1 bt1262.2.2.1)) else (none)) else (if bt1270.2.2.2.2 = t1276 then (if ((!(bt1270.1 == 0) || (!(bt1270.2.1 == 0))) || ((!(bt1270.2.2.1 == 0) || (!(bt1270.2.2.2.1 == 0))))) = true then (none) else (Lw_TargetAgreement.j0 k l0 a1 bt1262.2.2.2 t1276 false bt1262.1 bt1262.2.1 bt1262.2.2.1)) else (none))))))))) else (none))
theorem Lw_TargetAgreement.mono_l : ∀ k, (∀ y0 y1 y2 y3 y4 y5 y6 y7, LeO (Lw_TargetAgreement.j0 k y0 y1 y2 y3 y4 y5 y6 y7) (Lw_TargetAgreement.j0 (k + 1) y0 y1 y2 y3 y4 y5 y6 y7)) ∧ (∀ y0 y1 y2 y3 y4 y5 y6 y7, LeO (Lw_TargetAgreement.j1 k y0 y1 y2 y3 y4 y5 y6 y7) (Lw_TargetAgreement.j1 (k + 1) y0 y1 y2 y3 y4 y5 y6 y7)) ∧ (∀ y0 y1 y2 y3 y4 y5 y6, LeO (Lw_TargetAgreement.j2 k y0 y1 y2 y3 y4 y5 y6) (Lw_TargetAgreement.j2 (k + 1) y0 y1 y2 y3 y4 y5 y6)) ∧ (∀ y0 y1 y2 y3 y4 y5, LeO (Lw_TargetAgreement.j3 k y0 y1 y2 y3 y4 y5) (Lw_TargetAgreement.j3 (k + 1) y0 y1 y2 y3 y4 y5))
  | 0 => ⟨fun _ _ _ _ _ _ _ _ r h => by simp [Lw_TargetAgreement.j0] at h, fun _ _ _ _ _ _ _ _ r h => by simp [Lw_TargetAgreement.j1] at h, fun _ _ _ _ _ _ _ r h => by simp [Lw_TargetAgreement.j2] at h, fun _ _ _ _ _ _ r h => by simp [Lw_TargetAgreement.j3] at h⟩
  | k + 1 => by
    obtain ⟨ih0, ih1, ih2, ih3⟩ := Lw_TargetAgreement.mono_l k
    refine ⟨?_, ?_, ?_, ?_⟩
    · intro y0 y1 y2 y3 y4 y5 y6 y7
      unfold Lw_TargetAgreement.j0
      repeat' with_reducible first
        | exact ih0 ..
        | exact ih1 ..
        | exact ih2 ..
        | exact ih3 ..
        | exact Lw_awake.mono ..
        | exact Rf_Agreement.mono ..
        | exact Rf_Bias.mono ..
        | exact Rf_PairsErr.mono ..
        | exact L_AgreementOf.mono ..
        | exact L_BiasOf.mono ..
        | exact LeO.refl ..
        | exact LeO.none ..
        | refine LeO.ite ?_ ?_
        | refine LeO.bind ?_ (fun _ => ?_)
    · intro y0 y1 y2 y3 y4 y5 y6 y7
      unfold Lw_TargetAgreement.j1
      repeat' with_reducible first
        | exact ih0 ..
        | exact ih1 ..
        | exact ih2 ..
        | exact ih3 ..
        | exact Lw_awake.mono ..
        | exact Rf_Agreement.mono ..
        | exact Rf_Bias.mono ..
        | exact Rf_PairsErr.mono ..
        | exact L_AgreementOf.mono ..
        | exact L_BiasOf.mono ..
        | exact LeO.refl ..
        | exact LeO.none ..
        | refine LeO.ite ?_ ?_
        | refine LeO.bind ?_ (fun _ => ?_)
    · intro y0 y1 y2 y3 y4 y5 y6
      unfold Lw_TargetAgreement.j2
      repeat' with_reducible first
        | exact ih0 ..
        | exact ih1 ..
        | exact ih2 ..
        | exact ih3 ..
        | exact Lw_awake.mono ..
        | exact Rf_Agreement.mono ..
        | exact Rf_Bias.mono ..
        | exact Rf_PairsErr.mono ..
        | exact L_AgreementOf.mono ..
        | exact L_BiasOf.mono ..
        | exact LeO.refl ..
        | exact LeO.none ..
        | refine LeO.ite ?_ ?_
        | refine LeO.bind ?_ (fun _ => ?_)
    · intro y0 y1 y2 y3 y4 y5
      unfold Lw_TargetAgreement.j3
      repeat' with_reducible first
        | exact ih0 ..
        | exact ih1 ..
        | exact ih2 ..
        | exact ih3 ..
        | exact Lw_awake.mono ..
        | exact Rf_Agreement.mono ..
        | exact Rf_Bias.mono ..
        | exact Rf_PairsErr.mono ..
        | exact L_AgreementOf.mono ..
        | exact L_BiasOf.mono ..
        | exact LeO.refl ..
        | exact LeO.none ..
        | refine LeO.ite ?_ ?_
        | refine LeO.bind ?_ (fun _ => ?_)
theorem Lw_TargetAgreement.mono : ∀ a0 a1 k, LeO (Lw_TargetAgreement.f k a0 a1) (Lw_TargetAgreement.f (k + 1) a0 a1) := by
  intro a0 a1 k
  obtain ⟨ih0, ih1, ih2, ih3⟩ := Lw_TargetAgreement.mono_l k
  unfold Lw_TargetAgreement.f
  repeat' with_reducible first
    | exact ih0 ..
    | exact ih1 ..
    | exact ih2 ..
    | exact ih3 ..
    | exact Lw_awake.mono ..
    | exact Rf_Agreement.mono ..
    | exact Rf_Bias.mono ..
    | exact Rf_PairsErr.mono ..
    | exact L_AgreementOf.mono ..
    | exact L_BiasOf.mono ..
    | exact LeO.refl ..
    | exact LeO.none ..
    | refine LeO.ite ?_ ?_
    | refine LeO.bind ?_ (fun _ => ?_)
def Lw_TargetAgreement.T8 : Bool × List (List Nat × List Nat) := (true, [([], []), ([0], [0]), ([1], [1]), ([2], [2]), ([2], [2]), ([3, 4, 2], [2, 3, 4]), ([5, 2, 2], [2, 5]), ([6], [6]), ([6], [6]), ([7, 8, 6], [6, 7, 8]), ([6, 9, 2], [2, 6, 9]), ([2, 10], [2, 10]), ([11, 6], [11]), ([12], [12]), ([13, 12], [12, 13]), ([14, 12, 12], [12, 14]), ([15], [15]), ([16, 15], [15, 16]), ([17, 15, 15], [15, 17]), ([18], [18]), ([18], [18]), ([20, 18, 18], [18, 20]), ([19, 21, 18], [18, 19, 21]), ([18, 22, 15], [15, 18, 22]), ([15, 23, 12], [12, 15, 23]), ([12, 24], [12, 24])])
def Lw_TargetAgreement.B8 : List Nat := [0, 1, 3, 7, 7, 31, 63, 127, 127, 511, 1023, 2047, 4095, 8191, 16383, 32767, 65535, 131071, 262143, 524287, 524287, 1572863, 4194303, 8388607, 16777215, 33554431]
theorem Lw_TargetAgreement.tab8 : rtab .any (opsOf Try.f9 8) = Lw_TargetAgreement.T8 := by kernel_rfl
theorem Lw_TargetAgreement.bits8 : waitsOk Lw_TargetAgreement.T8.2 Lw_TargetAgreement.B8 = true := by kernel_rfl
def Lw_TargetAgreement.T14 : Bool × List (List Nat × List Nat) := (true, [([], []), ([0], [0]), ([1], [1]), ([2], [2]), ([2], [2]), ([2], [2]), ([4, 5, 2, 2], [2, 4, 5]), ([3, 6, 2], [2, 3, 6]), ([2, 7], [2, 7]), ([8, 6], [8]), ([9], [9]), ([10, 9], [9, 10]), ([9], [9]), ([12, 9], [9, 12]), ([11, 13, 9], [9, 11, 13]), ([9], [9]), ([15, 9], [9, 15]), ([14, 16, 9], [9, 14, 16]), ([9], [9]), ([18, 9], [9, 18]), ([17, 19, 9], [9, 17, 19]), ([9, 20], [9, 20])])
def Lw_TargetAgreement.B14 : List Nat := [0, 1, 3, 7, 7, 7, 55, 127, 255, 511, 1023, 2047, 1023, 5119, 16383, 1023, 33791, 131071, 1023, 263167, 1048575, 2097151]
theorem Lw_TargetAgreement.tab14 : rtab .any (opsOf Try.f9 14) = Lw_TargetAgreement.T14 := by kernel_rfl
theorem Lw_TargetAgreement.bits14 : waitsOk Lw_TargetAgreement.T14.2 Lw_TargetAgreement.B14 = true := by kernel_rfl
theorem Lw_TargetAgreement.calls (k : Nat) (A0 : Option Addr) (c0 : Nat) (l0 : List (S165)) (a1 : Int) (r : Bool) (w : World) (hr0 : Kd.C k165 w A0 l0.length l0) (hc0 : l0.length ≤ c0) (h : Lw_TargetAgreement.f k l0 a1 = some r) :
    Calls Try.prog 9 #[.slice A0 l0.length c0, .int .i64 a1] w fun e w' => e = .returned (.bool r) ∧ Below w.heap.size w w' := by
  have hu44 := Try.underlying44
  have hu93 := Try.underlying93
  have hix44_0 : ∀ (g_ : Nat) (W_ : World), (Instr.indexAt 44 (.pointer (some ⟨g_, 0, none⟩)) (.int .i64 0)).run Try.prog W_ = .ok (.pointer (some ⟨g_, 0, none⟩)) W_ := fun _ _ => by kernel_rfl
  have hix44_1 : ∀ (g_ : Nat) (W_ : World), (Instr.indexAt 44 (.pointer (some ⟨g_, 0, none⟩)) (.int .i64 1)).run Try.prog W_ = .ok (.pointer (some ⟨g_, 1, none⟩)) W_ := fun _ _ => by kernel_rfl
  have hix44_2 : ∀ (g_ : Nat) (W_ : World), (Instr.indexAt 44 (.pointer (some ⟨g_, 0, none⟩)) (.int .i64 2)).run Try.prog W_ = .ok (.pointer (some ⟨g_, 2, none⟩)) W_ := fun _ _ => by kernel_rfl
  have HR0 := m0 hr0
  have HC0 := m0 hc0
  clear hr0 hc0
  have HB := m0 (Below.refl w.heap.size w)
  have H : ((Lw_awake.f k).bind fun t1258 => (if t1258 = true then (if (l0.length : Int) > 22 then (some true) else ((Rf_CopyPairs.f l0).bind fun t1259 => ((L_AgreementOf.f k t1259 a1).bind fun bt1262 => ((Rf_CopyPairs.f l0).bind fun t1267 => ((L_BiasOf.f k t1267).bind fun bt1270 => ((Rf_PairsErr.f k l0).bind fun t1276 => (if t1276 = 0 then (if bt1270.2.2.2.2 = 0 then ((Rf_Bias.f k l0).bind fun bt1277 => (Lw_TargetAgreement.j0 k l0 a1 bt1262.2.2.2 t1276 ((!(bt1270.1 == bt1277.1) || (!(bt1270.2.1 == bt1277.2.1))) || ((!(bt1270.2.2.1 == bt1277.2.2.1) || (!(bt1270.2.2.2.1 == bt1277.2.2.2))))) bt1262.1 bt1262.2.1 bt1262.2.2.1)) else (none)) else (if bt1270.2.2.2.2 = t1276 then (if ((!(bt1270.1 == 0) || (!(bt1270.2.1 == 0))) || ((!(bt1270.2.2.1 == 0) || (!(bt1270.2.2.2.1 == 0))))) = true then (none) else (Lw_TargetAgreement.j0 k l0 a1 bt1262.2.2.2 t1276 false bt1262.1 bt1262.2.1 bt1262.2.2.1)) else (none))))))))) else (none))) = some r := h
  clear h
  replace H := ob H
  obtain ⟨t1258, A3, H⟩ := H
  (try dsimp only at H)
  replace A3 := m0 A3
  by_cases c4 : t1258 = true
  · subst c4
    rw [if_pos rfl] at H
    by_cases c5 : (l0.length : Int) > 22
    · rw [if_pos c5] at H
      have c5b0 := decide_eq_true c5
      have c5b1 : decide (22 < l0.length) = true := decide_eq_true (by omega)
      clear c5
      obtain rfl := Option.some.inj H
      go_enter Try.func9, Try.ntmps9
      go_wp2_with (first | ((with_reducible refine gate_callee (f := 14) rfl ?_); refine gl (some 12) Try.func14 #[] ?_; (with_reducible refine (Lw_awake.calls k  true _ A3.out).mono ?_); rintro e w6 ⟨rfl, hb⟩; refine ⟨_, rfl, ?_⟩; replace HB := sb HB hb; (try clear hb)))
      go_ret
      exact ez
    · rw [if_neg c5] at H
      have c5b0 := decide_eq_false c5
      have c5b1 : decide (22 < l0.length) = false := decide_eq_false (by omega)
      clear c5
      replace H := ob H
      obtain ⟨t1259, A7, H⟩ := H
      (try dsimp only at H)
      replace A7 := m0 A7
      replace H := ob H
      obtain ⟨⟨t1262, t1263, t1264, t1265⟩, A8, H⟩ := H
      (try dsimp only at H)
      replace A8 := m0 A8
      replace H := ob H
      obtain ⟨t1267, A9, H⟩ := H
      (try dsimp only at H)
      replace A9 := m0 A9
      replace H := ob H
      obtain ⟨⟨t1270, t1271, t1272, t1273, t1274⟩, A10, H⟩ := H
      (try dsimp only at H)
      replace A10 := m0 A10
      replace H := ob H
      obtain ⟨t1276, A11, H⟩ := H
      (try dsimp only at H)
      replace A11 := m0 A11
      have HC12 := m0 H
      clear H
      go_enter Try.func9, Try.ntmps9
      go_upto_region 8 with (first | ((with_reducible refine gate_callee (f := 14) rfl ?_); refine gl (some 12) Try.func14 #[] ?_; (with_reducible refine (Lw_awake.calls k  true _ A3.out).mono ?_); rintro e w13 ⟨rfl, hb⟩; refine ⟨_, rfl, ?_⟩; replace HB := sb HB hb; (try clear hb)) | ((with_reducible refine gate_callee (f := 49) rfl ?_); refine gl (some 19) Try.func49 #[.slice A0 l0.length c0] ?_; (with_reducible refine (Rf_CopyPairs.calls _ _ l0 t1259 _ ?side1 ?side2 A7.out).mono ?_); (case side1 => exact cb HR0 HB); (case side2 => exact HC0.out); rintro e w14 ⟨v1260, rfl, ho0, hb⟩; refine ⟨_, rfl, ?_⟩; have HO1261 := m0 (Kd.R_lower ho0 (below_size bz)); replace HB := sb HB hb; (try clear hb); (try clear ho0); obtain ⟨Ao15, co15, eo15⟩ := Kd.R_slice HO1261.out; subst eo15) | ((with_reducible refine gate_callee (f := 48) rfl ?_); refine gl (some 21) Try.func48 #[.slice Ao15 t1259.length co15, .int .i64 a1] ?_; (with_reducible refine (L_AgreementOf.calls k _ _ t1259 a1 t1262 t1263 t1264 t1265 _ ?side1 ?side2 A8.out).mono ?_); (case side1 => exact bc (Kd.R_reads' HO1261.out).2.2); (case side2 => exact (Kd.R_reads' HO1261.out).2.1); rintro e w16 ⟨rfl, hb⟩; refine ⟨_, rfl, ?_⟩; replace HO1261 := rb HO1261 hb; replace HB := sb HB hb; (try clear hb)) | ((with_reducible refine gate_dst (N := 5) rfl ?_); (try (refine gate_guard (by rfl) ?_; dsimp only)); refine be 5 44 #[.int .i64 0, .int .i64 0, .int .i64 0] ?_; intro gb1266 hg w17 hbox hb; replace HO1261 := rb HO1261 hb; have BK1266 := m0 hbox; have GE1266 := gw w hg; replace HB := sb HB hb; clear hb hbox hg; obtain ⟨hcz18_0, hcz18_1, hcz18_2, hfz18_0, hfz18_1, hfz18_2⟩ := b3 BK1266) | ((with_reducible refine gate_callee (f := 49) rfl ?_); refine gl (some 26) Try.func49 #[.slice A0 l0.length c0] ?_; (with_reducible refine (Rf_CopyPairs.calls _ _ l0 t1267 _ ?side1 ?side2 A9.out).mono ?_); (case side1 => exact Kd.C_below HR0.out bz); (case side2 => exact HC0.out); rintro e w19 ⟨v1268, rfl, ho0, hb⟩; refine ⟨_, rfl, ?_⟩; have HO1269 := m0 (Kd.R_lower (Kd.R_new' ho0 (Kd.R_lt (by (with_reducible repeat (first | apply Kd.R_alloc | apply Kd.R_drewN | apply Kd.R_drew)); exact (Kd.R_mono (Kd.R_far (p := ⟨gb1266, 2, none⟩) (Kd.R_far (p := ⟨gb1266, 1, none⟩) (Kd.R_far (p := ⟨gb1266, 0, none⟩) (Kd.R_types HO1261.out BK1266.out (by decide)) (fun _ hk => hk.2) (.int .i64 t1262)) (fun _ hk => hk.2) (.int .i64 t1263)) (fun _ hk => hk.2) (.int .i64 t1264)) (fun _ h_ => h_.1))))) (below_size bz)); replace HO1261 := m0 (Kd.R_elder' (by (with_reducible repeat (first | apply Kd.R_alloc | apply Kd.R_drewN | apply Kd.R_drew)); exact (Kd.R_mono (Kd.R_far (p := ⟨gb1266, 2, none⟩) (Kd.R_far (p := ⟨gb1266, 1, none⟩) (Kd.R_far (p := ⟨gb1266, 0, none⟩) (Kd.R_types HO1261.out BK1266.out (by decide)) (fun _ hk => hk.2) (.int .i64 t1262)) (fun _ hk => hk.2) (.int .i64 t1263)) (fun _ hk => hk.2) (.int .i64 t1264)) (fun _ h_ => h_.1))) (Kd.R_base ho0) hb); replace BK1266 := m0 (blk_below (g := gb1266) (o := .cells #[.int .i64 t1262, .int .i64 t1263, .int .i64 t1264] 44 (0, 0)) (bq BK1266.out) hb); replace HB := sb HB hb; (try clear hb); (try clear ho0); obtain ⟨Ao20, co20, eo20⟩ := Kd.R_slice HO1269.out; subst eo20) | ((with_reducible refine gate_callee (f := 50) rfl ?_); refine gl (some 27) Try.func50 #[.slice Ao20 t1267.length co20] ?_; (with_reducible refine (L_BiasOf.calls k _ _ t1267 t1270 t1271 t1272 t1273 t1274 _ ?side1 ?side2 A10.out).mono ?_); (case side1 => exact bc (Kd.R_reads' HO1269.out).2.2); (case side2 => exact (Kd.R_reads' HO1269.out).2.1); rintro e w21 ⟨rfl, hb⟩; refine ⟨_, rfl, ?_⟩; replace HO1261 := rb HO1261 hb; replace HO1269 := rb HO1269 hb; replace BK1266 := bb BK1266 hb; replace HB := sb HB hb; (try clear hb)) | ((with_reducible refine gate_dst (N := 7) rfl ?_); (try (refine gate_guard (by rfl) ?_; dsimp only)); refine be 7 93 #[.int .i64 0, .int .i64 0, .int .i64 0, .int .i64 0] ?_; intro gb1275 hg w22 hbox hb; replace HO1261 := rb HO1261 hb; replace HO1269 := rb HO1269 hb; have BK1275 := m0 hbox; have GE1275 := gw w hg; replace HB := sb HB hb; have NB1266_1275 := nl BK1266 hg; have NB1275_1266 := ng (nl BK1266 hg); replace BK1266 := bb BK1266 hb; clear hb hbox hg; have hnb23 := NB1275_1266.out; have hnc23 := NB1266_1275.out; obtain ⟨hcz24_0, hcz24_1, hcz24_2, hcz24_3, hfz24_0, hfz24_1, hfz24_2, hfz24_3⟩ := b4 BK1275) | ((with_reducible refine gate_callee (f := 51) rfl ?_); refine gl (some 31) Try.func51 #[.slice A0 l0.length c0] ?_; (with_reducible refine (Rf_PairsErr.calls k _ _ l0 t1276 _ ?side1 ?side2 A11.out).mono ?_); (case side1 => exact Kd.C_below HR0.out bz); (case side2 => exact HC0.out); rintro e w25 ⟨rfl, hb⟩; refine ⟨_, rfl, ?_⟩; replace HO1261 := m0 (Kd.R_below (by (with_reducible repeat (first | apply Kd.R_alloc | apply Kd.R_drewN | apply Kd.R_drew)); exact (Kd.R_mono (Kd.R_far (p := ⟨gb1275, 3, none⟩) (Kd.R_far (p := ⟨gb1275, 2, none⟩) (Kd.R_far (p := ⟨gb1275, 1, none⟩) (Kd.R_far (p := ⟨gb1275, 0, none⟩) (Kd.R_types HO1261.out BK1275.out (by decide)) (fun _ hk => hk.2) (.int .i64 t1270)) (fun _ hk => hk.2) (.int .i64 t1271)) (fun _ hk => hk.2) (.int .i64 t1272)) (fun _ hk => hk.2) (.int .i64 t1273)) (fun _ h_ => h_.1))) hb); replace HO1269 := m0 (Kd.R_below (by (with_reducible repeat (first | apply Kd.R_alloc | apply Kd.R_drewN | apply Kd.R_drew)); exact (Kd.R_mono (Kd.R_far (p := ⟨gb1275, 3, none⟩) (Kd.R_far (p := ⟨gb1275, 2, none⟩) (Kd.R_far (p := ⟨gb1275, 1, none⟩) (Kd.R_far (p := ⟨gb1275, 0, none⟩) (Kd.R_types HO1269.out BK1275.out (by decide)) (fun _ hk => hk.2) (.int .i64 t1270)) (fun _ hk => hk.2) (.int .i64 t1271)) (fun _ hk => hk.2) (.int .i64 t1272)) (fun _ hk => hk.2) (.int .i64 t1273)) (fun _ h_ => h_.1))) hb); replace BK1266 := m0 (blk_below (g := gb1266) (o := .cells #[.int .i64 t1262, .int .i64 t1263, .int .i64 t1264] 44 (0, 0)) (bq BK1266.out) hb); replace BK1275 := m0 (blk_below (g := gb1275) (o := .cells #[.int .i64 t1270, .int .i64 t1271, .int .i64 t1272, .int .i64 t1273] 93 (0, 0)) (bq BK1275.out) hb); replace HB := sb HB hb; (try clear hb)))
      (try simp only [Act.put, List.setIfInBounds_toArray, List.set_cons_zero, List.set_cons_succ])
      go_cut [57] (fun v57 wc => ∃ (kq : Nat) (x57_11 : Bool), v57 = .bool x57_11 ∧ Aside0 (Lw_TargetAgreement.j0 kq l0 a1 t1265 t1276 x57_11 t1262 t1263 t1264 = some r) ∧ Aside0 (kq ≤ k) ∧ Aside0 (wc.heap[gb1266]? = some (.cells #[.int .i64 t1262, .int .i64 t1263, .int .i64 t1264] 44 (0, 0))) ∧ Aside0 (wc.heap[gb1275]? = some (.cells #[.int .i64 t1270, .int .i64 t1271, .int .i64 t1272, .int .i64 t1273] 93 (0, 0))) ∧ Aside0 (Below w.heap.size w wc))
      case first =>
        have H := HC12.out
        clear HC12
        by_cases c26 : t1276 = 0
        · rw [if_pos c26] at H
          have c26b0 := beq_iff_eq.mpr c26
          have c26b1 := bne_eq_false_iff_eq.mpr c26
          clear c26
          (first | rw [c26b0] | (simp only [i64_w, i32_w]; rw [c26b0]) | skip)
          by_cases c27 : t1274 = 0
          · rw [if_pos c27] at H
            have c27b0 := beq_iff_eq.mpr c27
            have c27b1 := bne_eq_false_iff_eq.mpr c27
            clear c27
            replace H := ob H
            obtain ⟨⟨t1277, t1278, t1279, t1280⟩, A28, H⟩ := H
            (try dsimp only at H)
            replace A28 := m0 A28
            have H' := m0 H
            clear H
            try go_wp2
            replace HO1261 := m0 (Kd.R_drew HO1261.out); replace HO1269 := m0 (Kd.R_drew HO1269.out); replace BK1266 := bd BK1266; replace BK1275 := bd BK1275; replace HB := sd HB
            refine start_ (n := 26) (S := fun w' => w'.cell? ⟨gb1275, 0, none⟩ = some (.int .i64 t1270) ∧ w'.cell? ⟨gb1275, 1, none⟩ = some (.int .i64 t1271) ∧ w'.cell? ⟨gb1275, 2, none⟩ = some (.int .i64 t1272) ∧ w'.cell? ⟨gb1275, 3, none⟩ = some (.int .i64 t1273)) (ds := []) #[false, false, false, false, false, false, false, false, false, false, false, false, false, false, false, false, false, false, false, false, false, false, false, false, false, false] (by kernel_rfl) rfl rfl cz (fun hH => ?_); refine with_tabW Lw_TargetAgreement.tab8 Lw_TargetAgreement.bits8 (fun HT_ HW_ => ?_)
            generalize w25.drew = w29 at HO1261 HO1269 BK1266 BK1275 HB hH ⊢
            refine pZ 0 (some 32) (bs 26 1) HT_ ?_
            refine pZ 1 (some 33) (bs 26 3) HT_ ?_
            refine pZ 2 (some 34) (bs 26 7) HT_ ?_
            refine pure_ (i := 3) (N := some 35) (v := undef) (a' := ?_) (bs 26 15) rfl rfl (any_of HT_.out (by kernel_rfl)) (fun _ _ _ h => h) (Or.inr ⟨by rfl, rfl⟩) ?_ ?_
            rotate_left
            · exact pz
            refine pure_ (i := 4) (N := some 36) (v := undef) (a' := ?_) (bs 26 31) rfl rfl (any_of HT_.out (by kernel_rfl)) (fun _ _ _ h => h) (Or.inr ⟨by rfl, rfl⟩) ?_ ?_
            rotate_left
            · exact pz
            refine pure_ (i := 5) (N := some 37) (v := undef) (a' := ?_) (bs 26 63) rfl rfl (any_of HT_.out (by kernel_rfl)) (fun _ _ _ h => h) (Or.inr ⟨by rfl, rfl⟩) ?_ ?_
            rotate_left
            · exact pz
            refine pure_ (i := 6) (N := some 38) (v := undef) (a' := ?_) (bs 26 127) rfl rfl (any_of HT_.out (by kernel_rfl)) (fun _ _ _ h => h) (Or.inr ⟨by rfl, rfl⟩) ?_ ?_
            rotate_left
            · exact pz
            refine pure_ (i := 7) (N := some 39) (v := undef) (a' := ?_) (bs 26 255) rfl rfl (any_of HT_.out (by kernel_rfl)) (fun _ _ _ h => h) (Or.inr ⟨by rfl, rfl⟩) ?_ ?_
            rotate_left
            · exact pz
            refine pure_ (i := 8) (N := some 40) (v := undef) (a' := ?_) (bs 26 511) rfl rfl (any_of HT_.out (by kernel_rfl)) (fun _ _ _ h => h) (Or.inr ⟨by rfl, rfl⟩) ?_ ?_
            rotate_left
            · exact pz
            refine pure_ (i := 9) (N := some 41) (v := undef) (a' := ?_) (bs 26 1023) rfl rfl (any_of HT_.out (by kernel_rfl)) (fun _ _ _ h => h) (Or.inr ⟨by rfl, rfl⟩) ?_ ?_
            rotate_left
            · exact pz
            refine pure_ (i := 10) (N := some 42) (v := undef) (a' := ?_) (bs 26 2047) rfl rfl (any_of HT_.out (by kernel_rfl)) (fun _ _ _ h => h) (Or.inr ⟨by rfl, rfl⟩) ?_ ?_
            rotate_left
            · exact pz
            refine pZ 11 (some 43) (bs 26 4095) HT_ ?_
            refine pZ 12 (some 44) (bs 26 8191) HT_ ?_
            refine pZ 13 (some 45) (bs 26 16383) HT_ ?_
            refine pZ 14 (some 46) (bs 26 32767) HT_ ?_
            refine pZ 15 (some 47) (bs 26 65535) HT_ ?_
            refine pZ 16 (some 48) (bs 26 131071) HT_ ?_
            refine pZ 17 (some 49) (bs 26 262143) HT_ ?_
            refine pZ 18 (some 50) (bs 26 524287) HT_ ?_
            refine pZ 20 (some 52) (bs 26 1572863) HT_ ?_
            refine takeZ 19 (some 51) (bs 26 2097151) (take_ofW HT_.out HW_.out (by kernel_rfl)) hH ?_
            refine oneZ 21 (some 53) (bs 26 4194303) (one_of HT_.out (by kernel_rfl)) fun K hK => ?_
            refine gz Try.func52 #[.slice A0 l0.length c0] ?_
            with_reducible refine (Rf_Bias.calls k _ _ l0 t1277 t1278 t1279 t1280 _ ?side1 ?side2 A28.out).mono ?_
            (case side1 => exact cb HR0 HB)
            (case side2 => exact HC0.out)
            rintro e w30 ⟨rfl, hb⟩
            refine ⟨_, rfl, ?_⟩
            replace HO1261 := rb HO1261 hb; replace HO1269 := rb HO1269 hb; replace BK1266 := bb BK1266 hb; replace BK1275 := bb BK1275 hb; replace HB := sb HB hb
            (try clear hb)
            refine hK.out _ _ cz (fun hH => ?_)
            clear hK K
            refine norm_ (a' := ?_) ?_ ?_
            rotate_left
            · show Act.put _ (some 53) _ = _
              exact pz
            refine pZ 22 (some 54) (bs 26 8388607) HT_ ?_
            refine pZ 23 (some 55) (bs 26 16777215) HT_ ?_
            refine pZ 24 (some 56) (bs 26 33554431) HT_ ?_
            refine pZ 25 (some 57) (bs 26 67108863) HT_ ?_
            refine done_ (done_of HT_.out (by kernel_rfl)) ?_
            try go_wp2
            go_meet
            case rel => exact ⟨_, (((!(t1270 == t1277) || (!(t1271 == t1278))) || ((!(t1272 == t1279) || (!(t1273 == t1280)))))), (by first | rfl | (simp; done) | (simp [*]; done)), H', ⟨by first | omega | exact Nat.le_refl _⟩, ⟨bk BK1266.out⟩, ⟨bk BK1275.out⟩, ⟨bz⟩⟩
          · rw [if_neg c27] at H
            have c27b0 := beq_eq_false_iff_ne.mpr c27
            have c27b1 := bne_iff_ne.mpr c27
            exact absurd H (by simp)
        · rw [if_neg c26] at H
          have c26b0 := beq_eq_false_iff_ne.mpr c26
          have c26b1 := bne_iff_ne.mpr c26
          (first | rw [c26b0] | (simp only [i64_w, i32_w]; rw [c26b0]) | skip)
          by_cases c31 : t1274 = t1276
          · rw [if_pos c31] at H
            have c31b0 := beq_iff_eq.mpr c31
            have c31b1 := bne_eq_false_iff_eq.mpr c31
            clear c31
            by_cases c32 : ((!(t1270 == 0) || (!(t1271 == 0))) || ((!(t1272 == 0) || (!(t1273 == 0))))) = true
            · rw [if_pos c32] at H
              have c32b0 : ((!(t1270 == 0) || (!(t1271 == 0))) || ((!(t1272 == 0) || (!(t1273 == 0))))) = true := c32
              clear c32
              exact absurd H (by simp)
            · rw [if_neg c32] at H
              have c32b0 : ((!(t1270 == 0) || (!(t1271 == 0))) || ((!(t1272 == 0) || (!(t1273 == 0))))) = false := by simpa using c32
              clear c32
              have H' := m0 H
              clear H
              try go_wp2
              replace HO1261 := m0 (Kd.R_drew HO1261.out); replace HO1269 := m0 (Kd.R_drew HO1269.out); replace BK1266 := bd BK1266; replace BK1275 := bd BK1275; replace HB := sd HB
              refine start_ (n := 26) (S := fun w' => w'.cell? ⟨gb1275, 0, none⟩ = some (.int .i64 t1270) ∧ w'.cell? ⟨gb1275, 1, none⟩ = some (.int .i64 t1271) ∧ w'.cell? ⟨gb1275, 2, none⟩ = some (.int .i64 t1272) ∧ w'.cell? ⟨gb1275, 3, none⟩ = some (.int .i64 t1273)) (ds := []) #[false, false, false, false, false, false, false, false, false, false, false, false, false, false, false, false, false, false, false, false, false, false, false, false, false, false] (by kernel_rfl) rfl rfl cz (fun hH => ?_); refine with_tabW Lw_TargetAgreement.tab8 Lw_TargetAgreement.bits8 (fun HT_ HW_ => ?_)
              generalize w25.drew = w33 at HO1261 HO1269 BK1266 BK1275 HB hH ⊢
              refine pZ 0 (some 32) (bs 26 1) HT_ ?_
              refine pZ 1 (some 33) (bs 26 3) HT_ ?_
              refine pZ 2 (some 34) (bs 26 7) HT_ ?_
              refine pZ 3 (some 35) (bs 26 15) HT_ ?_
              refine pZ 4 (some 36) (bs 26 31) HT_ ?_
              refine pZ 5 (some 37) (bs 26 63) HT_ ?_
              refine pZ 6 (some 38) (bs 26 127) HT_ ?_
              refine pZ 8 (some 40) (bs 26 383) HT_ ?_
              refine takeZ 7 (some 39) (bs 26 511) (take_ofW HT_.out HW_.out (by kernel_rfl)) hH ?_
              refine pZ 9 (some 41) (bs 26 1023) HT_ ?_
              refine pZ 10 (some 42) (bs 26 2047) HT_ ?_
              refine pZ 11 (some 43) (bs 26 4095) HT_ ?_
              refine pZ 12 (some 44) (bs 26 8191) HT_ ?_
              refine pZ 13 (some 45) (bs 26 16383) HT_ ?_
              refine pZ 14 (some 46) (bs 26 32767) HT_ ?_
              refine pZ 15 (some 47) (bs 26 65535) HT_ ?_
              refine pure_ (i := 16) (N := some 48) (v := undef) (a' := ?_) (bs 26 131071) rfl rfl (any_of HT_.out (by kernel_rfl)) (fun _ _ _ h => h) (Or.inr ⟨by rfl, rfl⟩) ?_ ?_
              rotate_left
              · exact pz
              refine pure_ (i := 17) (N := some 49) (v := undef) (a' := ?_) (bs 26 262143) rfl rfl (any_of HT_.out (by kernel_rfl)) (fun _ _ _ h => h) (Or.inr ⟨by rfl, rfl⟩) ?_ ?_
              rotate_left
              · exact pz
              refine pure_ (i := 18) (N := some 50) (v := undef) (a' := ?_) (bs 26 524287) rfl rfl (any_of HT_.out (by kernel_rfl)) (fun _ _ _ h => h) (Or.inr ⟨by rfl, rfl⟩) ?_ ?_
              rotate_left
              · exact pz
              refine pure_ (i := 19) (N := some 51) (v := undef) (a' := ?_) (bs 26 1048575) rfl rfl (any_of HT_.out (by kernel_rfl)) (fun _ _ _ h => h) (Or.inr ⟨by rfl, rfl⟩) ?_ ?_
              rotate_left
              · exact pz
              refine pure_ (i := 20) (N := some 52) (v := undef) (a' := ?_) (bs 26 2097151) rfl rfl (any_of HT_.out (by kernel_rfl)) (fun _ _ _ h => h) (Or.inr ⟨by rfl, rfl⟩) ?_ ?_
              rotate_left
              · exact pz
              refine pure_ (i := 21) (N := some 53) (v := undef) (a' := ?_) (bs 26 4194303) rfl rfl (any_of HT_.out (by kernel_rfl)) (fun _ _ _ h => h) (Or.inr ⟨by rfl, rfl⟩) ?_ ?_
              rotate_left
              · exact pz
              refine pure_ (i := 22) (N := some 54) (v := undef) (a' := ?_) (bs 26 8388607) rfl rfl (any_of HT_.out (by kernel_rfl)) (fun _ _ _ h => h) (Or.inr ⟨by rfl, rfl⟩) ?_ ?_
              rotate_left
              · exact pz
              refine pure_ (i := 23) (N := some 55) (v := undef) (a' := ?_) (bs 26 16777215) rfl rfl (any_of HT_.out (by kernel_rfl)) (fun _ _ _ h => h) (Or.inr ⟨by rfl, rfl⟩) ?_ ?_
              rotate_left
              · exact pz
              refine pZ 24 (some 56) (bs 26 33554431) HT_ ?_
              refine pZ 25 (some 57) (bs 26 67108863) HT_ ?_
              refine done_ (done_of HT_.out (by kernel_rfl)) ?_
              try go_wp2
              go_meet
              case rel => exact ⟨_, (false), (by first | rfl | (simp; done) | (simp [*]; done)), H', ⟨by first | omega | exact Nat.le_refl _⟩, ⟨bk BK1266.out⟩, ⟨bk BK1275.out⟩, ⟨bz⟩⟩
          · rw [if_neg c31] at H
            have c31b0 := beq_eq_false_iff_ne.mpr c31
            have c31b1 := bne_iff_ne.mpr c31
            exact absurd H (by simp)
      case rest =>
        clear HC12
        try clear hcz18_0
        try clear hcz18_1
        try clear hcz18_2
        try clear hcz24_0
        try clear hcz24_1
        try clear hcz24_2
        try clear hcz24_3
        try clear hfz18_0
        try clear hfz18_1
        try clear hfz18_2
        try clear hfz24_0
        try clear hfz24_1
        try clear hfz24_2
        try clear hfz24_3
        obtain ⟨kq, x57_11, rfl, HA, HJ11, BK1266, BK1275, HB⟩ := hcut
        cases kq with
        | zero => exact absurd HA.out (by simp [Lw_TargetAgreement.j0])
        | succ kj11 =>
          have H := HA.out
          clear HA
          simp only [Lw_TargetAgreement.j0] at H
          by_cases c34 : x57_11 = true
          · subst c34
            rw [if_pos rfl] at H
            exact absurd H (by simp)
          · replace c34 := Bool.eq_false_iff.mpr c34
            subst c34
            rw [if_neg (show ¬ (false = true) by decide)] at H
            have HC35 := m0 H
            clear H
            go_upto_region 10 with (fail)
            go_cut [64] (fun v64 wc => ∃ (kq : Nat) (x64_34 : Bool), v64 = .bool x64_34 ∧ Aside0 (Lw_TargetAgreement.j1 kq l0 a1 t1265 t1276 x64_34 t1262 t1263 t1264 = some r) ∧ Aside0 (kq ≤ kj11) ∧ Aside0 (wc.heap[gb1266]? = some (.cells #[.int .i64 t1262, .int .i64 t1263, .int .i64 t1264] 44 (0, 0))) ∧ Aside0 (wc.heap[gb1275]? = some (.cells #[.int .i64 t1270, .int .i64 t1271, .int .i64 t1272, .int .i64 t1273] 93 (0, 0))) ∧ Aside0 (Below w.heap.size w wc))
            case first =>
              have H := HC35.out
              clear HC35
              by_cases c36 : t1276 = 0
              · rw [if_pos c36] at H
                have c36b0 := beq_iff_eq.mpr c36
                have c36b1 := bne_eq_false_iff_eq.mpr c36
                clear c36
                (first | rw [c36b0] | (simp only [i64_w, i32_w]; rw [c36b0]) | skip)
                replace H := ob H
                obtain ⟨t1281, A37, H⟩ := H
                (try dsimp only at H)
                replace A37 := m0 A37
                have H' := m0 H
                clear H
                go_wp2_with (first | (go_at_call 24; (with_reducible refine (Bs_Within.calls a1 0 10000 t1281 _ A37.out).mono ?_); rintro e w' ⟨rfl, ⟨nd, rfl⟩⟩))
                go_meet
                case rel => exact ⟨_, (!t1281), (by first | rfl | (simp; done) | (simp [*]; done)), H', ⟨by have := HJ11.out; first | omega | exact Nat.le_refl _⟩, ⟨bk BK1266.out⟩, ⟨bk BK1275.out⟩, ⟨bz⟩⟩
              · rw [if_neg c36] at H
                have c36b0 := beq_eq_false_iff_ne.mpr c36
                have c36b1 := bne_iff_ne.mpr c36
                (first | rw [c36b0] | (simp only [i64_w, i32_w]; rw [c36b0]) | skip)
                have H' := m0 H
                clear H
                go_wp2
                go_meet
                case rel => exact ⟨_, (false), (by first | rfl | (simp; done) | (simp [*]; done)), H', ⟨by have := HJ11.out; first | omega | exact Nat.le_refl _⟩, ⟨bk BK1266.out⟩, ⟨bk BK1275.out⟩, ⟨bz⟩⟩
            case rest =>
              clear HC35
              try clear hcz18_0
              try clear hcz18_1
              try clear hcz18_2
              try clear hcz24_0
              try clear hcz24_1
              try clear hcz24_2
              try clear hcz24_3
              try clear hfz18_0
              try clear hfz18_1
              try clear hfz18_2
              try clear hfz24_0
              try clear hfz24_1
              try clear hfz24_2
              try clear hfz24_3
              obtain ⟨kq, x64_34, rfl, HA, HJ34, BK1266, BK1275, HB⟩ := hcut
              cases kq with
              | zero => exact absurd HA.out (by simp [Lw_TargetAgreement.j1])
              | succ kj34 =>
                have H := HA.out
                clear HA
                simp only [Lw_TargetAgreement.j1] at H
                have HC38 := m0 H
                clear H
                go_upto_if 64 with (fail)
                go_cut [9] (fun v9 wc => ∃ (kq : Nat) (x9_37 : Int), v9 = .int .i64 x9_37 ∧ Aside0 (Lw_TargetAgreement.j2 kq l0 a1 t1265 x9_37 t1262 t1263 t1264 = some r) ∧ Aside0 (kq ≤ kj34) ∧ Aside0 (wc.heap[gb1266]? = some (.cells #[.int .i64 t1262, .int .i64 t1263, .int .i64 t1264] 44 (0, 0))) ∧ Aside0 (wc.heap[gb1275]? = some (.cells #[.int .i64 t1270, .int .i64 t1271, .int .i64 t1272, .int .i64 t1273] 93 (0, 0))) ∧ Aside0 (Below w.heap.size w wc))
                case first =>
                  have H := HC38.out
                  clear HC38
                  by_cases c39 : x64_34 = true
                  · subst c39
                    rw [if_pos rfl] at H
                    have H' := m0 H
                    clear H
                    go_wp2
                    go_meet
                    case rel => exact ⟨_, (2), (by first | rfl | (simp; done) | (simp [*]; done)), H', ⟨by have := HJ11.out; have := HJ34.out; first | omega | exact Nat.le_refl _⟩, ⟨bk BK1266.out⟩, ⟨bk BK1275.out⟩, ⟨bz⟩⟩
                  · replace c39 := Bool.eq_false_iff.mpr c39
                    subst c39
                    rw [if_neg (show ¬ (false = true) by decide)] at H
                    have H' := m0 H
                    clear H
                    go_wp2
                    go_meet
                    case rel => exact ⟨_, (t1276), (by first | rfl | (simp; done) | (simp [*]; done)), H', ⟨by have := HJ11.out; have := HJ34.out; first | omega | exact Nat.le_refl _⟩, ⟨bk BK1266.out⟩, ⟨bk BK1275.out⟩, ⟨bz⟩⟩
                case rest =>
                  clear HC38
                  try clear hcz18_0
                  try clear hcz18_1
                  try clear hcz18_2
                  try clear hcz24_0
                  try clear hcz24_1
                  try clear hcz24_2
                  try clear hcz24_3
                  try clear hfz18_0
                  try clear hfz18_1
                  try clear hfz18_2
                  try clear hfz24_0
                  try clear hfz24_1
                  try clear hfz24_2
                  try clear hfz24_3
                  obtain ⟨kq, x9_37, rfl, HA, HJ37, BK1266, BK1275, HB⟩ := hcut
                  cases kq with
                  | zero => exact absurd HA.out (by simp [Lw_TargetAgreement.j2])
                  | succ kj37 =>
                    have H := HA.out
                    clear HA
                    simp only [Lw_TargetAgreement.j2] at H
                    by_cases c40 : x9_37 = 0
                    · rw [if_pos c40] at H
                      have c40b0 := beq_iff_eq.mpr c40
                      have c40b1 := bne_eq_false_iff_eq.mpr c40
                      clear c40
                      have HC41 := m0 H
                      clear H
                      go_upto_region 14 with (fail)
                      go_cut [96] (fun v96 wc => ∃ (kq : Nat) (x96_40 : Bool), v96 = .bool x96_40 ∧ Aside0 (Lw_TargetAgreement.j3 kq l0 a1 x96_40 t1262 t1263 t1264 = some r) ∧ Aside0 (kq ≤ kj37) ∧ Aside0 (wc.heap[gb1266]? = some (.cells #[.int .i64 t1262, .int .i64 t1263, .int .i64 t1264] 44 (0, 0))) ∧ Aside0 (wc.heap[gb1275]? = some (.cells #[.int .i64 t1270, .int .i64 t1271, .int .i64 t1272, .int .i64 t1273] 93 (0, 0))) ∧ Aside0 (Below w.heap.size w wc))
                      case first =>
                        have H := HC41.out
                        clear HC41
                        by_cases c42 : t1265 = 0
                        · rw [if_pos c42] at H
                          have c42b0 := beq_iff_eq.mpr c42
                          have c42b1 := bne_eq_false_iff_eq.mpr c42
                          clear c42
                          (first | rw [c42b0] | (simp only [i64_w, i32_w]; rw [c42b0]) | skip)
                          replace H := ob H
                          obtain ⟨⟨t1282, t1283, t1284⟩, A43, H⟩ := H
                          (try dsimp only at H)
                          replace A43 := m0 A43
                          by_cases c44 : (!(t1262 == t1282) || (!(t1263 == t1283) || (!(t1264 == t1284)))) = true
                          · rw [if_pos c44] at H
                            have c44b0 : (!(t1262 == t1282) || (!(t1263 == t1283) || (!(t1264 == t1284)))) = true := c44
                            clear c44
                            exact absurd H (by simp)
                          · rw [if_neg c44] at H
                            have c44b0 : (!(t1262 == t1282) || (!(t1263 == t1283) || (!(t1264 == t1284)))) = false := by simpa using c44
                            clear c44
                            have H' := m0 H
                            clear H
                            try go_wp2
                            replace BK1266 := bd BK1266; replace BK1275 := bd BK1275; replace HB := sd HB
                            refine start_ (n := 22) (S := fun w' => w'.cell? ⟨gb1266, 0, none⟩ = some (.int .i64 t1262) ∧ w'.cell? ⟨gb1266, 1, none⟩ = some (.int .i64 t1263) ∧ w'.cell? ⟨gb1266, 2, none⟩ = some (.int .i64 t1264)) (ds := []) #[false, false, false, false, false, false, false, false, false, false, false, false, false, false, false, false, false, false, false, false, false, false] (by kernel_rfl) rfl rfl cz (fun hH => ?_); refine with_tabW Lw_TargetAgreement.tab14 Lw_TargetAgreement.bits14 (fun HT_ HW_ => ?_)
                            generalize wc.drew = w45 at BK1266 BK1275 HB hH ⊢
                            refine pZ 0 (some 75) (bs 22 1) HT_ ?_
                            refine pZ 1 (some 76) (bs 22 3) HT_ ?_
                            refine pZ 2 (some 77) (bs 22 7) HT_ ?_
                            refine pZ 4 (some 79) (bs 22 23) HT_ ?_
                            refine pZ 5 (some 80) (bs 22 55) HT_ ?_
                            refine takeZ 3 (some 78) (bs 22 63) (take_ofW HT_.out HW_.out (by kernel_rfl)) hH ?_
                            refine oneZ 6 (some 81) (bs 22 127) (one_of HT_.out (by kernel_rfl)) fun K hK => ?_
                            refine gz Try.func53 #[.slice A0 l0.length c0, .int .i64 a1] ?_
                            with_reducible refine (Rf_Agreement.calls kj37 _ _ l0 a1 t1282 t1283 t1284 _ ?side1 ?side2 A43.out).mono ?_
                            (case side1 => exact cb HR0 HB)
                            (case side2 => exact HC0.out)
                            rintro e w46 ⟨rfl, hb⟩
                            refine ⟨_, rfl, ?_⟩
                            replace BK1266 := bb BK1266 hb; replace BK1275 := bb BK1275 hb; replace HB := sb HB hb
                            (try clear hb)
                            refine hK.out _ _ cz (fun hH => ?_)
                            clear hK K
                            refine norm_ (a' := ?_) ?_ ?_
                            rotate_left
                            · show Act.put _ (some 81) _ = _
                              exact pz
                            refine pZ 7 (some 82) (bs 22 255) HT_ ?_
                            refine pZ 8 (some 83) (bs 22 511) HT_ ?_
                            refine pZ 9 (some 84) (bs 22 1023) HT_ ?_
                            refine pZ 10 (some 85) (bs 22 2047) HT_ ?_
                            refine pZ 12 (some 87) (bs 22 6143) HT_ ?_
                            refine pZ 15 (some 90) (bs 22 38911) HT_ ?_
                            refine pZ 18 (some 93) (bs 22 301055) HT_ ?_
                            refine pZ 19 (some 94) (bs 22 825343) HT_ ?_
                            refine takeZ 11 (some 86) (bs 22 827391) (take_ofW HT_.out HW_.out (by kernel_rfl)) hH ?_
                            refine takeZ 13 (some 88) (bs 22 835583) (take_ofW HT_.out HW_.out (by kernel_rfl)) hH ?_
                            refine pZ 14 (some 89) (bs 22 851967) HT_ ?_
                            refine takeZ 16 (some 91) (bs 22 917503) (take_ofW HT_.out HW_.out (by kernel_rfl)) hH ?_
                            refine pZ 17 (some 92) (bs 22 1048575) HT_ ?_
                            refine pZ 20 (some 95) (bs 22 2097151) HT_ ?_
                            refine pZ 21 (some 96) (bs 22 4194303) HT_ ?_
                            refine done_ (done_of HT_.out (by kernel_rfl)) ?_
                            try go_wp2
                            go_meet
                            case rel => exact ⟨_, (((wrap64 ((wrap64 (t1262 + t1263)) + t1264)) != (l0.length : Int))), (by first | rfl | (simp; done) | (simp [*]; done)), H', ⟨by have := HJ11.out; have := HJ34.out; have := HJ37.out; first | omega | exact Nat.le_refl _⟩, ⟨bk BK1266.out⟩, ⟨bk BK1275.out⟩, ⟨bz⟩⟩
                        · rw [if_neg c42] at H
                          have c42b0 := beq_eq_false_iff_ne.mpr c42
                          have c42b1 := bne_iff_ne.mpr c42
                          (first | rw [c42b0] | (simp only [i64_w, i32_w]; rw [c42b0]) | skip)
                          exact absurd H (by simp)
                      case rest =>
                        clear HC41
                        try clear hcz18_0
                        try clear hcz18_1
                        try clear hcz18_2
                        try clear hcz24_0
                        try clear hcz24_1
                        try clear hcz24_2
                        try clear hcz24_3
                        try clear hfz18_0
                        try clear hfz18_1
                        try clear hfz18_2
                        try clear hfz24_0
                        try clear hfz24_1
                        try clear hfz24_2
                        try clear hfz24_3
                        obtain ⟨kq, x96_40, rfl, HA, HJ40, BK1266, BK1275, HB⟩ := hcut
                        cases kq with
                        | zero => exact absurd HA.out (by simp [Lw_TargetAgreement.j3])
                        | succ kj40 =>
                          have H := HA.out
                          clear HA
                          simp only [Lw_TargetAgreement.j3] at H
                          by_cases c47 : x96_40 = true
                          · subst c47
                            rw [if_pos rfl] at H
                            exact absurd H (by simp)
                          · replace c47 := Bool.eq_false_iff.mpr c47
                            subst c47
                            rw [if_neg (show ¬ (false = true) by decide)] at H
                            replace H := ob H
                            obtain ⟨t1285, A48, H⟩ := H
                            (try dsimp only at H)
                            replace A48 := m0 A48
                            obtain ⟨ji49, hji49⟩ : ∃ j_ : Int, (mn 10000 (wrap64 (a1 + 1))) = j_ := ⟨_, rfl⟩
                            replace H : ((L_AgreementOf.f kj40 t1285 (ji49)).bind fun bt1288 => (if bt1288.2.2.2 = 0 then (if bt1288.2.2.1 ≥ t1264 then (some (decide (bt1288.1 ≤ t1262))) else (none)) else (none))) = some r := by first | (rw [hji49] at H; exact H) | (simp only [hji49] at H ⊢; exact H)
                            (try rw [hji49] at A48)
                            have hji49_ : (if (wrap64 (a1 + 1)) < 10000 then (wrap64 (a1 + 1)) else 10000) = ji49 := hji49
                            replace H := ob H
                            obtain ⟨⟨t1288, t1289, t1290, t1291⟩, A50, H⟩ := H
                            (try dsimp only at H)
                            replace A50 := m0 A50
                            by_cases c51 : t1291 = 0
                            · rw [if_pos c51] at H
                              have c51b0 := beq_iff_eq.mpr c51
                              have c51b1 := bne_eq_false_iff_eq.mpr c51
                              clear c51
                              by_cases c52 : t1290 ≥ t1264
                              · rw [if_pos c52] at H
                                have c52b0 := decide_eq_true c52
                                clear c52
                                obtain rfl := Option.some.inj H
                                go_wp2_with (first | ((with_reducible refine gate_callee (f := 49) rfl ?_); refine gl (some 99) Try.func49 #[.slice A0 l0.length c0] ?_; (with_reducible refine (Rf_CopyPairs.calls _ _ l0 t1285 _ ?side1 ?side2 A48.out).mono ?_); (case side1 => exact cb HR0 HB); (case side2 => exact HC0.out); rintro e w53 ⟨v1286, rfl, ho0, hb⟩; refine ⟨_, rfl, ?_⟩; have HO1287 := m0 (Kd.R_lower ho0 (below_size bz)); replace BK1266 := bb BK1266 hb; replace BK1275 := bb BK1275 hb; replace HB := sb HB hb; (try clear hb); (try clear ho0); obtain ⟨Ao54, co54, eo54⟩ := Kd.R_slice HO1287.out; subst eo54) | ((with_reducible refine gate_callee (f := 48) rfl ?_); refine goesL_ (some 103) rfl rfl Try.func48 (by kernel_rfl) rfl #[.slice Ao54 t1285.length co54, .int .i64 ji49] rfl (by (try simp only [List.map_toArray, List.map_cons, List.map_nil]); first | done | (simp only [hji49]; rfl) | rfl | (simp only [List.length_drop, List.length_take]; rfl)) ?_; (with_reducible refine (L_AgreementOf.calls kj40 _ _ t1285 ji49 t1288 t1289 t1290 t1291 _ ?side1 ?side2 A50.out).mono ?_); (case side1 => exact bc (Kd.R_reads' HO1287.out).2.2); (case side2 => exact (Kd.R_reads' HO1287.out).2.1); rintro e w55 ⟨rfl, hb⟩; refine ⟨_, rfl, ?_⟩; replace HO1287 := rb HO1287 hb; replace BK1266 := bb BK1266 hb; replace BK1275 := bb BK1275 hb; replace HB := sb HB hb; (try clear hb)) | ((with_reducible refine gate_dst (N := 10) rfl ?_); (try (refine gate_guard (by rfl) ?_; dsimp only)); refine be 10 44 #[.int .i64 0, .int .i64 0, .int .i64 0] ?_; intro gb1292 hg w56 hbox hb; replace HO1287 := rb HO1287 hb; have BK1292 := m0 hbox; have GE1292 := gw w hg; replace HB := sb HB hb; have NB1266_1292 := nl BK1266 hg; have NB1292_1266 := ng (nl BK1266 hg); replace BK1266 := bb BK1266 hb; have NB1275_1292 := nl BK1275 hg; have NB1292_1275 := ng (nl BK1275 hg); replace BK1275 := bb BK1275 hb; clear hb hbox hg; have hnb57 := NB1292_1266.out; have hnc57 := NB1266_1292.out; have hnb58 := NB1292_1275.out; have hnc58 := NB1275_1292.out; obtain ⟨_, _, _, _, _, _⟩ := b3 BK1292; have hnb60 := NB1266_1275.out; have hnc60 := NB1275_1266.out; obtain ⟨_, _, _, _, _, _⟩ := b3 BK1266))
                                go_ret
                                exact ⟨by first | rfl | (simp [errW_none, errW_some] <;> rfl) | (simp only [← hji49]; first | rfl | (simp [errW_none, errW_some] <;> rfl)) | (simp [*, errW_none, errW_some] <;> rfl), by repeat (first | (with_reducible first | exact HB.out | apply below_alloc | apply pw_below_drewN | apply below_drew1 | refine below_set ?_ GE1266.out | refine below_set ?_ GE1275.out | refine below_set ?_ GE1292.out) | exact HB.out)⟩
                              · rw [if_neg c52] at H
                                exact absurd H (by simp)
                            · rw [if_neg c51] at H
                              exact absurd H (by simp)
                    · rw [if_neg c40] at H
                      have c40b0 := beq_eq_false_iff_ne.mpr c40
                      have c40b1 := bne_iff_ne.mpr c40
                      by_cases c62 : t1265 = x9_37
                      · rw [if_pos c62] at H
                        have c62b0 := beq_iff_eq.mpr c62
                        have c62b1 := bne_eq_false_iff_eq.mpr c62
                        clear c62
                        obtain rfl := Option.some.inj H
                        have hnb63 := NB1266_1275.out
                        have hnc63 := NB1275_1266.out
                        obtain ⟨_, _, _, _, _, _⟩ := b3 BK1266
                        go_wp2
                        go_ret
                        exact ez
                      · rw [if_neg c62] at H
                        exact absurd H (by simp)
  · replace c4 := Bool.eq_false_iff.mpr c4
    subst c4
    rw [if_neg (show ¬ (false = true) by decide)] at H
    exact absurd H (by simp)
end
end Go.Proofs.Ytibhfahbabgbaaa.A
