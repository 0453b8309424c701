/- Walks of the program's functions (printed, made shorter), each with what it computes. -/
import Derived.Test.YtibhfahbabgbaaaB05
import Derived.Test.YtibhfahbabgbaaaB04
import Derived.Test.YtibhfahbabgbaaaB10
namespace Go.Proofs.Ytibhfahbabgbaaa.A
set_option maxHeartbeats 8000000
set_option maxRecDepth 100000
open Go.RowKit Go.Proofs.YtibhfahbabgbaaaW.PrintWords Go.Proofs.YtibhfahbabgbaaaW.PrintLast Go.Proofs.YtibhfahbabgbaaaW.PrintMore
attribute [local go_sem] max2_int min2_int max_two min_two max_three min_three max_four min_four
set_option linter.unusedVariables false
set_option linter.unusedSimpArgs false
section
theorem eqA73 (d : Nat) (w : World) (x0 y0 : Int) (x1 y1 : Int) :
  (Op.equalIn (d + 2) 73 (.agg #[.int .i64 x0, .int .i64 x1]) (.agg #[.int .i64 y0, .int .i64 y1])).run Try.prog w = .ok (x0 == y0 && (x1 == y1)) w := by
 refine eqA_of Try.underlying73 (by kernel_rfl) ?_
 refine eqf_cons (by rfl) (by go_simp; rfl) (by go_simp; rfl) (by go_simp) ?_
 exact eqf_last (by rfl) (by go_simp; rfl) (by go_simp; rfl) (by go_simp)
end
section
def Bs_Within.f (a0 : Int) (a1 : Int) (a2 : Int) : Option (Bool) := if a1 ≤ a0 then (some (decide (a0 ≤ a2))) else (some false)
theorem Bs_Within.calls (a0 : Int) (a1 : Int) (a2 : Int) (r : Bool) (w : World) (h : Bs_Within.f a0 a1 a2 = some r) :
  Calls Try.prog 24 #[.int .i64 a0, .int .i64 a1, .int .i64 a2] w fun e w' => e = .returned (.bool r) ∧ Drawn0 w w' := by
 have H : (if a1 ≤ a0 then (some (decide (a0 ≤ a2))) else (some false)) = some r := h
 clear h
 by_cases c4 : a1 ≤ a0
 ·rw [if_pos c4] at H
  have c4b0 := decide_eq_true c4
  clear c4
  obtain rfl := Option.some.inj H
  go_enter Try.func24, Try.ntmps24
  go_wp2
  go_ret
  exact ⟨by first | rfl | (simp; done) | (simp [*]; done), by repeat (first | exact Drawn0.refl _ | apply Drawn0.step)⟩
 ·rw [if_neg c4] at H
  have c4b0 := decide_eq_false c4
  clear c4
  obtain rfl := Option.some.inj H
  go_enter Try.func24, Try.ntmps24
  go_wp2
  go_ret
  exact ⟨by first | rfl | (simp; done) | (simp [*]; done), by repeat (first | exact Drawn0.refl _ | apply Drawn0.step)⟩
end
section
def Bs_Size.f (a0 : Int) : Option (Int) := some (mx a0 (wrap64 (-a0)))
theorem Bs_Size.calls (a0 : Int) (r : Int) (w : World) (h : Bs_Size.f a0 = some r) :
  Calls Try.prog 110 #[.int .i64 a0] w fun e w' => e = .returned (.int .i64 r) ∧ Below w.heap.size w w' := by
 have HB := m0 (Below.refl w.heap.size w)
 have H : (some (mx a0 (wrap64 (-a0)))) = some r := h
 clear h
 obtain ⟨ji2, hji2⟩ : ∃ j_ : Int, (mx a0 (wrap64 (-a0))) = j_ := ⟨_, rfl⟩
 replace H : (some ji2) = some r := by first | (rw [hji2] at H; exact H) | (simp only [hji2] at H ⊢; exact H)
 have hji2_ : (if a0 < (wrap64 (-a0)) then (wrap64 (-a0)) else a0) = ji2 := hji2
 obtain rfl := Option.some.inj H
 go_enter Try.func110, Try.ntmps110
 go_wp2
 go_ret
 exact ⟨by first | rfl | (simp [errW_none, errW_some] <;> rfl) | (simp only [← hji2]; first | rfl | (simp [errW_none, errW_some] <;> rfl)) | (simp [*, errW_none, errW_some] <;> rfl), by repeat (first | (with_reducible first | exact HB.out | apply below_alloc | apply pw_below_drewN | apply below_drew1) | exact HB.out)⟩
end
section
def Bs_Gcd.l0 : Nat → Int → Int → Option (Int)
 | 0, _, _ => none
 | k + 1, x0, x1 => if x1 = 0 then ((Bs_Size.f x0).bind fun t567 => (some t567)) else (Bs_Gcd.l0 k x1 (Int.tmod x0 x1))
def Bs_Gcd.f (k : Nat) (a0 : Int) (a1 : Int) : Option (Int) := Bs_Gcd.l0 k a0 a1
theorem Bs_Gcd.mono_l : ∀ k, (∀ y0 y1, LeO (Bs_Gcd.l0 k y0 y1) (Bs_Gcd.l0 (k + 1) y0 y1))
 | 0 => fun _ _ r h => by simp [Bs_Gcd.l0] at h
 | k + 1 => by
  have ih0 := Bs_Gcd.mono_l k
  ·intro y0 y1
   unfold Bs_Gcd.l0
   repeat' with_reducible first
    | exact ih0 ..
    | exact LeO.refl ..
    | exact LeO.none ..
    | refine LeO.ite ?_ ?_
    | refine LeO.bind ?_ (fun _ => ?_)
theorem Bs_Gcd.mono : ∀ a0 a1 k, LeO (Bs_Gcd.f k a0 a1) (Bs_Gcd.f (k + 1) a0 a1) := by
 intro a0 a1 k
 have ih0 := Bs_Gcd.mono_l k
 unfold Bs_Gcd.f
 repeat' with_reducible first
  | exact ih0 ..
  | exact LeO.refl ..
  | exact LeO.none ..
  | refine LeO.ite ?_ ?_
  | refine LeO.bind ?_ (fun _ => ?_)
theorem Bs_Gcd.calls (k : Nat) (a0 : Int) (a1 : Int) (r : Int) (w : World) (h : Bs_Gcd.f k a0 a1 = some r) :
  Calls Try.prog 93 #[.int .i64 a0, .int .i64 a1] w fun e w' => e = .returned (.int .i64 r) ∧ Below w.heap.size w w' := by
 have HB := m0 (Below.refl w.heap.size w)
 have H : (Bs_Gcd.l0 k a0 a1) = some r := h
 clear h
 have H' := m0 H
 clear H
 go_enter Try.func93, Try.ntmps93
 go_wp2
 repeat (go_quiet (fail); try go_wp2)
 go_loopg [0, 1] k (fun kq v0 v1 w' => ∃ (x0_1 : Int) (x1_1 : Int), v0 = .int .i64 x0_1 ∧ v1 = .int .i64 x1_1 ∧ Aside0 (Bs_Gcd.l0 kq x0_1 x1_1 = some r) ∧ Aside0 (kq ≤ k) ∧ Aside0 (Below w.heap.size w w'))
 case atStart => exact ⟨(a0), (a1), (by first | rfl | (simp; done) | (simp [*]; done)), (by first | rfl | (simp; done) | (simp [*]; done)), H', ⟨Nat.le_refl _⟩, ⟨bz⟩⟩
 case round =>
  clear H'
  obtain ⟨x0_1, x1_1, rfl, rfl, HA, HK1, HB⟩ := hrel
  cases gk with
  | zero => exact absurd HA.out (by simp [Bs_Gcd.l0])
  | succ k1 =>
   have H := HA.out
   clear HA
   simp only [Bs_Gcd.l0] at H
   by_cases c3 : x1_1 = 0
   ·rw [if_pos c3] at H
    have c3b0 := beq_iff_eq.mpr c3
    have c3b1 := bne_eq_false_iff_eq.mpr c3
    clear c3
    replace H := ob H
    obtain ⟨t567, A4, H⟩ := H
    (try dsimp only at H)
    replace A4 := m0 A4
    obtain rfl := Option.some.inj H
    go_wp2_with (first | (go_at_call 110; (with_reducible refine (Bs_Size.calls x0_1 t567 _ A4.out).mono ?_); rintro e w5 ⟨rfl, hb⟩; replace HB := sb HB hb; (try clear hb)))
    repeat (go_quiet (first | (go_at_call 110; (with_reducible refine (Bs_Size.calls x0_1 t567 _ A4.out).mono ?_); rintro e w5 ⟨rfl, hb⟩; replace HB := sb HB hb; (try clear hb))); try go_wp2_with (first | (go_at_call 110; (with_reducible refine (Bs_Size.calls x0_1 t567 _ A4.out).mono ?_); rintro e w5 ⟨rfl, hb⟩; replace HB := sb HB hb; (try clear hb))))
    go_ret
    exact ez
   ·rw [if_neg c3] at H
    have c3b0 := beq_eq_false_iff_ne.mpr c3
    have c3b1 := bne_iff_ne.mpr c3
    have H' := m0 H
    clear H
    go_wp2
    repeat (go_quiet (fail); try go_wp2)
    go_roundg k1
    case measure => have := HK1.out; omega
    case rel => exact ⟨(x1_1), (Int.tmod x0_1 x1_1), (by first | rfl | (simp; done) | (simp [*]; done)), (by first | rfl | (simp; done) | (simp [*]; done)), H', ⟨by have := HK1.out; omega⟩, ⟨bz⟩⟩
end
section
def Rf_LineErr.j0 : Nat → Bool → Int → Int → Int → Option (Int)
 | 0, _, _, _, _ => none
 | k + 1, x18, x569000, x569001, x569002 => if x18 = true then (some 2) else ((Bs_Gcd.f k x569000 x569001).bind fun t572 => ((Bs_Gcd.f k x569002 t572).bind fun t573 => (if t573 = 1 then (some 0) else (some 3))))
def Rf_LineErr.f (k : Nat) (a0_0 : Int) (a0_1 : Int) (a0_2 : Int) : Option (Int) := (Bs_Within.f a0_2 1 1000000000).bind fun t569 => (if t569 = true then ((Bs_Within.f a0_0 (-1000000000) 1000000000).bind fun t570 => (if t570 = true then ((Bs_Within.f a0_1 (-1000000000000) 1000000000000).bind fun t571 => (Rf_LineErr.j0 k (!t571) a0_0 a0_1 a0_2)) else (Rf_LineErr.j0 k true a0_0 a0_1 a0_2))) else (Rf_LineErr.j0 k true a0_0 a0_1 a0_2))
theorem Rf_LineErr.mono_l : ∀ k, (∀ y0 y1 y2 y3, LeO (Rf_LineErr.j0 k y0 y1 y2 y3) (Rf_LineErr.j0 (k + 1) y0 y1 y2 y3))
 | 0 => fun _ _ _ _ r h => by simp [Rf_LineErr.j0] at h
 | k + 1 => by
  have ih0 := Rf_LineErr.mono_l k
  ·intro y0 y1 y2 y3
   unfold Rf_LineErr.j0
   repeat' with_reducible first
    | exact ih0 ..
    | exact Bs_Gcd.mono ..
    | exact LeO.refl ..
    | exact LeO.none ..
    | refine LeO.ite ?_ ?_
    | refine LeO.bind ?_ (fun _ => ?_)
theorem Rf_LineErr.mono : ∀ a0 a1 a2 k, LeO (Rf_LineErr.f k a0 a1 a2) (Rf_LineErr.f (k + 1) a0 a1 a2) := by
 intro a0 a1 a2 k
 have ih0 := Rf_LineErr.mono_l k
 unfold Rf_LineErr.f
 repeat' with_reducible first
  | exact ih0 ..
  | exact Bs_Gcd.mono ..
  | exact LeO.refl ..
  | exact LeO.none ..
  | refine LeO.ite ?_ ?_
  | refine LeO.bind ?_ (fun _ => ?_)
def Rf_LineErr.T3 : Bool × List (List Nat × List Nat) := (true, [([], []), ([0], [0]), ([], []), ([2], [2]), ([], []), ([4], [4]), ([3, 5], [3, 5]), ([1, 6, 6], [1, 6]), ([7], [7])])
def Rf_LineErr.B3 : List Nat := [0, 1, 0, 4, 0, 16, 60, 127, 255]
theorem Rf_LineErr.tab3 : rtab .any (opsOf Try.f34 3) = Rf_LineErr.T3 := by kernel_rfl
theorem Rf_LineErr.bits3 : waitsOk Rf_LineErr.T3.2 Rf_LineErr.B3 = true := by kernel_rfl
theorem Rf_LineErr.calls (k : Nat) (a0_0 : Int) (a0_1 : Int) (a0_2 : Int) (r : Int) (w : World) (h : Rf_LineErr.f k a0_0 a0_1 a0_2 = some r) :
  Calls Try.prog 34 #[.agg #[.int .i64 a0_0, .int .i64 a0_1, .int .i64 a0_2]] w fun e w' => e = .returned (.int .i64 r) ∧ Below w.heap.size w w' := by
 have hu56 := Try.underlying56
 have HB := m0 (Below.refl w.heap.size w)
 have H : ((Bs_Within.f a0_2 1 1000000000).bind fun t569 => (if t569 = true then ((Bs_Within.f a0_0 (-1000000000) 1000000000).bind fun t570 => (if t570 = true then ((Bs_Within.f a0_1 (-1000000000000) 1000000000000).bind fun t571 => (Rf_LineErr.j0 k (!t571) a0_0 a0_1 a0_2)) else (Rf_LineErr.j0 k true a0_0 a0_1 a0_2))) else (Rf_LineErr.j0 k true a0_0 a0_1 a0_2))) = some r := h
 clear h
 have HC2 := m0 H
 clear H
 go_enter Try.func34, Try.ntmps34
 go_upto_region 1 with (first | ((with_reducible refine gate_dst (N := 1) rfl ?_); refine be 1 56 #[.int .i64 a0_0, .int .i64 a0_1, .int .i64 a0_2] ?_; intro gb568 hg w3 hbox hb; have BK568 := m0 hbox; have GE568 := gw w hg; replace HB := sb HB hb; clear hb hbox hg))
 (try simp only [Act.put, List.setIfInBounds_toArray, List.set_cons_zero, List.set_cons_succ])
 go_cut [18] (fun v18 wc => ∃ (kq : Nat) (x18_1 : Bool), v18 = .bool x18_1 ∧ Aside0 (Rf_LineErr.j0 kq x18_1 a0_0 a0_1 a0_2 = some r) ∧ Aside0 (kq ≤ k) ∧ Aside0 (wc.heap[gb568]? = some (.cells #[.int .i64 a0_0, .int .i64 a0_1, .int .i64 a0_2] 56 (0, 0))) ∧ Aside0 (Below w.heap.size w wc))
 case first =>
  have H := HC2.out
  clear HC2
  replace H := ob H
  obtain ⟨t569, A4, H⟩ := H
  (try dsimp only at H)
  replace A4 := m0 A4
  by_cases c5 : t569 = true
  ·subst c5
   rw [if_pos rfl] at H
   replace H := ob H
   obtain ⟨t570, A6, H⟩ := H
   (try dsimp only at H)
   replace A6 := m0 A6
   by_cases c7 : t570 = true
   ·subst c7
    rw [if_pos rfl] at H
    replace H := ob H
    obtain ⟨t571, A8, H⟩ := H
    (try dsimp only at H)
    replace A8 := m0 A8
    have H' := m0 H
    clear H
    obtain ⟨hcz9_0, hcz9_1, hcz9_2, hfz9_0, hfz9_1, hfz9_2⟩ := b3 BK568
    go_wp2_with (first | ((with_reducible refine gate_callee (f := 24) rfl ?_); refine gl (some 5) Try.func24 #[.int .i64 a0_2, .int .i64 1, .int .i64 1000000000] ?_; (with_reducible refine (Bs_Within.calls a0_2 1 1000000000 true _ A4.out).mono ?_); rintro e w' ⟨rfl, ⟨nd, rfl⟩⟩; refine ⟨_, rfl, ?_⟩) | (go_at_call 24; (with_reducible refine (Bs_Within.calls a0_0 (-1000000000) 1000000000 true _ A6.out).mono ?_); rintro e w' ⟨rfl, ⟨nd, rfl⟩⟩) | (go_at_call 24; (with_reducible refine (Bs_Within.calls a0_1 (-1000000000000) 1000000000000 t571 _ A8.out).mono ?_); rintro e w' ⟨rfl, ⟨nd, rfl⟩⟩))
    go_meet
    case rel => exact ⟨_, (!t571), (by first | rfl | (simp; done) | (simp [*]; done)), H', ⟨by first | omega | exact Nat.le_refl _⟩, ⟨bk BK568.out⟩, ⟨bz⟩⟩
   ·replace c7 := Bool.eq_false_iff.mpr c7
    subst c7
    rw [if_neg (show ¬ (false = true) by decide)] at H
    have H' := m0 H
    clear H
    obtain ⟨hcz10_0, hcz10_1, hcz10_2, hfz10_0, hfz10_1, hfz10_2⟩ := b3 BK568
    go_wp2_with (first | ((with_reducible refine gate_callee (f := 24) rfl ?_); refine gl (some 5) Try.func24 #[.int .i64 a0_2, .int .i64 1, .int .i64 1000000000] ?_; (with_reducible refine (Bs_Within.calls a0_2 1 1000000000 true _ A4.out).mono ?_); rintro e w' ⟨rfl, ⟨nd, rfl⟩⟩; refine ⟨_, rfl, ?_⟩) | (go_at_call 24; (with_reducible refine (Bs_Within.calls a0_0 (-1000000000) 1000000000 false _ A6.out).mono ?_); rintro e w' ⟨rfl, ⟨nd, rfl⟩⟩))
    go_meet
    case rel => exact ⟨_, (true), (by first | rfl | (simp; done) | (simp [*]; done)), H', ⟨by first | omega | exact Nat.le_refl _⟩, ⟨bk BK568.out⟩, ⟨bz⟩⟩
  ·replace c5 := Bool.eq_false_iff.mpr c5
   subst c5
   rw [if_neg (show ¬ (false = true) by decide)] at H
   have H' := m0 H
   clear H
   obtain ⟨hcz11_0, hcz11_1, hcz11_2, hfz11_0, hfz11_1, hfz11_2⟩ := b3 BK568
   go_wp2_with (first | ((with_reducible refine gate_callee (f := 24) rfl ?_); refine gl (some 5) Try.func24 #[.int .i64 a0_2, .int .i64 1, .int .i64 1000000000] ?_; (with_reducible refine (Bs_Within.calls a0_2 1 1000000000 false _ A4.out).mono ?_); rintro e w' ⟨rfl, ⟨nd, rfl⟩⟩; refine ⟨_, rfl, ?_⟩))
   go_meet
   case rel => exact ⟨_, (true), (by first | rfl | (simp; done) | (simp [*]; done)), H', ⟨by first | omega | exact Nat.le_refl _⟩, ⟨bk BK568.out⟩, ⟨bz⟩⟩
 case rest =>
  clear HC2
  try clear hcz10_0
  try clear hcz10_1
  try clear hcz10_2
  try clear hcz11_0
  try clear hcz11_1
  try clear hcz11_2
  try clear hcz9_0
  try clear hcz9_1
  try clear hcz9_2
  try clear hfz10_0
  try clear hfz10_1
  try clear hfz10_2
  try clear hfz11_0
  try clear hfz11_1
  try clear hfz11_2
  try clear hfz9_0
  try clear hfz9_1
  try clear hfz9_2
  obtain ⟨kq, x18_1, rfl, HA, HJ1, BK568, HB⟩ := hcut
  cases kq with
  | zero => exact absurd HA.out (by simp [Rf_LineErr.j0])
  | succ kj1 =>
   have H := HA.out
   clear HA
   simp only [Rf_LineErr.j0] at H
   by_cases c12 : x18_1 = true
   ·subst c12
    rw [if_pos rfl] at H
    obtain rfl := Option.some.inj H
    go_wp2
    go_ret
    exact ez
   ·replace c12 := Bool.eq_false_iff.mpr c12
    subst c12
    rw [if_neg (show ¬ (false = true) by decide)] at H
    replace H := ob H
    obtain ⟨t572, A13, H⟩ := H
    (try dsimp only at H)
    replace A13 := m0 A13
    replace H := ob H
    obtain ⟨t573, A14, H⟩ := H
    (try dsimp only at H)
    replace A14 := m0 A14
    by_cases c15 : t573 = 1
    ·rw [if_pos c15] at H
     have c15b0 := beq_iff_eq.mpr c15
     have c15b1 := bne_eq_false_iff_eq.mpr c15
     clear c15
     obtain rfl := Option.some.inj H
     try go_wp2
     replace BK568 := bd BK568; replace HB := sd HB
     refine start_ (n := 9) (S := fun w' => w'.cell? ⟨gb568, 0, none⟩ = some (.int .i64 a0_0) ∧ w'.cell? ⟨gb568, 1, none⟩ = some (.int .i64 a0_1) ∧ w'.cell? ⟨gb568, 2, none⟩ = some (.int .i64 a0_2)) (ds := []) #[false, false, false, false, false, false, false, false, false] (by kernel_rfl) rfl rfl cz (fun hH => ?_); refine with_tabW Rf_LineErr.tab3 Rf_LineErr.bits3 (fun HT_ HW_ => ?_)
     generalize wc.drew = w16 at BK568 HB hH ⊢
     refine pZ 0 (some 19) #[true, false, false, false, false, false, false, false, false] HT_ ?_
     refine pZ 2 (some 21) #[true, false, true, false, false, false, false, false, false] HT_ ?_
     refine pZ 4 (some 23) #[true, false, true, false, true, false, false, false, false] HT_ ?_
     refine takeZ 1 (some 20) #[true, true, true, false, true, false, false, false, false] (take_ofW HT_.out HW_.out (by kernel_rfl)) hH ?_
     refine takeZ 3 (some 22) #[true, true, true, true, true, false, false, false, false] (take_ofW HT_.out HW_.out (by kernel_rfl)) hH ?_
     refine takeZ 5 (some 24) #[true, true, true, true, true, true, false, false, false] (take_ofW HT_.out HW_.out (by kernel_rfl)) hH ?_
     refine oneZ 6 (some 25) #[true, true, true, true, true, true, true, false, false] (one_of HT_.out (by kernel_rfl)) fun K hK => ?_
     refine gz Try.func93 #[.int .i64 a0_0, .int .i64 a0_1] ?_
     with_reducible refine (Bs_Gcd.calls kj1 a0_0 a0_1 t572 _ A13.out).mono ?_
     rintro e w17 ⟨rfl, hb⟩
     refine ⟨_, rfl, ?_⟩
     replace BK568 := bb BK568 hb; replace HB := sb HB hb
     (try clear hb)
     refine hK.out _ _ cz (fun hH => ?_)
     clear hK K
     refine norm_ (a' := ?_) ?_ ?_
     rotate_left
     ·show Act.put _ (some 25) _ = _
      exact pz
     refine oneZ 7 (some 26) #[true, true, true, true, true, true, true, true, false] (one_of HT_.out (by kernel_rfl)) fun K hK => ?_
     refine gz Try.func93 #[.int .i64 a0_2, .int .i64 t572] ?_
     with_reducible refine (Bs_Gcd.calls kj1 a0_2 t572 t573 _ A14.out).mono ?_
     rintro e w18 ⟨rfl, hb⟩
     refine ⟨_, rfl, ?_⟩
     replace BK568 := bb BK568 hb; replace HB := sb HB hb
     (try clear hb)
     refine hK.out _ _ cz (fun hH => ?_)
     clear hK K
     refine norm_ (a' := ?_) ?_ ?_
     rotate_left
     ·show Act.put _ (some 26) _ = _
      exact pz
     refine pZ 8 (some 27) #[true, true, true, true, true, true, true, true, true] HT_ ?_
     refine done_ (done_of HT_.out (by kernel_rfl)) ?_
     try go_wp2
     go_ret
     exact ez
    ·rw [if_neg c15] at H
     have c15b0 := beq_eq_false_iff_ne.mpr c15
     have c15b1 := bne_iff_ne.mpr c15
     obtain rfl := Option.some.inj H
     try go_wp2
     replace BK568 := bd BK568; replace HB := sd HB
     refine start_ (n := 9) (S := fun w' => w'.cell? ⟨gb568, 0, none⟩ = some (.int .i64 a0_0) ∧ w'.cell? ⟨gb568, 1, none⟩ = some (.int .i64 a0_1) ∧ w'.cell? ⟨gb568, 2, none⟩ = some (.int .i64 a0_2)) (ds := []) #[false, false, false, false, false, false, false, false, false] (by kernel_rfl) rfl rfl cz (fun hH => ?_); refine with_tabW Rf_LineErr.tab3 Rf_LineErr.bits3 (fun HT_ HW_ => ?_)
     generalize wc.drew = w19 at BK568 HB hH ⊢
     refine pZ 0 (some 19) #[true, false, false, false, false, false, false, false, false] HT_ ?_
     refine pZ 2 (some 21) #[true, false, true, false, false, false, false, false, false] HT_ ?_
     refine pZ 4 (some 23) #[true, false, true, false, true, false, false, false, false] HT_ ?_
     refine takeZ 1 (some 20) #[true, true, true, false, true, false, false, false, false] (take_ofW HT_.out HW_.out (by kernel_rfl)) hH ?_
     refine takeZ 3 (some 22) #[true, true, true, true, true, false, false, false, false] (take_ofW HT_.out HW_.out (by kernel_rfl)) hH ?_
     refine takeZ 5 (some 24) #[true, true, true, true, true, true, false, false, false] (take_ofW HT_.out HW_.out (by kernel_rfl)) hH ?_
     refine oneZ 6 (some 25) #[true, true, true, true, true, true, true, false, false] (one_of HT_.out (by kernel_rfl)) fun K hK => ?_
     refine gz Try.func93 #[.int .i64 a0_0, .int .i64 a0_1] ?_
     with_reducible refine (Bs_Gcd.calls kj1 a0_0 a0_1 t572 _ A13.out).mono ?_
     rintro e w20 ⟨rfl, hb⟩
     refine ⟨_, rfl, ?_⟩
     replace BK568 := bb BK568 hb; replace HB := sb HB hb
     (try clear hb)
     refine hK.out _ _ cz (fun hH => ?_)
     clear hK K
     refine norm_ (a' := ?_) ?_ ?_
     rotate_left
     ·show Act.put _ (some 25) _ = _
      exact pz
     refine oneZ 7 (some 26) #[true, true, true, true, true, true, true, true, false] (one_of HT_.out (by kernel_rfl)) fun K hK => ?_
     refine gz Try.func93 #[.int .i64 a0_2, .int .i64 t572] ?_
     with_reducible refine (Bs_Gcd.calls kj1 a0_2 t572 t573 _ A14.out).mono ?_
     rintro e w21 ⟨rfl, hb⟩
     refine ⟨_, rfl, ?_⟩
     replace BK568 := bb BK568 hb; replace HB := sb HB hb
     (try clear hb)
     refine hK.out _ _ cz (fun hH => ?_)
     clear hK K
     refine norm_ (a' := ?_) ?_ ?_
     rotate_left
     ·show Act.put _ (some 26) _ = _
      exact pz
     refine pZ 8 (some 27) #[true, true, true, true, true, true, true, true, true] HT_ ?_
     refine done_ (done_of HT_.out (by kernel_rfl)) ?_
     try go_wp2
     go_ret
     exact ez
end
section
def Lw_few.f (l0 : List (S85)) : Option (Bool) := some (decide ((l0.length : Int) ≤ 10))
theorem Lw_few.calls (A0 : Option Addr) (c0 : Nat) (l0 : List (S85)) (r : Bool) (w : World) (hr0 : Kd.C k85 w A0 l0.length l0) (hc0 : l0.length ≤ c0) (h : Lw_few.f l0 = some r) :
  Calls Try.prog 36 #[.slice A0 l0.length c0] w fun e w' => e = .returned (.bool r) ∧ Drawn0 w w' := by
 have HR0 := m0 hr0
 have HC0 := m0 hc0
 clear hr0 hc0
 have H : (some (decide ((l0.length : Int) ≤ 10))) = some r := h
 clear h
 obtain rfl := Option.some.inj H
 go_enter Try.func36, Try.ntmps36
 go_wp2
 go_ret
 exact ⟨by first | rfl | (simp; done) | (simp [*]; done), by repeat (first | exact Drawn0.refl _ | apply Drawn0.step)⟩
end
section
def Rf_CopyReadings.f (l0 : List (S85)) : Option ((List (S85))) := (some (([] : List (S85)) : List (S85))).bind fun y611 => (if y611.length + l0.length < 5864062014805 then (some (y611 ++ l0)) else (none))
theorem Rf_CopyReadings.calls (A0 : Option Addr) (c0 : Nat) (l0 : List (S85)) (r : List (S85)) (w : World) (hr0 : Kd.C k85 w A0 l0.length l0) (hc0 : l0.length ≤ c0) (h : Rf_CopyReadings.f l0 = some r) :
  Calls Try.prog 38 #[.slice A0 l0.length c0] w fun e w' => ∃ v0_ : Value, e = .returned (v0_) ∧ Kd.R k85 85 w' w.heap.size (fun _ => True) v0_ r ∧ Below w.heap.size w w' := by
 have HR0 := m0 hr0
 have HC0 := m0 hc0
 clear hr0 hc0
 have HB := m0 (Below.refl w.heap.size w)
 have H : ((some (([] : List (S85)) : List (S85))).bind fun y611 => (if y611.length + l0.length < 5864062014805 then (some (y611 ++ l0)) else (none))) = some r := h
 clear h
 obtain ⟨y611, hy611⟩ : ∃ y_ : List (S85), y_ = (([] : List (S85))) := ⟨_, rfl⟩
 replace H : (if y611.length + l0.length < 5864062014805 then (some (y611 ++ l0)) else (none)) = some r := by first | (rw [hy611]; with_reducible exact H) | (have H2_ := (Option.bind_some _ _).symm.trans H; rw [hy611]; with_reducible exact H2_) | (have H2_ := (Option.bind_some _ _).symm.trans H; with_reducible exact H2_) | with_reducible exact H | (rw [hy611]; exact H) | exact H
 have Ny611 := m0 hy611
 clear hy611
 by_cases c2 : y611.length + l0.length < 5864062014805
 ·rw [if_pos c2] at H
  have LMc2 := m0 c2
  clear c2
  obtain ⟨y614, hy614⟩ : ∃ y_ : List (S85), y_ = (y611 ++ l0) := ⟨_, rfl⟩
  replace H : (some y614) = some r := by first | (rw [hy614]; with_reducible exact H) | (have H2_ := (Option.bind_some _ _).symm.trans H; rw [hy614]; with_reducible exact H2_) | (have H2_ := (Option.bind_some _ _).symm.trans H; with_reducible exact H2_) | with_reducible exact H | (rw [hy614]; exact H) | exact H
  have Ny614 := m0 hy614
  clear hy614
  obtain rfl := Option.some.inj H
  go_enter Try.func38, Try.ntmps38
  go_wp2_with (first | ((with_reducible refine gate_dst (N := 3) rfl ?_); refine Kd.R_lit k85 _ 85 ?hg (N := 3) ?hd (xs := ([] : List (S85))) (inner := []) (ok := fun _ => True) (okp := fun _ => True) ?hr ?hp (fun _ hk => hk) trivial (Below.refl _ _) (Nat.le_refl _) (by simp) ?_; (case hd => rfl); (case hg => rfl); (case hr => first | (go_simp; done) | (go_simp; rfl)); (case hp => exact (Reps.none _ _)); intro v612 w3 ho4 hb hg_ hnew_; clear hg_ hnew_; (first | rw [← Ny611.out] at ho4 | (simp only [Int.reduceToNat] at ho4; rw [← Ny611.out] at ho4)); have HO613 := m0 (Kd.R_lower ho4 (below_size bz)); replace HB := sb HB hb; clear hb ho4) | ((with_reducible refine gate_builtin (b := .append) (xs := #[.tmp 3, .tmp 4]) rfl ?_); at_builtin; refine Kd.R_append_rows k85 (w0 := w) w.heap.size rfl (.tmp 3) (.tmp 4) 67 85 (.agg #[(.int .i64 0), (.int .i64 0), (.int .i64 0)]) 24 rfl Try.underlying67 info85 rfl (by decide) (by omega) v612 y611 l0 _ _ _ (fun _ => True) (fun _ => False) rfl rfl ?aO ?aR (fun _ _ h => h) (fun _ h => h.elim) ?aF ?aB ?aS ?aL ?_; (case aR => exact cb HR0 HB); (case aB => exact bz); (case aF => exact (fun _ _ => trivial)); (case aO => exact (br HO613.out)); (case aS => exact (below_size bz)); (case aL => have := LMc2.out; omega); intro v615 w5 ho hb hg hat; rw [← Ny614.out] at ho; have n0_ := m0 (hb); have n1_ := m0 (ho); clear HB; clear HO613; have HB := n0_; have HO616 := n1_; clear n0_ n1_; clear ho hb hg hat))
  go_ret
  exact ⟨_, by first | rfl | (simp [errW_none, errW_some] <;> rfl) | (simp [*, errW_none, errW_some] <;> rfl), by (with_reducible repeat (first | apply Kd.R_alloc | apply Kd.R_drewN | apply Kd.R_drew)); exact HO616.out, by repeat (first | (with_reducible first | exact HB.out | apply below_alloc | apply pw_below_drewN | apply below_drew1) | exact HB.out)⟩
 ·rw [if_neg c2] at H
  exact absurd H (by simp)
end
section
def L_fraction.f (k : Nat) (a0 : Int) (a1 : Int) : Option (Int × Int) := (L_divisor.f k (([a0, a1] : List Int))).bind fun t621 => (if t621 = 0 then (none) else (some (wrap64 (Int.tdiv a0 t621), wrap64 (Int.tdiv a1 t621))))
theorem L_fraction.mono : ∀ a0 a1 k, LeO (L_fraction.f k a0 a1) (L_fraction.f (k + 1) a0 a1) := by
 intro a0 a1 k
 unfold L_fraction.f
 repeat' with_reducible first
  | exact L_divisor.mono ..
  | exact LeO.refl ..
  | exact LeO.none ..
  | refine LeO.ite ?_ ?_
  | refine LeO.bind ?_ (fun _ => ?_)
def L_fraction.T2 : Bool × List (List Nat × List Nat) := (true, [([], []), ([], []), ([0, 1], [0, 1]), ([], []), ([], []), ([3, 4], [3, 4]), ([2, 5], [2, 5]), ([6, 0, 1, 2, 3, 4, 5, 6], [6])])
def L_fraction.B2 : List Nat := [0, 0, 3, 0, 0, 24, 63, 127]
theorem L_fraction.tab2 : rtab .any (opsOf Try.f98 2) = L_fraction.T2 := by kernel_rfl
theorem L_fraction.bits2 : waitsOk L_fraction.T2.2 L_fraction.B2 = true := by kernel_rfl
theorem L_fraction.calls (k : Nat) (a0 : Int) (a1 : Int) (r1 : Int) (r2 : Int) (w : World) (h : L_fraction.f k a0 a1 = some (r1, r2)) :
  Calls Try.prog 98 #[.int .i64 a0, .int .i64 a1] w fun e w' => e = .returned (.agg #[.int .i64 r1, .int .i64 r2]) ∧ Below w.heap.size w w' := by
 have hu73 := Try.underlying73
 have HB := m0 (Below.refl w.heap.size w)
 have H : ((L_divisor.f k (([a0, a1] : List Int))).bind fun t621 => (if t621 = 0 then (none) else (some (wrap64 (Int.tdiv a0 t621), wrap64 (Int.tdiv a1 t621))))) = some (r1, r2) := h
 clear h
 obtain ⟨y618, hy618⟩ : ∃ y_ : List Int, y_ = (([a0, a1] : List Int)) := ⟨_, rfl⟩
 replace H : ((L_divisor.f k y618).bind fun t621 => (if t621 = 0 then (none) else (some (wrap64 (Int.tdiv a0 t621), wrap64 (Int.tdiv a1 t621))))) = some (r1, r2) := by first | (rw [hy618]; with_reducible exact H) | (have H2_ := (Option.bind_some _ _).symm.trans H; rw [hy618]; with_reducible exact H2_) | (have H2_ := (Option.bind_some _ _).symm.trans H; with_reducible exact H2_) | with_reducible exact H | (rw [hy618]; exact H) | exact H
 have Ny618 := m0 hy618
 clear hy618
 replace H := ob H
 obtain ⟨t621, A3, H⟩ := H
 (try dsimp only at H)
 replace A3 := m0 A3
 by_cases c4 : t621 = 0
 ·rw [if_pos c4] at H
  exact absurd H (by simp)
 ·rw [if_neg c4] at H
  have c4b0 := beq_eq_false_iff_ne.mpr c4
  have c4b1 := bne_iff_ne.mpr c4
  simp only [Option.some.injEq, Prod.mk.injEq] at H
  obtain ⟨rfl, rfl⟩ := H
  go_enter Try.func98, Try.ntmps98
  try go_wp2_with (first | ((with_reducible refine gate_dst (N := 4) rfl ?_); refine be 4 73 #[.int .i64 0, .int .i64 0] ?_; intro gb617 hg w5 hbox hb; have BK617 := m0 hbox; have GE617 := gw w hg; replace HB := sb HB hb; clear hb hbox hg) | ((with_reducible refine gate_dst (N := 8) rfl ?_); refine Kd.R_lit (Kd.int .i64) _ 3 ?hg (N := 8) ?hd (xs := ([a0, a1] : List Int)) (inner := [.int .i64 a0, .int .i64 a1]) (ok := fun _ => True) (okp := fun _ => True) ?hr ?hp (fun _ hk => hk) trivial (Below.refl _ _) (Nat.le_refl _) (by simp) ?_; (case hd => rfl); (case hg => rfl); (case hr => first | (go_simp; done) | (go_simp; rfl)); (case hp => exact (Reps.one (show Kd.M (Kd.int .i64) _ _ _ a0 [.int .i64 a0] from rfl) (Reps.one (show Kd.M (Kd.int .i64) _ _ _ a1 [.int .i64 a1] from rfl) (Reps.none _ _)))); intro v619 w6 ho7 hb hg_ hnew_; clear hg_ hnew_; (first | rw [← Ny618.out] at ho7 | (simp only [Int.reduceToNat] at ho7; rw [← Ny618.out] at ho7)); have HO620 := m0 (Kd.R_lower ho7 (below_size bz)); replace BK617 := bb BK617 hb; replace HB := sb HB hb; clear hb ho7; obtain ⟨Ao8, co8, eo8⟩ := Kd.R_slice HO620.out; subst eo8) | ((with_reducible refine gate_callee (f := 97) rfl ?_); refine gl (some 9) Try.func97 #[.slice Ao8 y618.length co8] ?_; (with_reducible refine (L_divisor.calls k _ _ y618 t621 _ ?side1 ?side2 A3.out).mono ?_); (case side1 => exact bc (Kd.R_reads' HO620.out).2.2); (case side2 => exact (Kd.R_reads' HO620.out).2.1); rintro e w9 ⟨rfl, hb⟩; refine ⟨_, rfl, ?_⟩; replace HO620 := rb HO620 hb; replace BK617 := bb BK617 hb; replace HB := sb HB hb; (try clear hb)))
  replace HO620 := m0 (Kd.R_drew HO620.out); replace BK617 := bd BK617; replace HB := sd HB
  refine start_ (n := 8) (S := fun w' => True) (ds := []) #[false, false, false, false, false, false, false, false] (by kernel_rfl) rfl rfl trivial (fun hH => ?_); refine with_tabW L_fraction.tab2 L_fraction.bits2 (fun HT_ HW_ => ?_)
  generalize w9.drew = w10 at HO620 BK617 HB hH ⊢
  refine pZ 0 (some 10) #[true, false, false, false, false, false, false, false] HT_ ?_
  refine pZ 1 (some 11) #[true, true, false, false, false, false, false, false] HT_ ?_
  refine pZ 2 (some 12) #[true, true, true, false, false, false, false, false] HT_ ?_
  refine pZ 3 (some 13) #[true, true, true, true, false, false, false, false] HT_ ?_
  refine pZ 4 (some 14) #[true, true, true, true, true, false, false, false] HT_ ?_
  refine pZ 5 (some 15) #[true, true, true, true, true, true, false, false] HT_ ?_
  refine pZ 6 (some 16) #[true, true, true, true, true, true, true, false] HT_ ?_
  refine oneZ 7 (none) #[true, true, true, true, true, true, true, true] (one_of HT_.out (by kernel_rfl)) fun K hK => ?_
  have hs11 : w10.cell? ⟨gb617, 0, none⟩ = some (.int .i64 0) := (blk_cell BK617.out 0).trans rfl
  have hfs11 := blk_frozen BK617.out 0
  have hs12 : w10.cell? ⟨gb617, 1, none⟩ = some (.int .i64 0) := (blk_cell BK617.out 1).trans rfl
  have hfs12 := blk_frozen BK617.out 1
  refine skip_ (w1 := ?_) (by rfl) rfl ?_ ?_
  rotate_left
  ·go_simp
   rfl
  refine hK.out _ _ trivial (fun hH => ?_)
  clear hK K
  refine done_ (done_of HT_.out (by kernel_rfl)) ?_
  try go_wp2
  refine bodyPost_ret (results_cell_row rfl _ _ gb617 73 #[.int .i64 (wrap64 (Int.tdiv a0 t621)), .int .i64 (wrap64 (Int.tdiv a1 t621))] (0, 0) _ rfl (bq BK617.out) Try.underlying73 rfl (by kernel_rfl)) rfl ?_
  exact ez
end
section
def L_sums_square.f (a0_0 : Int) (a0_1 : Int) (a0_2 : Int) (a0_3 : Int) (a0_4 : Int) (a0_5 : Int) : Option (Int) := some (wrap64 ((wrap64 (a0_0 * a0_5)) - (wrap64 (a0_2 * a0_2))))
theorem L_sums_square.calls (a0_0 : Int) (a0_1 : Int) (a0_2 : Int) (a0_3 : Int) (a0_4 : Int) (a0_5 : Int) (r : Int) (w : World) (h : L_sums_square.f a0_0 a0_1 a0_2 a0_3 a0_4 a0_5 = some r) :
  Calls Try.prog 99 #[.agg #[.int .i64 a0_0, .int .i64 a0_1, .int .i64 a0_2, .int .i64 a0_3, .int .i64 a0_4, .int .i64 a0_5]] w fun e w' => e = .returned (.int .i64 r) ∧ Below w.heap.size w w' := by
 have hu149 := Try.underlying149
 have HB := m0 (Below.refl w.heap.size w)
 have H : (some (wrap64 ((wrap64 (a0_0 * a0_5)) - (wrap64 (a0_2 * a0_2))))) = some r := h
 clear h
 obtain rfl := Option.some.inj H
 go_enter Try.func99, Try.ntmps99
 go_wp2_with (first | ((with_reducible refine gate_dst (N := 1) rfl ?_); refine be 1 149 #[.int .i64 a0_0, .int .i64 a0_1, .int .i64 a0_2, .int .i64 a0_3, .int .i64 a0_4, .int .i64 a0_5] ?_; intro gb622 hg w2 hbox hb; have BK622 := m0 hbox; have GE622 := gw w hg; replace HB := sb HB hb; clear hb hbox hg; have hcz3_0 : w2.cell? ⟨gb622, 0, none⟩ = some (.int .i64 a0_0) := (blk_cell BK622.out 0).trans rfl; have hcz3_1 : w2.cell? ⟨gb622, 1, none⟩ = some (.int .i64 a0_1) := (blk_cell BK622.out 1).trans rfl; have hcz3_2 : w2.cell? ⟨gb622, 2, none⟩ = some (.int .i64 a0_2) := (blk_cell BK622.out 2).trans rfl; have hcz3_3 : w2.cell? ⟨gb622, 3, none⟩ = some (.int .i64 a0_3) := (blk_cell BK622.out 3).trans rfl; have hcz3_4 : w2.cell? ⟨gb622, 4, none⟩ = some (.int .i64 a0_4) := (blk_cell BK622.out 4).trans rfl; have hcz3_5 : w2.cell? ⟨gb622, 5, none⟩ = some (.int .i64 a0_5) := (blk_cell BK622.out 5).trans rfl; have hfz3_0 := blk_frozen BK622.out 0; have hfz3_1 := blk_frozen BK622.out 1; have hfz3_2 := blk_frozen BK622.out 2; have hfz3_3 := blk_frozen BK622.out 3; have hfz3_4 := blk_frozen BK622.out 4; have hfz3_5 := blk_frozen BK622.out 5))
 go_ret
 exact ez
end
end Go.Proofs.Ytibhfahbabgbaaa.A
