/-
PLAIN LAW: what the walks compute answers as the statement says (no program in sight; Ev: from some number of rounds on).
-/
import Derived.Test.YtibhfahbabgbaaaTC12
import Derived.Test.YtibhfahbabgbaaaTC11
import Derived.Test.YtibhfahbabgbaaaTC05
import Derived.Test.YtibhfahbabgbaaaTC07
import Derived.Test.YtibhfahbabgbaaaTC04
import Derived.Test.YtibhfahbabgbaaaTC09
namespace Go.Proofs.Ytibhfahbabgbaaa.P
open Go Go.RowKit Go.Proofs.Ytibhfahbabgbaaa.A Go.Proofs.YtibhfahbabgbaaaW.PrintWords Go.Proofs.YtibhfahbabgbaaaW.PrintLast Go.Proofs.YtibhfahbabgbaaaW.PrintMore
set_option linter.unusedSimpArgs false
set_option linter.unusedVariables false
/-- From some number of rounds on, f says r. -/
def Ev {α : Type} (f : Nat → Option α) (r : α) : Prop := ∃ k, ∀ j, k ≤ j → f j = some r

theorem Ev.some {α : Type} {r : α} : Ev (fun _ => Option.some r) r := ⟨0, fun _ _ => rfl⟩
theorem Ev.bind {α β : Type} {f : Nat → Option α} {g : Nat → α → Option β} {a : α} {b : β} (h : Ev f a) (h2 : Ev (fun k => g k a) b) : Ev (fun k => (f k).bind (g k)) b := by
 obtain ⟨k, hk⟩ := h
 obtain ⟨m, hm⟩ := h2
 exact ⟨max k m, fun j hj => by show (f j).bind (g j) = _; rw [hk j (by omega)]; exact hm j (by omega)⟩
theorem Ev.succ {α : Type} {f : Nat → Option α} {r : α} (h : Ev (fun k => f (k + 1)) r) : Ev f r := by
 obtain ⟨k, hk⟩ := h
 exact ⟨k + 1, fun j hj => by obtain ⟨m, rfl⟩ : ∃ m, j = m + 1 := ⟨j - 1, by omega⟩; exact hk m (by omega)⟩
theorem Ev.ex {α : Type} {f : Nat → Option α} {r : α} (h : Ev f r) : ∃ k, f k = Option.some r := let ⟨k, hk⟩ := h; ⟨k, hk k (Nat.le_refl _)⟩
theorem Ev.of_mono {α : Type} {f : Nat → Option α} {r : α} (hm : ∀ k, LeO (f k) (f (k + 1))) {k : Nat} (h : f k = Option.some r) : Ev f r := by
  refine ⟨k, fun j hj => ?_⟩
  induction j with
  | zero => obtain rfl : k = 0 := by omega
            exact h
  | succ j ih =>
    by_cases e : k = j + 1
    · subst e; exact h
    · exact hm j r (ih (by omega))
theorem up {i : Nat} (h : i < 4611686018427387904) : wrap64 ((i : Int) + 1) = ((i + 1 : Nat) : Int) := by
 unfold wrap64; omega
theorem w64 {n : Int} (h : -9223372036854775808 ≤ n ∧ n ≤ 9223372036854775807) : wrap64 n = n := by unfold wrap64; omega
theorem rd_nat (l : List Int) (i : Nat) : rd l (i : Int) = l.getD i 0 := by unfold rd; simp
theorem drop_rd {l : List Int} {i : Nat} (h : i < l.length) : l.drop i = rd l (i : Int) :: l.drop (i + 1) := by
 rw [rd_nat, List.drop_eq_getElem_cons h]
 simp [List.getD_eq_getElem?_getD, h]
theorem mx_eq (a b : Int) : mx a b = max a b := by unfold mx; split <;> omega
theorem within_eq (a b c : Int) : L_within.f a b c = some (decide (b ≤ a ∧ a ≤ c)) := by
 unfold L_within.f
 by_cases h : b ≤ a <;> simp [h]
theorem Within_eq (a b c : Int) : Bs_Within.f a b c = some (decide (b ≤ a ∧ a ≤ c)) := by
 unfold Bs_Within.f
 by_cases h : b ≤ a <;> simp [h]
theorem unless_eq (b : Bool) (e : Int) : L_unless.f b e = some (if b = true then 0 else e) := by
 unfold L_unless.f
 cases b <;> simp
theorem Size_eq (a : Int) : Bs_Size.f a = some (mx a (wrap64 (-a))) := rfl

/-- The first number that is not 0. -/
def fnz : List Int → Int
 | [] => 0
 | x :: r => if x = 0 then fnz r else x

theorem first_l0 (l : List Int) (hl : l.length < 4611686018427387904) : ∀ (n i : Nat), i + n = l.length → Ev (fun k => L_first.l0 k l (l.length : Int) (i : Int)) (fnz (l.drop i))
 | 0, i, h => by
  refine Ev.succ (f := fun k => L_first.l0 k l (l.length : Int) (i : Int)) ?_
  have h1 : ¬ (i : Int) < (l.length : Int) := by omega
  simp only [L_first.l0, h1, if_false]
  rw [show l.drop i = [] from List.drop_eq_nil_of_le (by omega)]
  exact Ev.some
 | n + 1, i, h => by
  refine Ev.succ (f := fun k => L_first.l0 k l (l.length : Int) (i : Int)) ?_
  have h1 : (i : Int) < (l.length : Int) := by omega
  have h2 : (0 : Int) ≤ (i : Int) := by omega
  simp only [L_first.l0, h1, h2, if_true, up (show i < 4611686018427387904 by omega)]
  rw [drop_rd (show i < l.length by omega)]
  unfold fnz
  by_cases e : rd l (i : Int) = 0
  ·simp only [e, if_true]
   exact first_l0 l hl n (i + 1) (by omega)
  ·simp only [e, if_false]
   exact Ev.some
theorem first_ev (l : List Int) (hl : l.length < 4611686018427387904) : Ev (fun k => L_first.f k l) (fnz l) := first_l0 l hl l.length 0 (by omega)

theorem floor_core {a b : Int} (hb : 0 < b) (ha : -4611686018427387904 ≤ a ∧ a ≤ 4611686018427387904) :
  (if Int.tmod a b < 0 then some (wrap64 (wrap64 (Int.tdiv a b) - 1)) else some (wrap64 (Int.tdiv a b))) = some (a / b) := by
 have h1 : a.tdiv b * b + a.tmod b = a := Int.tdiv_mul_add_tmod a b
 have h2 : a / b * b + a % b = a := Int.ediv_mul_add_emod a b
 have h3 := Int.emod_nonneg a (show b ≠ 0 by omega)
 have h4 := Int.emod_lt_of_pos a hb
 have h5 : (a.tmod b).natAbs < b.natAbs := by rw [Int.natAbs_tmod]; exact Nat.mod_lt _ (by omega)
 have h6 : (a.tdiv b).natAbs ≤ a.natAbs := by rw [Int.natAbs_tdiv]; exact Nat.div_le_self _ _
 have key : ∀ q r p s : Int, q * b + r = p * b + s → -b < r → r < b → 0 ≤ s → s < b → (r < 0 → p = q - 1) ∧ (0 ≤ r → p = q) := by
  intro q r p s h hr1 hr2 hs1 hs2
  have e : (q - p) * b = s - r := by rw [Int.sub_mul]; omega
  constructor
  ·intro hr
   have u1 : 0 < q - p := by
    apply Int.lt_of_not_ge; intro hc
    have := Int.mul_le_mul_of_nonneg_right hc (show 0 ≤ b by omega)
    omega
   have u2 : q - p < 2 := by
    apply Int.lt_of_not_ge; intro hc
    have := Int.mul_le_mul_of_nonneg_right hc (show 0 ≤ b by omega)
    omega
   omega
  ·intro hr
   have u1 : -1 < q - p := by
    apply Int.lt_of_not_ge; intro hc
    have := Int.mul_le_mul_of_nonneg_right hc (show 0 ≤ b by omega)
    omega
   have u2 : q - p < 1 := by
    apply Int.lt_of_not_ge; intro hc
    have := Int.mul_le_mul_of_nonneg_right hc (show 0 ≤ b by omega)
    omega
   omega
 obtain ⟨k1, k2⟩ := key (a.tdiv b) (a.tmod b) (a / b) (a % b) (by omega) (by omega) (by omega) h3 h4
 by_cases hr : a.tmod b < 0
 ·rw [if_pos hr, k1 hr, w64 (n := a.tdiv b) (by omega), w64 (by omega)]
 ·rw [if_neg hr, k2 (by omega), w64 (by omega)]
theorem floor_eq {a b : Int} (hb : 0 < b) (ha : -4611686018427387904 ≤ a ∧ a ≤ 4611686018427387904) : L_floor.f a b = some (a / b) := by
 unfold L_floor.f; rw [if_neg (by omega)]; exact floor_core hb ha
theorem Floor_eq {a b : Int} (hb : 0 < b) (ha : -4611686018427387904 ≤ a ∧ a ≤ 4611686018427387904) : Bs_Floor.f a b = some (a / b) := by
 unfold Bs_Floor.f; rw [if_neg (by omega)]; exact floor_core hb ha
/-- A quotient rounded up. -/
def cdiv (a b : Int) : Int := -((-a) / b)
theorem div_in {a b M : Int} (hb : 0 < b) (ha : -M ≤ a ∧ a ≤ M) : -M ≤ a / b ∧ a / b ≤ M := by
 have h6 : (a / b).natAbs ≤ a.natAbs := Int.natAbs_ediv_le_natAbs a b
 omega
theorem ceil_eq {a b : Int} (hb : 0 < b) (ha : -4611686018427387904 ≤ a ∧ a ≤ 4611686018427387904) : L_ceil.f a b = some (cdiv a b) := by
 have := div_in hb (a := -a) (M := 4611686018427387904) (by omega)
 unfold L_ceil.f cdiv
 rw [w64 (n := -a) (by omega), floor_eq hb (by omega)]
 simp only [Option.bind_some]
 rw [w64 (by omega)]
theorem Ceil_eq {a b : Int} (hb : 0 < b) (ha : -4611686018427387904 ≤ a ∧ a ≤ 4611686018427387904) : Bs_Ceil.f a b = some (cdiv a b) := by
 have := div_in hb (a := -a) (M := 4611686018427387904) (by omega)
 unfold Bs_Ceil.f cdiv
 rw [w64 (n := -a) (by omega), Floor_eq hb (by omega)]
 simp only [Option.bind_some]
 rw [w64 (by omega)]

theorem gcd_lt {x y M : Nat} (hx : x < M) (hy : y < M) : Nat.gcd x y < M := by
 by_cases h : y = 0
 ·subst h; simpa using hx
 ·exact Nat.lt_of_le_of_lt (Nat.gcd_le_right x (by omega)) hy
theorem size_abs {x : Int} (h : -9223372036854775807 ≤ x ∧ x ≤ 9223372036854775807) : mx x (wrap64 (-x)) = (x.natAbs : Int) := by
 rw [w64 (n := -x) (by omega), mx_eq]; omega
theorem gcd_step (x y : Int) : Int.gcd y (x.tmod y) = Int.gcd x y := by
 show Nat.gcd y.natAbs (x.tmod y).natAbs = Nat.gcd x.natAbs y.natAbs
 rw [Int.natAbs_tmod, Nat.gcd_comm, ← Nat.gcd_rec, Nat.gcd_comm]
theorem tmod_in {x y : Int} (h0 : y ≠ 0) : (x.tmod y).natAbs < y.natAbs := by
 rw [Int.natAbs_tmod]
 exact Nat.mod_lt _ (by omega)
theorem Gcd_l0 : ∀ (m : Nat) (x y : Int), y.natAbs ≤ m → x.natAbs < 9223372036854775808 → y.natAbs < 9223372036854775808 → Ev (fun k => Bs_Gcd.l0 k x y) (Int.gcd x y : Int)
 | 0, x, y, h, hx, _ => by
  refine Ev.succ (f := fun k => Bs_Gcd.l0 k x y) ?_
  obtain rfl : y = 0 := by omega
  simp only [Bs_Gcd.l0, if_true, Size_eq, Option.bind_some, size_abs (x := x) (by omega), Int.gcd_zero_right]
  exact Ev.some
 | m + 1, x, y, h, hx, hy => by
  refine Ev.succ (f := fun k => Bs_Gcd.l0 k x y) ?_
  by_cases h0 : y = 0
  ·subst h0
   simp only [Bs_Gcd.l0, if_true, Size_eq, Option.bind_some, size_abs (x := x) (by omega), Int.gcd_zero_right]
   exact Ev.some
  ·simp only [Bs_Gcd.l0, h0, if_false]
   have ht := tmod_in (x := x) h0
   rw [← gcd_step x y]
   exact Gcd_l0 m y (x.tmod y) (by omega) hy (by omega)
theorem Gcd_ev {x y : Int} (hx : x.natAbs < 9223372036854775808) (hy : y.natAbs < 9223372036854775808) : Ev (fun k => Bs_Gcd.f k x y) (Int.gcd x y : Int) := Gcd_l0 _ x y (Nat.le_refl _) hx hy
theorem div_l1 : ∀ (m : Nat) (x y : Int), y.natAbs ≤ m → x.natAbs < 9223372036854775808 → y.natAbs < 9223372036854775808 →
  ∃ d : Int, d.natAbs = Int.gcd x y ∧ ∀ (l : List Int) (len i r : Int), Ev (fun k => L_divisor.l0 k d l len (wrap64 (i + 1))) r → Ev (fun k => L_divisor.l1 k x y l len i) r
 | 0, x, y, h, hx, _ => by
  obtain rfl : y = 0 := by omega
  refine ⟨x, by simp, fun l len i r h => ?_⟩
  refine Ev.succ (f := fun k => L_divisor.l1 k x 0 l len i) ?_
  simp only [L_divisor.l1, if_true]; exact h
 | m + 1, x, y, h, hx, hy => by
  by_cases h0 : y = 0
  ·subst h0
   refine ⟨x, by simp, fun l len i r h => ?_⟩
   refine Ev.succ (f := fun k => L_divisor.l1 k x 0 l len i) ?_
   simp only [L_divisor.l1, if_true]; exact h
  ·have ht := tmod_in (x := x) h0
   obtain ⟨d, hd, hE⟩ := div_l1 m y (x.tmod y) (by omega) hy (by omega)
   refine ⟨d, by rw [hd]; exact gcd_step x y, fun l len i r h => ?_⟩
   refine Ev.succ (f := fun k => L_divisor.l1 k x y l len i) ?_
   simp only [L_divisor.l1, h0, if_false]
   exact hE l len i r h
/-- The greatest common divisor of a list. -/
def gcds : Nat → List Int → Nat
 | g, [] => g
 | g, x :: r => gcds (Nat.gcd g x.natAbs) r
theorem divisor_l0 (l : List Int) (hl : l.length < 4611686018427387904) (hb : ∀ x ∈ l, x.natAbs < 9223372036854775808) : ∀ (n i : Nat) (g : Int), i + n = l.length → g.natAbs < 9223372036854775808 →
  Ev (fun k => L_divisor.l0 k g l (l.length : Int) (i : Int)) (gcds g.natAbs (l.drop i) : Int)
 | 0, i, g, h, hg => by
  refine Ev.succ (f := fun k => L_divisor.l0 k g l (l.length : Int) (i : Int)) ?_
  simp only [L_divisor.l0, show ¬ (i : Int) < (l.length : Int) by omega, if_false, size_abs (x := g) (by omega)]
  rw [show l.drop i = [] from List.drop_eq_nil_of_le (by omega)]
  exact Ev.some
 | n + 1, i, g, h, hg => by
  refine Ev.succ (f := fun k => L_divisor.l0 k g l (l.length : Int) (i : Int)) ?_
  simp only [L_divisor.l0, show (i : Int) < (l.length : Int) by omega, show (0 : Int) ≤ (i : Int) by omega, if_true]
  have hm : rd l (i : Int) ∈ l := by
   have : rd l (i : Int) ∈ l.drop i := by rw [drop_rd (show i < l.length by omega)]; exact List.mem_cons_self
   exact List.mem_of_mem_drop this
  have hx := hb _ hm
  rw [drop_rd (show i < l.length by omega)]
  obtain ⟨d, hd, hE⟩ := div_l1 _ g (rd l (i : Int)) (Nat.le_refl _) hg hx
  refine hE _ _ _ _ ?_
  rw [up (show i < 4611686018427387904 by omega)]
  have hd' : d.natAbs < 9223372036854775808 := by rw [hd]; exact gcd_lt hg hx
  have := divisor_l0 l hl hb n (i + 1) d (by omega) hd'
  rw [hd] at this
  exact this
theorem divisor_ev (l : List Int) (hl : l.length < 4611686018427387904) (hb : ∀ x ∈ l, x.natAbs < 9223372036854775808) : Ev (fun k => L_divisor.f k l) (gcds 0 l : Int) :=
 divisor_l0 l hl hb l.length 0 0 (by omega) (by simp)
theorem awake_ev : Ev (fun k => Lw_awake.f k) true :=
 Ev.of_mono (k := 1500) (fun k => Lw_awake.mono k) (by kernel_rfl)
/-- The greatest common divisor of three numbers. -/
def g3 (s o d : Int) : Nat := Nat.gcd (Nat.gcd s.natAbs o.natAbs) d.natAbs
def lE (s o d : Int) : Int :=
 if (1 ≤ d ∧ d ≤ 1000000000) ∧ (-1000000000 ≤ s ∧ s ≤ 1000000000) ∧ (-1000000000000 ≤ o ∧ o ≤ 1000000000000) then (if g3 s o d = 1 then 0 else 3) else 2
theorem gcds3 (s o d : Int) : gcds 0 [s, o, d] = g3 s o d := by simp [gcds, g3]
theorem isSized_eq {a m : Int} (hm : 0 ≤ m ∧ m ≤ 4611686018427387904) : L_isSized.f a m = some (decide (-m ≤ a ∧ a ≤ m)) := by
 unfold L_isSized.f
 rw [w64 (n := -m) (by omega), within_eq]; rfl
theorem lineErr_j0 (s o d : Int) (hs : -1000000000 ≤ s ∧ s ≤ 1000000000) (ho : -1000000000000 ≤ o ∧ o ≤ 1000000000000) (hd : 1 ≤ d ∧ d ≤ 1000000000) : Ev (fun k => L_lineErr.j0 k true s o d) (if g3 s o d = 1 then 0 else 3) := by
 refine Ev.succ (f := fun k => L_lineErr.j0 k true s o d) ?_
 simp only [L_lineErr.j0, if_true]
 refine Ev.bind (divisor_ev _ (by simp) (by simp; omega)) ?_
 rw [gcds3]
 simp only [unless_eq, Option.bind_some]
 by_cases h : g3 s o d = 1
 ·simp only [h, if_true, beq_self_eq_true, show (((1 : Nat) : Int) == 1) = true from rfl]; exact Ev.some
 ·have : (((g3 s o d : Nat) : Int) == 1) = false := beq_eq_false_iff_ne.mpr (by omega)
  simp only [h, this, if_false, Bool.false_eq_true]; exact Ev.some
theorem lineErr_ev (s o d : Int) : Ev (fun k => L_lineErr.f k s o d) (lE s o d) := by
 have hj : Ev (fun k => L_lineErr.j0 k false s o d) 2 := by
  refine Ev.succ (f := fun k => L_lineErr.j0 k false s o d) ?_
  simp only [L_lineErr.j0, Bool.false_eq_true, if_false]; exact Ev.some
 unfold L_lineErr.f lE
 simp only [within_eq, isSized_eq (m := 1000000000) (by omega), isSized_eq (m := 1000000000000) (by omega), Option.bind_some]
 by_cases h1 : 1 ≤ d ∧ d ≤ 1000000000
 ·by_cases h2 : -1000000000 ≤ s ∧ s ≤ 1000000000
  ·by_cases h3 : -1000000000000 ≤ o ∧ o ≤ 1000000000000
   ·simp only [h1, h2, h3, and_self, decide_true, if_true]
    exact lineErr_j0 s o d h2 h3 h1
   ·simp only [h1, h2, h3, and_self, and_false, decide_true, decide_false, if_true, if_false]; exact hj
  ·simp only [h1, h2, and_self, false_and, and_false, decide_true, decide_false, if_true, if_false, Bool.false_eq_true]; exact hj
 ·simp only [h1, false_and, decide_false, if_false, Bool.false_eq_true]; exact hj
theorem g3_comm (s o d : Int) : Int.gcd d (Int.gcd s o : Nat) = g3 s o d := by
 show Nat.gcd d.natAbs (((Int.gcd s o : Nat) : Int)).natAbs = _
 rw [Int.natAbs_natCast, Nat.gcd_comm]; rfl
theorem LineErr_j0 (s o d : Int) (hs : -1000000000 ≤ s ∧ s ≤ 1000000000) (ho : -1000000000000 ≤ o ∧ o ≤ 1000000000000) (hd : 1 ≤ d ∧ d ≤ 1000000000) : Ev (fun k => Rf_LineErr.j0 k false s o d) (if g3 s o d = 1 then 0 else 3) := by
 refine Ev.succ (f := fun k => Rf_LineErr.j0 k false s o d) ?_
 simp only [Rf_LineErr.j0, Bool.false_eq_true, if_false]
 refine Ev.bind (Gcd_ev (by omega) (by omega)) ?_
 have hg : (((Int.gcd s o : Nat) : Int)).natAbs < 9223372036854775808 := by rw [Int.natAbs_natCast]; exact gcd_lt (by omega) (by omega)
 refine Ev.bind (Gcd_ev (by omega) hg) ?_
 rw [g3_comm]
 by_cases h : g3 s o d = 1
 ·simp only [h, if_true, show ((1 : Nat) : Int) = 1 from rfl]; exact Ev.some
 ·simp only [h, show ¬ ((g3 s o d : Nat) : Int) = 1 by omega, if_false]; exact Ev.some
theorem LineErr_ev (s o d : Int) : Ev (fun k => Rf_LineErr.f k s o d) (lE s o d) := by
 have hj : Ev (fun k => Rf_LineErr.j0 k true s o d) 2 := by
  refine Ev.succ (f := fun k => Rf_LineErr.j0 k true s o d) ?_
  simp only [Rf_LineErr.j0, if_true]; exact Ev.some
 unfold Rf_LineErr.f lE
 simp only [Within_eq, Option.bind_some]
 by_cases h1 : 1 ≤ d ∧ d ≤ 1000000000
 ·by_cases h2 : -1000000000 ≤ s ∧ s ≤ 1000000000
  ·by_cases h3 : -1000000000000 ≤ o ∧ o ≤ 1000000000000
   ·simp only [h1, h2, h3, and_self, decide_true, if_true, Bool.not_true]
    exact LineErr_j0 s o d h2 h3 h1
   ·simp only [h1, h2, h3, and_self, and_false, decide_true, decide_false, if_true, if_false, Bool.not_false]; exact hj
  ·simp only [h1, h2, and_self, false_and, and_false, decide_true, decide_false, if_true, if_false, Bool.false_eq_true]; exact hj
 ·simp only [h1, false_and, decide_false, if_false, Bool.false_eq_true]; exact hj
theorem mulI {a b A B : Int} (ha : -A ≤ a ∧ a ≤ A) (hb : 0 ≤ b ∧ b ≤ B) (hA : 0 ≤ A) : -(A * B) ≤ a * b ∧ a * b ≤ A * B := by
 have h1 : a * b ≤ A * b := Int.mul_le_mul_of_nonneg_right ha.2 hb.1
 have h2 : A * b ≤ A * B := Int.mul_le_mul_of_nonneg_left hb.2 hA
 have h3 : -A * b ≤ a * b := Int.mul_le_mul_of_nonneg_right ha.1 hb.1
 have h4 : -A * b = -(A * b) := Int.neg_mul _ _
 omega

/-- A line at a distance. -/
def atL (s o d x : Int) : Int × Int := ((s * x + o) / d, cdiv (s * x + o) d)
def corL (s o d lo hi : Int) : Int × Int := ((d * lo - o) / s, cdiv (d * hi - o) s)
theorem lE_in {s o d : Int} (h : lE s o d = 0) : (1 ≤ d ∧ d ≤ 1000000000) ∧ (-1000000000 ≤ s ∧ s ≤ 1000000000) ∧ (-1000000000000 ≤ o ∧ o ≤ 1000000000000) := by
 unfold lE at h
 by_cases e : (1 ≤ d ∧ d ≤ 1000000000) ∧ (-1000000000 ≤ s ∧ s ≤ 1000000000) ∧ (-1000000000000 ≤ o ∧ o ≤ 1000000000000)
 ·exact e
 ·rw [if_neg e] at h; cases h

theorem at_in {s o d x : Int} (h : lE s o d = 0) (hx : 0 ≤ x ∧ x ≤ 2000) : 0 < d ∧ wrap64 (wrap64 (s * x) + o) = s * x + o ∧ -4611686018427387904 ≤ s * x + o ∧ s * x + o ≤ 4611686018427387904 := by
 obtain ⟨h1, h2, h3⟩ := lE_in h
 have := mulI h2 hx (by omega)
 refine ⟨by omega, ?_, by omega, by omega⟩
 rw [w64 (n := s * x) (by omega), w64 (by omega)]
theorem cor_in {s o d x : Int} (h : lE s o d = 0) (hx : 0 ≤ x ∧ x ≤ 2000) : wrap64 (wrap64 (d * x) - o) = d * x - o ∧ -4611686018427387904 ≤ d * x - o ∧ d * x - o ≤ 4611686018427387904 := by
 obtain ⟨h1, h2, h3⟩ := lE_in h
 have := mulI (A := 1000000000) (a := d) (by omega) hx (by omega)
 refine ⟨?_, by omega, by omega⟩
 rw [w64 (n := d * x) (by omega), w64 (by omega)]

theorem LineAt_ev (s o d x : Int) : Ev (fun k => L_LineAt.f k s o d x) (if lE s o d = 0 then (if 0 ≤ x ∧ x ≤ 2000 then ((atL s o d x).1, (atL s o d x).2, 0) else (0, 0, 2)) else (0, 0, lE s o d)) := by
 unfold L_LineAt.f
 refine Ev.bind (lineErr_ev s o d) ?_
 simp only [within_eq, unless_eq, Option.bind_some, decide_eq_true_eq]
 refine Ev.bind (first_ev _ (by simp)) ?_
 by_cases h : lE s o d = 0
 ·by_cases hx : 0 ≤ x ∧ x ≤ 2000
  ·obtain ⟨h1, h2, h3⟩ := at_in h hx
   simp only [h, hx, fnz, and_self, if_true, h2, floor_eq h1 h3, ceil_eq h1 h3, Option.bind_some]
   exact Ev.some
  ·simp only [h, hx, fnz, if_true, if_false, show ¬ (2 : Int) = 0 by decide]; exact Ev.some
 ·simp only [h, fnz, if_false]; exact Ev.some
theorem At_eq {s o d x : Int} (h : lE s o d = 0) (hx : 0 ≤ x ∧ x ≤ 2000) : Rf_At.f s o d x = some (atL s o d x) := by
 obtain ⟨h1, h2, h3⟩ := at_in h hx
 unfold Rf_At.f
 rw [h2, Floor_eq h1 h3, Ceil_eq h1 h3]; rfl

def cE (s o d lo hi : Int) : Int :=
 if lE s o d = 0 then (if s ≤ 0 then 11 else if (0 ≤ lo ∧ lo ≤ 2000) ∧ (0 ≤ hi ∧ hi ≤ 2000) then (if lo ≤ hi then 0 else 9) else 2) else lE s o d
theorem CorrectedErr_ev (s o d lo hi : Int) : Ev (fun k => Rf_CorrectedErr.f k s o d lo hi) (cE s o d lo hi) := by
 unfold Rf_CorrectedErr.f cE
 refine Ev.bind (LineErr_ev s o d) ?_
 by_cases h : lE s o d = 0
 ·by_cases hs : s ≤ 0
  ·simp only [h, hs, if_true]; exact Ev.some
  ·simp only [h, hs, if_true, if_false, Within_eq, Option.bind_some]
   by_cases h1 : 0 ≤ lo ∧ lo ≤ 2000
   ·simp only [h1, and_self, decide_true, if_true, true_and]
    refine Ev.succ (f := fun k => Rf_CorrectedErr.j0 k _ lo hi) ?_
    by_cases h2 : 0 ≤ hi ∧ hi ≤ 2000
    ·by_cases h3 : lo ≤ hi
     ·simp only [Rf_CorrectedErr.j0, h2, h3, and_self, decide_true, Bool.not_true, Bool.false_eq_true, if_false, if_true, show ¬ lo > hi by omega]; exact Ev.some
     ·simp only [Rf_CorrectedErr.j0, h2, h3, and_self, decide_true, Bool.not_true, Bool.false_eq_true, if_false, if_true, show lo > hi by omega]; exact Ev.some
    ·simp only [Rf_CorrectedErr.j0, h2, decide_false, Bool.not_false, if_true, if_false]; exact Ev.some
   ·simp only [h1, decide_false, Bool.false_eq_true, if_false, false_and]
    refine Ev.succ (f := fun k => Rf_CorrectedErr.j0 k true lo hi) ?_
    simp only [Rf_CorrectedErr.j0, if_true]; exact Ev.some
 ·simp only [h, if_false]; exact Ev.some
theorem cE_in {s o d lo hi : Int} (h : cE s o d lo hi = 0) : lE s o d = 0 ∧ 0 < s ∧ (0 ≤ lo ∧ lo ≤ 2000) ∧ (0 ≤ hi ∧ hi ≤ 2000) ∧ lo ≤ hi := by
 unfold cE at h
 by_cases h1 : lE s o d = 0
 ·rw [if_pos h1] at h
  by_cases h2 : s ≤ 0
  ·rw [if_pos h2] at h; cases h
  ·rw [if_neg h2] at h
   by_cases h3 : (0 ≤ lo ∧ lo ≤ 2000) ∧ (0 ≤ hi ∧ hi ≤ 2000)
   ·rw [if_pos h3] at h
    by_cases h4 : lo ≤ hi
    ·exact ⟨h1, by omega, h3.1, h3.2, h4⟩
    ·rw [if_neg h4] at h; cases h
   ·rw [if_neg h3] at h; cases h
 ·rw [if_neg h1] at h; exact absurd h h1
theorem Corrected_eq {s o d lo hi : Int} (h : cE s o d lo hi = 0) : Rf_Corrected.f s o d lo hi = some (corL s o d lo hi) := by
 obtain ⟨h1, h2, h3, h4, h5⟩ := cE_in h
 obtain ⟨a1, a2⟩ := cor_in h1 h3
 obtain ⟨b1, b2⟩ := cor_in h1 h4
 unfold Rf_Corrected.f
 rw [a1, b1, Floor_eq h2 a2, Ceil_eq h2 b2]; rfl
theorem CorrectedIn_j0 (s o d lo hi : Int) : Ev (fun k => L_CorrectedIn.j0 k (cE s o d lo hi) s o d lo hi) (if cE s o d lo hi = 0 then ((corL s o d lo hi).1, (corL s o d lo hi).2, 0) else (0, 0, cE s o d lo hi)) := by
 refine Ev.succ (f := fun k => L_CorrectedIn.j0 k (cE s o d lo hi) s o d lo hi) ?_
 by_cases h : cE s o d lo hi = 0
 ·obtain ⟨h1, h2, h3, h4, h5⟩ := cE_in h
  obtain ⟨a1, a2⟩ := cor_in h1 h3
  obtain ⟨b1, b2⟩ := cor_in h1 h4
  simp only [L_CorrectedIn.j0, h, if_true, a1, b1, floor_eq h2 a2, ceil_eq h2 b2, Option.bind_some]
  exact Ev.some
 ·simp only [L_CorrectedIn.j0, h, if_false]; exact Ev.some
theorem CorrectedIn_ev (s o d lo hi : Int) : Ev (fun k => L_CorrectedIn.f k s o d lo hi) (if cE s o d lo hi = 0 then ((corL s o d lo hi).1, (corL s o d lo hi).2, 0) else (0, 0, cE s o d lo hi)) := by
 have hj := CorrectedIn_j0 s o d lo hi
 generalize hr : (if cE s o d lo hi = 0 then ((corL s o d lo hi).1, (corL s o d lo hi).2, 0) else ((0 : Int), (0 : Int), cE s o d lo hi)) = r at hj ⊢
 clear hr
 unfold L_CorrectedIn.f
 refine Ev.bind (lineErr_ev s o d) ?_
 simp only [within_eq, unless_eq, Option.bind_some, decide_eq_true_eq]
 have key : ∀ u : Int, u = (if (0 ≤ lo ∧ lo ≤ 2000) ∧ (0 ≤ hi ∧ hi ≤ 2000) then 0 else 2) → fnz [lE s o d, if s > 0 then 0 else 11, u, if lo ≤ hi then 0 else 9] = cE s o d lo hi := by
  intro u hu
  subst hu
  unfold cE
  by_cases h : lE s o d = 0
  ·by_cases h2 : s ≤ 0
   ·simp only [fnz, h, h2, if_true, if_false, show ¬ s > 0 by omega, show ¬ (11 : Int) = 0 by decide]
   ·by_cases h3 : (0 ≤ lo ∧ lo ≤ 2000) ∧ (0 ≤ hi ∧ hi ≤ 2000)
    ·by_cases h4 : lo ≤ hi
     ·simp only [fnz, h, h2, h3, h4, and_self, if_true, if_false, show s > 0 by omega]
     ·simp only [fnz, h, h2, h3, h4, and_self, if_true, if_false, show s > 0 by omega, show ¬ (9 : Int) = 0 by decide]
    ·simp only [fnz, h, h2, h3, if_true, if_false, show s > 0 by omega, show ¬ (2 : Int) = 0 by decide]
  ·simp only [fnz, h, if_false]
 by_cases h1 : 0 ≤ lo ∧ lo ≤ 2000
 ·simp only [h1, and_self, if_true]
  refine Ev.bind (first_ev _ (by simp)) ?_
  rw [key _ (by simp only [h1, and_self, true_and])]
  exact hj
 ·simp only [h1, if_false, Bool.false_eq_true]
  refine Ev.bind (first_ev _ (by simp)) ?_
  rw [key _ (by simp only [h1, false_and, if_false])]
  exact hj

theorem back {s o d x : Int} (hd : 0 < d) (hs : 0 < s) : ((d * ((s * x + o) / d) - o) / s) ≤ x ∧ x ≤ cdiv (d * cdiv (s * x + o) d - o) s := by
 have h1 := Int.mul_ediv_add_emod (s * x + o) d
 have h2 := Int.emod_nonneg (s * x + o) (show d ≠ 0 by omega)
 constructor
 ·have : d * ((s * x + o) / d) - o ≤ x * s := by rw [Int.mul_comm x s]; omega
  exact Int.ediv_le_of_le_mul hs this
 ·unfold cdiv
  have g1 := Int.mul_ediv_add_emod (-(s * x + o)) d
  have g2 := Int.emod_nonneg (-(s * x + o)) (show d ≠ 0 by omega)
  have g3 : d * -(-(s * x + o) / d) = -(d * (-(s * x + o) / d)) := Int.mul_neg _ _
  have : -(d * -(-(s * x + o) / d) - o) ≤ (-x) * s := by rw [g3, Int.neg_mul, Int.mul_comm x s]; omega
  have := Int.ediv_le_of_le_mul hs this
  omega

theorem TargetCorrected_ev (s o d x lo hi : Int) : Ev (fun k => Lw_TargetCorrected.f k s o d x lo hi) true := by
 unfold Lw_TargetCorrected.f
 refine Ev.bind awake_ev ?_
 simp only [if_true]
 refine Ev.bind (LineAt_ev s o d x) ?_
 refine Ev.bind (CorrectedIn_ev s o d lo hi) ?_
 refine Ev.bind (CorrectedErr_ev s o d lo hi) ?_
 have h0 : ∀ q : Int × Int × Int, q = (if lE s o d = 0 then (if 0 ≤ x ∧ x ≤ 2000 then ((atL s o d x).1, (atL s o d x).2, 0) else (0, 0, 2)) else (0, 0, lE s o d)) → Ev (fun k => Lw_TargetCorrected.j0 k x q.2.2 false s o d q.1 q.2.1) true := by
  intro q hq
  refine Ev.succ (f := fun k => Lw_TargetCorrected.j0 k x q.2.2 false s o d q.1 q.2.1) ?_
  simp only [Lw_TargetCorrected.j0, Bool.false_eq_true, if_false]
  refine Ev.bind (LineErr_ev s o d) ?_
  by_cases h : lE s o d = 0
  ·simp only [h, if_true, Within_eq, Option.bind_some]
   refine Ev.succ (f := fun k => Lw_TargetCorrected.j1 k x q.2.2 0 _ s o d q.1 q.2.1) ?_
   by_cases hx : 0 ≤ x ∧ x ≤ 2000
   ·simp only [h, hx, and_self, if_true] at hq
    subst hq
    simp only [Lw_TargetCorrected.j1, hx, and_self, decide_true, Bool.not_true, Bool.false_eq_true, if_false]
    refine Ev.succ (f := fun k => Lw_TargetCorrected.j2 k x 0 0 s o d _ _) ?_
    simp only [Lw_TargetCorrected.j2, if_true, At_eq h hx, Option.bind_some]
    simp only [beq_self_eq_true, Bool.not_true, Bool.or_self]
    refine Ev.succ (f := fun k => Lw_TargetCorrected.j3 k x false s o d _ _) ?_
    simp only [Lw_TargetCorrected.j3, Bool.false_eq_true, if_false]
    refine Ev.bind (CorrectedErr_ev _ _ _ _ _) ?_
    by_cases hc : cE s o d (atL s o d x).1 (atL s o d x).2 = 0
    ·simp only [hc, if_true]
     refine Ev.bind (CorrectedIn_ev _ _ _ _ _) ?_
     have hb := back (s := s) (o := o) (d := d) (x := x) (at_in h hx).1 (cE_in hc).2.1
     simp only [hc, if_true]
     simp only [corL, atL] at hb ⊢
     simp only [hb, if_true, decide_true]; exact Ev.some
    ·simp only [hc, if_false]; exact Ev.some
   ·simp only [h, hx, if_true, if_false] at hq
    subst hq
    simp only [Lw_TargetCorrected.j1, hx, decide_false, Bool.not_false, if_true]
    refine Ev.succ (f := fun k => Lw_TargetCorrected.j2 k x 2 2 s o d 0 0) ?_
    simp only [Lw_TargetCorrected.j2, show ¬ (2 : Int) = 0 by decide, if_false, if_true, beq_self_eq_true, Bool.and_self]; exact Ev.some
  ·simp only [h, if_false] at hq ⊢
   subst hq
   refine Ev.succ (f := fun k => Lw_TargetCorrected.j1 k x _ _ false s o d 0 0) ?_
   simp only [Lw_TargetCorrected.j1, Bool.false_eq_true, if_false]
   refine Ev.succ (f := fun k => Lw_TargetCorrected.j2 k x _ _ s o d 0 0) ?_
   simp only [Lw_TargetCorrected.j2, h, if_false, if_true, beq_self_eq_true, Bool.and_self]; exact Ev.some
 have h1 := h0 _ rfl
 by_cases hc : cE s o d lo hi = 0
 ·simp only [hc, if_true, Corrected_eq hc, Option.bind_some, beq_self_eq_true, Bool.not_true, Bool.or_self]
  exact h1
 ·simp only [hc, if_false, if_true, beq_self_eq_true, Bool.not_true, Bool.or_self, Bool.false_eq_true]
  exact h1
theorem TargetCorrected_pure (s : Int) (_ : (Lit.int .i64 s).wf = true) (o : Int) (_ : (Lit.int .i64 o).wf = true) (d : Int) (_ : (Lit.int .i64 d).wf = true) (x : Int) (_ : (Lit.int .i64 x).wf = true) (lo : Int) (_ : (Lit.int .i64 lo).wf = true) (hi : Int) (_ : (Lit.int .i64 hi).wf = true) :
  ∃ k, Lw_TargetCorrected.f k s o d x lo hi = some true := (TargetCorrected_ev s o d x lo hi).ex
end Go.Proofs.Ytibhfahbabgbaaa.P
