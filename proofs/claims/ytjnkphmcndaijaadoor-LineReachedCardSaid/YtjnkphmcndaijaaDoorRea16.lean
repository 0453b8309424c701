/-
PLAIN LAW: what the walks compute answers as the statement says (no program in sight; Ev: from some number of rounds on).
-/
import Derived.Test.YtjnkphmcndaijaaDoorRea13
import Derived.Test.YtjnkphmcndaijaaDoorRea09
import Derived.Test.YtjnkphmcndaijaaDoorRea12
import Derived.Test.YtjnkphmcndaijaaDoorRea15
import Derived.Test.YtjnkphmcndaijaaDoorRea04
import Derived.Test.YtjnkphmcndaijaaDoorRea08
import Derived.Test.YtjnkphmcndaijaaDoorRea14
import Derived.Test.YtjnkphmcndaijaaDoorRea06
namespace Go.Proofs.YtjnkphmcndaijaaDoor.P
open Go Go.RowKit Go.Proofs.YtjnkphmcndaijaaDoor.A Go.Proofs.YtjnkphmcndaijaaDoorW.PrintWords Go.Proofs.YtjnkphmcndaijaaDoorW.PrintLast Go.Proofs.YtjnkphmcndaijaaDoorW.PrintMore
set_option linter.unusedSimpArgs false
set_option linter.unusedVariables false
/-- From some number of rounds on, f says r. -/
def Ev {α : Type} (f : Nat → Option α) (r : α) : Prop := ∃ k, ∀ j, k ≤ j → f j = some r

theorem Ev.some {α : Type} {r : α} : Ev (fun _ => Option.some r) r := ⟨0, fun _ _ => rfl⟩
theorem Ev.bind {α β : Type} {f : Nat → Option α} {g : Nat → α → Option β} {a : α} {b : β} (h : Ev f a) (h2 : Ev (fun k => g k a) b) : Ev (fun k => (f k).bind (g k)) b := by
 obtain ⟨k, hk⟩ := h
 obtain ⟨m, hm⟩ := h2
 exact ⟨max k m, fun j hj => by show (f j).bind (g j) = _; rw [hk j (by omega)]; exact hm j (by omega)⟩
theorem Ev.succ {α : Type} {f : Nat → Option α} {r : α} (h : Ev (fun k => f (k + 1)) r) : Ev f r := by
 obtain ⟨k, hk⟩ := h
 exact ⟨k + 1, fun j hj => by obtain ⟨m, rfl⟩ : ∃ m, j = m + 1 := ⟨j - 1, by omega⟩; exact hk m (by omega)⟩
theorem Ev.congr {α : Type} {f g : Nat → Option α} {r : α} (e : ∀ k, f k = g k) (h : Ev f r) : Ev g r := by
 obtain ⟨k, hk⟩ := h
 exact ⟨k, fun j hj => by rw [← e j]; exact hk j hj⟩
theorem Ev.ex {α : Type} {f : Nat → Option α} {r : α} (h : Ev f r) : ∃ k, f k = Option.some r := let ⟨k, hk⟩ := h; ⟨k, hk k (Nat.le_refl _)⟩
theorem Ev.of_mono {α : Type} {f : Nat → Option α} {r : α} (hm : ∀ k, LeO (f k) (f (k + 1))) {k : Nat} (h : f k = Option.some r) : Ev f r := by
  refine ⟨k, fun j hj => ?_⟩
  induction j with
  | zero => obtain rfl : k = 0 := by omega
            exact h
  | succ j ih =>
    by_cases e : k = j + 1
    · subst e; exact h
    · exact hm j r (ih (by omega))
theorem up {i : Nat} (h : i < 4611686018427387904) : wrap64 ((i : Int) + 1) = ((i + 1 : Nat) : Int) := by
 unfold wrap64; omega
theorem w64 {n : Int} (h : -9223372036854775808 ≤ n ∧ n ≤ 9223372036854775807) : wrap64 n = n := by unfold wrap64; omega
theorem rd_nat (l : List Int) (i : Nat) : rd l (i : Int) = l.getD i 0 := by unfold rd; simp
theorem drop_rd {l : List Int} {i : Nat} (h : i < l.length) : l.drop i = rd l (i : Int) :: l.drop (i + 1) := by
 rw [rd_nat, List.drop_eq_getElem_cons h]
 simp [List.getD_eq_getElem?_getD, h]

theorem mx_eq (a b : Int) : mx a b = max a b := by unfold mx; split <;> omega

theorem within_eq (a b c : Int) : line_within.f a b c = some (decide (b ≤ a ∧ a ≤ c)) := by
 unfold line_within.f
 by_cases h : b ≤ a <;> simp [h]
theorem Within_eq (a b c : Int) : Bs_Within.f a b c = some (decide (b ≤ a ∧ a ≤ c)) := by
 unfold Bs_Within.f
 by_cases h : b ≤ a <;> simp [h]
theorem unless_eq (b : Bool) (e : Int) : line_unless.f b e = some (if b = true then 0 else e) := by
 unfold line_unless.f
 cases b <;> simp
theorem Size_eq (a : Int) : Bs_Size.f a = some (mx a (wrap64 (-a))) := rfl
theorem short_eq (l : List Int) : Lw_short.f l = some (decide ((l.length : Int) ≤ 20)) := rfl

/-- The first number that is not 0. -/
def fnz : List Int → Int
 | [] => 0
 | x :: r => if x = 0 then fnz r else x

theorem first_l0 (l : List Int) (hl : l.length < 4611686018427387904) : ∀ (n i : Nat), i + n = l.length → Ev (fun k => line_first.l0 k l (l.length : Int) (i : Int)) (fnz (l.drop i))
 | 0, i, h => by
  refine Ev.succ (f := fun k => line_first.l0 k l (l.length : Int) (i : Int)) ?_
  have h1 : ¬ (i : Int) < (l.length : Int) := by omega
  simp only [line_first.l0, h1, if_false]
  rw [show l.drop i = [] from List.drop_eq_nil_of_le (by omega)]
  exact Ev.some
 | n + 1, i, h => by
  refine Ev.succ (f := fun k => line_first.l0 k l (l.length : Int) (i : Int)) ?_
  have h1 : (i : Int) < (l.length : Int) := by omega
  have h2 : (0 : Int) ≤ (i : Int) := by omega
  simp only [line_first.l0, h1, h2, if_true, up (show i < 4611686018427387904 by omega)]
  rw [drop_rd (show i < l.length by omega)]
  unfold fnz
  by_cases e : rd l (i : Int) = 0
  ·simp only [e, if_true]
   exact first_l0 l hl n (i + 1) (by omega)
  ·simp only [e, if_false]
   exact Ev.some
theorem first_ev (l : List Int) (hl : l.length < 4611686018427387904) : Ev (fun k => line_first.f k l) (fnz l) := first_l0 l hl l.length 0 (by omega)

/-- Not from 0 to m. -/
def bad (m x : Int) : Bool := !(decide (0 ≤ x) && decide (x ≤ m))
theorem within_bad (m x : Int) : decide (0 ≤ x ∧ x ≤ m) = !bad m x := by
 unfold bad; by_cases h : 0 ≤ x <;> by_cases h2 : x ≤ m <;> simp [h, h2]
/-- The index of the first one that is not within, or none; the number of the error. -/
def lErr (l : List Int) (n : Nat) (m : Int) : Int × Int :=
 if l.length = 0 then (0, 10) else if n < l.length then (0, 8) else
  if idxF (bad m) l ≥ 0 then (idxF (bad m) l, 2) else (0, 0)

theorem listErr_eq (l : List Int) (n : Nat) (m : Int) : line_listErr.f l (n : Int) m = some (lErr l n m) := by
 have hb : (fun x : Int => !(decide (0 ≤ x) && decide (x ≤ m))) = bad m := rfl
 unfold line_listErr.f lErr
 rw [hb]
 by_cases h0 : l.length = 0
 ·simp only [h0, if_true]
 ·by_cases h1 : n < l.length
  ·have h2 : (n : Int) < (l.length : Int) := by omega
   simp only [h0, h1, h2, if_true, if_false]
  ·have h2 : ¬ (n : Int) < (l.length : Int) := by omega
   simp only [h0, h1, h2, if_false]
   split <;> rfl
theorem lineCheckSpectrum_eq (l : List Int) : line_CheckSpectrum.f l = some (lErr l 16 10000) := by
 have h : line_listErr.f l 16 10000 = some (lErr l 16 10000) := listErr_eq l 16 10000
 unfold line_CheckSpectrum.f; rw [h]; rfl
theorem lineCheckNoise_eq (l : List Int) : line_CheckNoise.f l = some (lErr l 4 1000) := by
 have h : line_listErr.f l 4 1000 = some (lErr l 4 1000) := listErr_eq l 4 1000
 unfold line_CheckNoise.f; rw [h]; rfl

theorem idxF_nil (p : Int → Bool) : idxF p [] = -1 := rfl
theorem idxF_ge (p : Int → Bool) (l : List Int) : -1 ≤ idxF p l := by
 unfold idxF
 cases l.findIdx? p <;> simp <;> omega
theorem idxF_cons (p : Int → Bool) (a : Int) (r : List Int) : idxF p (a :: r) = if p a = true then 0 else if idxF p r ≥ 0 then idxF p r + 1 else -1 := by
  unfold idxF
  rw [List.findIdx?_cons]
  by_cases h : p a = true
  · simp [h]
  · simp only [h, if_false, Bool.false_eq_true]
    cases r.findIdx? p with
    | none => simp
    | some i => simp <;> omega

theorem refSpectrum_l0 (l : List Int) (hl : l.length < 4611686018427387904) : ∀ (n i : Nat), i + n = l.length →
  Ev (fun k => Rf_CheckSpectrum.l0 k l (i : Int)) (if idxF (bad 10000) (l.drop i) ≥ 0 then (idxF (bad 10000) (l.drop i) + i, 2) else (0, 0))
 | 0, i, h => by
  refine Ev.succ (f := fun k => Rf_CheckSpectrum.l0 k l (i : Int)) ?_
  have h1 : ¬ (i : Int) < (l.length : Int) := by omega
  simp only [Rf_CheckSpectrum.l0, h1, if_false]
  rw [show l.drop i = [] from List.drop_eq_nil_of_le (by omega), idxF_nil]
  exact Ev.some
 | n + 1, i, h => by
  refine Ev.succ (f := fun k => Rf_CheckSpectrum.l0 k l (i : Int)) ?_
  have h1 : (i : Int) < (l.length : Int) := by omega
  have h2 : (0 : Int) ≤ (i : Int) := by omega
  simp only [Rf_CheckSpectrum.l0, h1, h2, if_true, up (show i < 4611686018427387904 by omega), Within_eq, within_bad, Option.bind_some]
  rw [drop_rd (show i < l.length by omega), idxF_cons]
  cases e : bad 10000 (rd l (i : Int)) with
  | false =>
   simp only [e, Bool.not_false, if_true, Bool.false_eq_true, if_false]
   have ih := refSpectrum_l0 l hl n (i + 1) (by omega)
   have hg := idxF_ge (bad 10000) (l.drop (i + 1))
   by_cases q : idxF (bad 10000) (l.drop (i + 1)) ≥ 0
   ·simp only [q, if_true] at ih ⊢
    rw [if_pos (by omega), show idxF (bad 10000) (l.drop (i + 1)) + 1 + (i : Int) = idxF (bad 10000) (l.drop (i + 1)) + ((i + 1 : Nat) : Int) by omega]
    exact ih
   ·simp only [q, if_false] at ih ⊢
    exact ih
  | true =>
   simp only [e, Bool.not_true, Bool.false_eq_true, if_false, if_true]
   rw [if_pos (by omega), Int.zero_add]
   exact Ev.some
theorem refCheckSpectrum_ev (l : List Int) : Ev (fun k => Rf_CheckSpectrum.f k l) (lErr l 16 10000) := by
 unfold Rf_CheckSpectrum.f lErr
 by_cases h0 : l.length = 0
 ·have : (l.length : Int) = 0 := by omega
  simp only [h0, if_true]
  exact Ev.some
 ·have h0' : ¬ (l.length : Int) = 0 := by omega
  by_cases h1 : 16 < l.length
  ·have h2 : (l.length : Int) > 16 := by omega
   simp only [h0, h0', h1, h2, if_true, if_false]
   exact Ev.some
  ·have h2 : ¬ (l.length : Int) > 16 := by omega
   simp only [h0, h0', h1, h2, if_false]
   have := refSpectrum_l0 l (by omega) l.length 0 (by omega)
   simpa using this
theorem refNoise_l0 (l : List Int) (hl : l.length < 4611686018427387904) : ∀ (n i : Nat), i + n = l.length →
  Ev (fun k => Rf_CheckNoise.l0 k (i : Int) l) (if idxF (bad 1000) (l.drop i) ≥ 0 then (idxF (bad 1000) (l.drop i) + i, 2) else (0, 0))
 | 0, i, h => by
  refine Ev.succ (f := fun k => Rf_CheckNoise.l0 k (i : Int) l) ?_
  have h1 : ¬ (i : Int) < (l.length : Int) := by omega
  simp only [Rf_CheckNoise.l0, h1, if_false]
  rw [show l.drop i = [] from List.drop_eq_nil_of_le (by omega), idxF_nil]
  exact Ev.some
 | n + 1, i, h => by
  refine Ev.succ (f := fun k => Rf_CheckNoise.l0 k (i : Int) l) ?_
  have h1 : (i : Int) < (l.length : Int) := by omega
  have h2 : (0 : Int) ≤ (i : Int) := by omega
  simp only [Rf_CheckNoise.l0, h1, h2, if_true, up (show i < 4611686018427387904 by omega), Within_eq, within_bad, Option.bind_some]
  rw [drop_rd (show i < l.length by omega), idxF_cons]
  cases e : bad 1000 (rd l (i : Int)) with
  | false =>
   simp only [e, Bool.not_false, if_true, Bool.false_eq_true, if_false]
   have ih := refNoise_l0 l hl n (i + 1) (by omega)
   have hg := idxF_ge (bad 1000) (l.drop (i + 1))
   by_cases q : idxF (bad 1000) (l.drop (i + 1)) ≥ 0
   ·simp only [q, if_true] at ih ⊢
    rw [if_pos (by omega), show idxF (bad 1000) (l.drop (i + 1)) + 1 + (i : Int) = idxF (bad 1000) (l.drop (i + 1)) + ((i + 1 : Nat) : Int) by omega]
    exact ih
   ·simp only [q, if_false] at ih ⊢
    exact ih
  | true =>
   simp only [e, Bool.not_true, Bool.false_eq_true, if_false, if_true]
   rw [if_pos (by omega), Int.zero_add]
   exact Ev.some
theorem refCheckNoise_ev (l : List Int) : Ev (fun k => Rf_CheckNoise.f k l) (lErr l 4 1000) := by
 unfold Rf_CheckNoise.f lErr
 by_cases h0 : l.length = 0
 ·have : (l.length : Int) = 0 := by omega
  simp only [h0, if_true]
  exact Ev.some
 ·have h0' : ¬ (l.length : Int) = 0 := by omega
  by_cases h1 : 4 < l.length
  ·have h2 : (l.length : Int) > 4 := by omega
   simp only [h0, h0', h1, h2, if_true, if_false]
   exact Ev.some
  ·have h2 : ¬ (l.length : Int) > 4 := by omega
   simp only [h0, h0', h1, h2, if_false]
   have := refNoise_l0 l (by omega) l.length 0 (by omega)
   simpa using this
/-- What the program says for it (the one number without a positive twin stays as it is). -/
def gq (x y : Int) : Int := if Int.gcd x y = 9223372036854775808 then -9223372036854775808 else (Int.gcd x y : Int)

theorem size_abs {x : Int} (h : -9223372036854775808 ≤ x ∧ x ≤ 9223372036854775807) : mx x (wrap64 (-x)) = gq x 0 := by
 unfold gq
 rw [Int.gcd_zero_right]
 unfold mx wrap64
 by_cases e : x = -9223372036854775808
 ·subst e; rfl
 ·rw [if_neg (show ¬ x.natAbs = 9223372036854775808 by omega)]
  split <;> omega

theorem gcd_step (x y : Int) : gq y (x.tmod y) = gq x y := by
 have : Int.gcd y (x.tmod y) = Int.gcd x y := by
  show Nat.gcd y.natAbs (x.tmod y).natAbs = Nat.gcd x.natAbs y.natAbs
  rw [Int.natAbs_tmod, Nat.gcd_comm, ← Nat.gcd_rec, Nat.gcd_comm]
 unfold gq
 rw [this]

theorem tmod_in {x y : Int} (hx : -9223372036854775808 ≤ x ∧ x ≤ 9223372036854775807) (hy : -9223372036854775808 ≤ y ∧ y ≤ 9223372036854775807) (h0 : y ≠ 0) : (x.tmod y).natAbs < y.natAbs ∧ -9223372036854775808 ≤ x.tmod y ∧ x.tmod y ≤ 9223372036854775807 := by
 have h : (x.tmod y).natAbs < y.natAbs := by
  rw [Int.natAbs_tmod]
  exact Nat.mod_lt _ (by omega)
 omega

theorem gcd_l0 : ∀ (m : Nat) (x y : Int), y.natAbs ≤ m → (-9223372036854775808 ≤ x ∧ x ≤ 9223372036854775807) → (-9223372036854775808 ≤ y ∧ y ≤ 9223372036854775807) → Ev (fun k => Bs_Gcd.l0 k x y) (gq x y)
 | 0, x, y, h, hx, _ => by
  refine Ev.succ (f := fun k => Bs_Gcd.l0 k x y) ?_
  obtain rfl : y = 0 := by omega
  simp only [Bs_Gcd.l0, if_true, Size_eq, Option.bind_some, size_abs hx]
  exact Ev.some
 | m + 1, x, y, h, hx, hy => by
  refine Ev.succ (f := fun k => Bs_Gcd.l0 k x y) ?_
  by_cases h0 : y = 0
  ·subst h0
   simp only [Bs_Gcd.l0, if_true, Size_eq, Option.bind_some, size_abs hx]
   exact Ev.some
  ·simp only [Bs_Gcd.l0, h0, if_false]
   have ht := tmod_in hx hy h0
   rw [← gcd_step x y]
   exact gcd_l0 m y (x.tmod y) (by omega) hy ht.2
theorem gcd_ev {x y : Int} (hx : -9223372036854775808 ≤ x ∧ x ≤ 9223372036854775807) (hy : -9223372036854775808 ≤ y ∧ y ≤ 9223372036854775807) : Ev (fun k => Bs_Gcd.f k x y) (gq x y) := gcd_l0 _ x y (Nat.le_refl _) hx hy
theorem divisor_eq : ∀ (k : Nat) (x y : Int), line_divisor.l0 k x y = Bs_Gcd.l0 k x y
 | 0, _, _ => rfl
 | k + 1, x, y => by
  simp only [line_divisor.l0, Bs_Gcd.l0, divisor_eq k, Size_eq, Option.bind_some]
theorem divisor_ev {x y : Int} (hx : -9223372036854775808 ≤ x ∧ x ≤ 9223372036854775807) (hy : -9223372036854775808 ≤ y ∧ y ≤ 9223372036854775807) : Ev (fun k => line_divisor.f k x y) (gq x y) :=
 Ev.congr (f := fun k => Bs_Gcd.f k x y) (fun k => (divisor_eq k x y).symm) (gcd_ev hx hy)

def tErr (num den : Int) : Int := if den ≤ 0 then 3 else if gq num den = 1 then (if (-100 ≤ num ∧ num ≤ 100) ∧ den ≤ 100 then 0 else 2) else 3

theorem lowestErr_ev {num den : Int} (hx : -9223372036854775808 ≤ num ∧ num ≤ 9223372036854775807) (hy : -9223372036854775808 ≤ den ∧ den ≤ 9223372036854775807) :
    Ev (fun k => line_lowestErr.f k num den 100) (tErr num den) := by
  unfold line_lowestErr.f tErr
  have hj : ∀ b : Bool, Ev (fun k => line_lowestErr.j0 k 100 b num den) (if b = true then 3 else if (-100 ≤ num ∧ num ≤ 100) ∧ den ≤ 100 then 0 else 2) := fun b => by
    refine Ev.succ (f := fun k => line_lowestErr.j0 k 100 b num den) ?_
    cases b with
    | true => simp only [line_lowestErr.j0, if_true]; exact Ev.some
    | false =>
      simp only [line_lowestErr.j0, Bool.false_eq_true, if_false, within_eq, unless_eq, Option.bind_some, show wrap64 (-100) = -100 by unfold wrap64; omega]
      by_cases h1 : -100 ≤ num ∧ num ≤ 100
      · by_cases h2 : den ≤ 100
        · simp only [h1, h2, and_self, decide_true, if_true]; exact Ev.some
        · simp only [h1, h2, and_self, and_false, decide_true, decide_false, if_true, if_false, Bool.false_eq_true]; exact Ev.some
      · simp only [h1, decide_false, false_and, if_false, Bool.false_eq_true]; exact Ev.some
  by_cases h0 : den ≤ 0
  · simp only [h0, if_true]
    have := hj true
    simpa using this
  · simp only [h0, if_false]
    refine Ev.bind (divisor_ev hx hy) ?_
    refine cast ?_ (hj (gq num den != 1))
    congr 1
    by_cases h1 : gq num den = 1 <;> simp [h1]

theorem TruthErr_ev {num den : Int} (hx : -9223372036854775808 ≤ num ∧ num ≤ 9223372036854775807) (hy : -9223372036854775808 ≤ den ∧ den ≤ 9223372036854775807) :
  Ev (fun k => Rf_TruthErr.f k num den) (tErr num den) := by
 have h1 : Ev (fun k => Bs_IsLowest.f k num den) (decide (¬ den ≤ 0 ∧ gq num den = 1)) := by
  unfold Bs_IsLowest.f
  by_cases h0 : den ≤ 0
  ·simp only [show ¬ den > 0 by omega, if_false, h0, not_true, false_and, decide_false]
   exact Ev.some
  ·simp only [show den > 0 by omega, if_true, h0, not_false_iff, true_and]
   refine Ev.bind (gcd_ev hx hy) ?_
   by_cases e : gq num den = 1
   ·simp only [e]; exact Ev.some
   ·simp only [e, decide_false, show (gq num den == 1) = false from beq_eq_false_iff_ne.mpr e]; exact Ev.some
 have h2 : ∃ s : Int, Ev (fun k => Rf_FracErr.f k num den) s ∧ ((¬ den ≤ 0 ∧ gq num den = 1) → s = (if (-1000000000 ≤ num ∧ num ≤ 1000000000) ∧ 1 ≤ den ∧ den ≤ 1000000000 then 0 else 2)) ∧ (¬ (¬ den ≤ 0 ∧ gq num den = 1) → s = 3) := by
  unfold Rf_FracErr.f
  by_cases e : ¬ den ≤ 0 ∧ gq num den = 1
  ·refine ⟨if (-1000000000 ≤ num ∧ num ≤ 1000000000) ∧ 1 ≤ den ∧ den ≤ 1000000000 then 0 else 2, Ev.bind h1 ?_, fun _ => rfl, fun h => absurd e h⟩
   simp only [e, not_false_iff, and_self, decide_true, if_true, Bs_IsSmall.f, Within_eq, Option.bind_some]
   by_cases q : -1000000000 ≤ num ∧ num ≤ 1000000000
   ·by_cases r : 1 ≤ den ∧ den ≤ 1000000000
    ·simp only [q, r, and_self, decide_true, if_true, Option.bind_some]; exact Ev.some
    ·simp only [q, r, and_self, and_false, decide_true, decide_false, if_true, if_false, Bool.false_eq_true, Option.bind_some]; exact Ev.some
   ·simp only [q, false_and, decide_false, if_false, Bool.false_eq_true, Option.bind_some]; exact Ev.some
  ·refine ⟨3, Ev.bind h1 ?_, fun h => absurd h e, fun _ => rfl⟩
   simp only [e, decide_false, Bool.false_eq_true, if_false]; exact Ev.some
 obtain ⟨s, hs, ht, hf⟩ := h2
 unfold Rf_TruthErr.f
 refine Ev.bind hs ?_
 unfold tErr
 by_cases h0 : den ≤ 0
 ·rw [hf (fun h => h.1 h0)]
  simp only [h0, if_true, show ¬ (3 : Int) = 0 by decide, if_false]; exact Ev.some
 ·by_cases e : gq num den = 1
  ·rw [ht ⟨h0, e⟩]
   by_cases q : -100 ≤ num ∧ num ≤ 100
   ·by_cases r : den ≤ 100
    ·have : (-1000000000 ≤ num ∧ num ≤ 1000000000) ∧ 1 ≤ den ∧ den ≤ 1000000000 := by omega
     simp only [this, h0, e, q, r, show ¬ den > 100 by omega, and_self, if_true, if_false, Within_eq, Option.bind_some, decide_true]; exact Ev.some
    ·by_cases big : (-1000000000 ≤ num ∧ num ≤ 1000000000) ∧ 1 ≤ den ∧ den ≤ 1000000000
     ·simp only [big, h0, e, q, r, show den > 100 by omega, and_self, and_false, if_true, if_false, Within_eq, Option.bind_some, decide_true]; exact Ev.some
     ·simp only [big, h0, e, q, r, and_false, if_false, if_true, show ¬ (2 : Int) = 0 by decide]; exact Ev.some
   ·by_cases big : (-1000000000 ≤ num ∧ num ≤ 1000000000) ∧ 1 ≤ den ∧ den ≤ 1000000000
    ·simp only [big, h0, e, q, false_and, and_self, if_true, if_false, Within_eq, Option.bind_some, decide_false, Bool.false_eq_true]; exact Ev.some
    ·simp only [big, h0, e, q, false_and, if_false, if_true, show ¬ (2 : Int) = 0 by decide]; exact Ev.some
  ·rw [hf (fun h => e h.2)]
   simp only [h0, e, if_false, show ¬ (3 : Int) = 0 by decide]; exact Ev.some

theorem cases_l0 (v : List Int) (h1 : 1 ≤ v.length) (h4 : v.length ≤ 4) (n : Nat) (hn : n < 4611686018427387904) : ∀ (d i : Nat), i + d = n → v.length ^ i ≤ 4096 →
  Ev (fun k => line_cases.l0 k ((v.length ^ i : Nat) : Int) (n : Int) (i : Int) v) (if v.length ^ n ≤ 4096 then (((v.length ^ n : Nat) : Int), true) else (0, false))
 | 0, i, h, hp => by
  refine Ev.succ (f := fun k => line_cases.l0 k ((v.length ^ i : Nat) : Int) (n : Int) (i : Int) v) ?_
  obtain rfl : i = n := by omega
  simp only [line_cases.l0, show ¬ (i : Int) < (i : Int) by omega, if_false, hp, if_true]
  exact Ev.some
 | d + 1, i, h, hp => by
  refine Ev.succ (f := fun k => line_cases.l0 k ((v.length ^ i : Nat) : Int) (n : Int) (i : Int) v) ?_
  have e : ((v.length ^ i : Nat) : Int) * (v.length : Int) = ((v.length ^ (i + 1) : Nat) : Int) := by rw [Nat.pow_succ]; push_cast; rfl
  have hle : v.length ^ (i + 1) ≤ 4096 * 4 := by rw [Nat.pow_succ]; exact Nat.mul_le_mul hp h4
  simp only [line_cases.l0, show (i : Int) < (n : Int) by omega, if_true, e, w64 (n := ((v.length ^ (i + 1) : Nat) : Int)) (by omega), up (show i < 4611686018427387904 by omega)]
  by_cases q : v.length ^ (i + 1) ≤ 4096
  ·simp only [show ¬ ((v.length ^ (i + 1) : Nat) : Int) > 4096 by omega, if_false]
   exact cases_l0 v h1 h4 n hn d (i + 1) (by omega) q
  ·have : v.length ^ (i + 1) ≤ v.length ^ n := Nat.pow_le_pow_right h1 (by omega)
   rw [if_neg (show ¬ v.length ^ n ≤ 4096 by omega)]
   simp only [show ((v.length ^ (i + 1) : Nat) : Int) > 4096 by omega, if_true]
   exact Ev.some
theorem cases_ev (v : List Int) (h1 : 1 ≤ v.length) (h4 : v.length ≤ 4) (n : Nat) (hn : n < 4611686018427387904) :
  Ev (fun k => line_cases.f k v (n : Int)) (if v.length ^ n ≤ 4096 then (((v.length ^ n : Nat) : Int), true) else (0, false)) := by
 have := cases_l0 v h1 h4 n hn n 0 (by omega) (by simp)
 simpa [line_cases.f] using this
theorem Cases_l0 (v : List Int) (h1 : 1 ≤ v.length) (h4 : v.length ≤ 4) (n : Nat) (hn : n < 4611686018427387904) : ∀ (d i : Nat), i + d = n → v.length ^ i ≤ 4096 →
  Ev (fun k => Rf_Cases.l0 k (n : Int) ((v.length ^ i : Nat) : Int) (i : Int) v) (if v.length ^ n ≤ 4096 then ((v.length ^ n : Nat) : Int) else 4097)
 | 0, i, h, hp => by
  refine Ev.succ (f := fun k => Rf_Cases.l0 k (n : Int) ((v.length ^ i : Nat) : Int) (i : Int) v) ?_
  obtain rfl : i = n := by omega
  simp only [Rf_Cases.l0, show ¬ (i : Int) < (i : Int) by omega, if_false, hp, if_true]
  exact Ev.some
 | d + 1, i, h, hp => by
  refine Ev.succ (f := fun k => Rf_Cases.l0 k (n : Int) ((v.length ^ i : Nat) : Int) (i : Int) v) ?_
  have e : ((v.length ^ i : Nat) : Int) * (v.length : Int) = ((v.length ^ (i + 1) : Nat) : Int) := by rw [Nat.pow_succ]; push_cast; rfl
  have hle : v.length ^ (i + 1) ≤ 4096 * 4 := by rw [Nat.pow_succ]; exact Nat.mul_le_mul hp h4
  simp only [Rf_Cases.l0, show (i : Int) < (n : Int) by omega, if_true, e, w64 (n := ((v.length ^ (i + 1) : Nat) : Int)) (by omega), up (show i < 4611686018427387904 by omega)]
  by_cases q : v.length ^ (i + 1) ≤ 4096
  ·simp only [show ¬ ((v.length ^ (i + 1) : Nat) : Int) > 4096 by omega, if_false]
   exact Cases_l0 v h1 h4 n hn d (i + 1) (by omega) q
  ·have : v.length ^ (i + 1) ≤ v.length ^ n := Nat.pow_le_pow_right h1 (by omega)
   rw [if_neg (show ¬ v.length ^ n ≤ 4096 by omega)]
   simp only [show ((v.length ^ (i + 1) : Nat) : Int) > 4096 by omega, if_true]
   exact Ev.some
theorem Cases_ev (v : List Int) (h1 : 1 ≤ v.length) (h4 : v.length ≤ 4) (n : Nat) (hn : n < 4611686018427387904) :
  Ev (fun k => Rf_Cases.f k v (n : Int)) (if v.length ^ n ≤ 4096 then ((v.length ^ n : Nat) : Int) else 4097) := by
 have := Cases_l0 v h1 h4 n hn n 0 (by omega) (by simp)
 simpa [Rf_Cases.f] using this

def lmx : List Int → Int → Int
 | [], a => a
 | x :: r, a => lmx r (mx a x)
theorem max_l0 (l : List Int) (hl : l.length < 4611686018427387904) : ∀ (n i : Nat) (a : Int), i + n = l.length → Ev (fun k => slices_Max_int_int.l0 k l a (i : Int)) (lmx (l.drop i) a)
 | 0, i, a, h => by
  refine Ev.succ (f := fun k => slices_Max_int_int.l0 k l a (i : Int)) ?_
  simp only [slices_Max_int_int.l0, show ¬ (i : Int) < (l.length : Int) by omega, if_false]
  rw [show l.drop i = [] from List.drop_eq_nil_of_le (by omega)]
  exact Ev.some
 | n + 1, i, a, h => by
  refine Ev.succ (f := fun k => slices_Max_int_int.l0 k l a (i : Int)) ?_
  simp only [slices_Max_int_int.l0, show (i : Int) < (l.length : Int) by omega, show (0 : Int) ≤ (i : Int) by omega, if_true, up (show i < 4611686018427387904 by omega)]
  rw [drop_rd (show i < l.length by omega)]
  exact max_l0 l hl n (i + 1) _ (by omega)
theorem max_ev (l : List Int) (h0 : 0 < l.length) (hl : l.length < 4611686018427387904) : Ev (fun k => slices_Max_int_int.f k l) (lmx (l.drop 1) (rd l 0)) := by
 unfold slices_Max_int_int.f
 simp only [show ¬ (l.length : Int) < 1 by omega, show (0 : Int) < (l.length : Int) by omega, if_true, if_false]
 exact max_l0 l hl (l.length - 1) 1 _ (by omega)
theorem lmx_le : ∀ (l : List Int) (a b : Int), lmx l a ≤ b ↔ a ≤ b ∧ ∀ x ∈ l, x ≤ b
 | [], a, b => by simp [lmx]
 | x :: r, a, b => by
  rw [lmx, lmx_le r, mx_eq]
  simp only [List.mem_cons, forall_eq_or_imp]
  constructor
  ·rintro ⟨h, h2⟩; exact ⟨by omega, by omega, h2⟩
  ·rintro ⟨h, h2, h3⟩; exact ⟨by omega, h3⟩
theorem max_le (l : List Int) (h0 : 0 < l.length) (b : Int) : lmx (l.drop 1) (rd l 0) ≤ b ↔ ∀ x ∈ l, x ≤ b := by
 rw [lmx_le]
 have e := drop_rd (l := l) (i := 0) h0
 simp only [List.drop_zero, Nat.zero_add] at e
 constructor
 ·rintro ⟨h1, h2⟩ x hx
  rw [e] at hx
  rcases List.mem_cons.1 hx with rfl | hx
  ·exact h1
  ·exact h2 x hx
 ·intro h
  exact ⟨h _ (by rw [e]; exact List.mem_cons_self), fun x hx => h x (List.mem_of_mem_drop hx)⟩

def cErr (l v : List Int) (num den : Int) : Int :=
 if (lErr l 16 10000).2 = 0 then (if (lErr v 4 1000).2 = 0 then (if l.all (fun x => decide (x ≤ 9000)) = true then (if v.length ^ l.length ≤ 4096 then tErr num den else 8) else 2) else (lErr v 4 1000).2) else (lErr l 16 10000).2

theorem lErr_len {l : List Int} {n : Nat} {m : Int} (h : (lErr l n m).2 = 0) : 1 ≤ l.length ∧ l.length ≤ n := by
 unfold lErr at h
 by_cases h0 : l.length = 0
 ·simp [h0] at h
 ·by_cases h1 : n < l.length
  ·simp [h0, h1] at h
  ·omega
theorem CheckCase_ev (l v : List Int) {num den : Int} (hx : -9223372036854775808 ≤ num ∧ num ≤ 9223372036854775807) (hy : -9223372036854775808 ≤ den ∧ den ≤ 9223372036854775807) :
  Ev (fun k => line_CheckCase.f k l v num den) (cErr l v num den) := by
 unfold line_CheckCase.f cErr
 rw [lineCheckSpectrum_eq, lineCheckNoise_eq]
 simp only [Option.bind_some]
 refine Ev.bind (first_ev _ (by simp)) ?_
 by_cases h1 : (lErr l 16 10000).2 = 0
 ·by_cases h2 : (lErr v 4 1000).2 = 0
  ·obtain ⟨l1, l2⟩ := lErr_len h1
   obtain ⟨v1, v2⟩ := lErr_len h2
   simp only [h1, h2, fnz, if_true]
   refine Ev.bind (cases_ev v v1 v2 l.length (by omega)) ?_
   refine Ev.bind (max_ev l (by omega) (by omega)) ?_
   simp only [unless_eq, Option.bind_some]
   refine Ev.bind (lowestErr_ev hx hy) ?_
   refine Ev.bind (first_ev _ (by simp)) ?_
   have hm := max_le l (by omega) 9000
   by_cases a : l.all (fun x => decide (x ≤ 9000)) = true
   ·have a' : lmx (l.drop 1) (rd l 0) ≤ 9000 := hm.2 (by simpa using a)
    by_cases c : v.length ^ l.length ≤ 4096
    ·simp only [a, a', c, fnz, decide_true, if_true]
     by_cases t : tErr num den = 0
     ·simp only [t, if_true]; exact Ev.some
     ·simp only [t, if_false]; exact Ev.some
    ·simp only [a, a', c, fnz, decide_true, if_true, if_false, Bool.false_eq_true, show ¬ (8 : Int) = 0 by decide]; exact Ev.some
   ·have a' : ¬ lmx (l.drop 1) (rd l 0) ≤ 9000 := fun h => a (by simpa using hm.1 h)
    simp only [a, a', fnz, decide_false, if_false, Bool.false_eq_true, show ¬ (2 : Int) = 0 by decide]; exact Ev.some
  ·simp only [h1, h2, fnz, if_true, if_false]; exact Ev.some
 ·simp only [h1, fnz, if_false]; exact Ev.some

theorem CaseErr_l0 (l v : List Int) (v1 : 1 ≤ v.length) (v4 : v.length ≤ 4) (hl : l.length < 4611686018427387904) {num den : Int} (hx : -9223372036854775808 ≤ num ∧ num ≤ 9223372036854775807) (hy : -9223372036854775808 ≤ den ∧ den ≤ 9223372036854775807) :
  ∀ (n i : Nat), i + n = l.length → Ev (fun k => Rf_CaseErr.l0 k (i : Int) l v num den) (if (l.drop i).all (fun x => decide (x ≤ 9000)) = true then (if v.length ^ l.length ≤ 4096 then tErr num den else 8) else 2)
 | 0, i, h => by
  refine Ev.succ (f := fun k => Rf_CaseErr.l0 k (i : Int) l v num den) ?_
  simp only [Rf_CaseErr.l0, show ¬ (i : Int) < (l.length : Int) by omega, if_false]
  rw [show l.drop i = [] from List.drop_eq_nil_of_le (by omega)]
  refine Ev.bind (Cases_ev v v1 v4 l.length hl) ?_
  by_cases c : v.length ^ l.length ≤ 4096
  ·simp only [c, if_true, List.all_nil, show ¬ ((v.length ^ l.length : Nat) : Int) > 4096 by omega, if_false]
   exact Ev.bind (TruthErr_ev hx hy) Ev.some
  ·simp only [c, if_true, if_false, List.all_nil, show (4097 : Int) > 4096 by decide]; exact Ev.some
 | n + 1, i, h => by
  refine Ev.succ (f := fun k => Rf_CaseErr.l0 k (i : Int) l v num den) ?_
  simp only [Rf_CaseErr.l0, show (i : Int) < (l.length : Int) by omega, show (0 : Int) ≤ (i : Int) by omega, if_true, up (show i < 4611686018427387904 by omega)]
  rw [drop_rd (show i < l.length by omega), List.all_cons]
  by_cases e : rd l (i : Int) ≤ 9000
  ·simp only [e, decide_true, Bool.true_and, show ¬ rd l (i : Int) > 9000 by omega, if_false]
   exact CaseErr_l0 l v v1 v4 hl hx hy n (i + 1) (by omega)
  ·simp only [e, decide_false, Bool.false_and, show rd l (i : Int) > 9000 by omega, if_true, Bool.false_eq_true, if_false]; exact Ev.some
theorem CaseErr_ev (l v : List Int) {num den : Int} (hx : -9223372036854775808 ≤ num ∧ num ≤ 9223372036854775807) (hy : -9223372036854775808 ≤ den ∧ den ≤ 9223372036854775807) :
  Ev (fun k => Rf_CaseErr.f k l v num den) (cErr l v num den) := by
 have hS : Ev (fun k => Rf_SpectrumErr.f k l) (lErr l 16 10000).2 := Ev.bind (refCheckSpectrum_ev l) Ev.some
 have hN : Ev (fun k => Rf_NoiseErr.f k v) (lErr v 4 1000).2 := Ev.bind (refCheckNoise_ev v) Ev.some
 unfold Rf_CaseErr.f cErr
 refine Ev.bind hS ?_
 by_cases h1 : (lErr l 16 10000).2 = 0
 ·simp only [h1, if_true]
  refine Ev.bind hN ?_
  by_cases h2 : (lErr v 4 1000).2 = 0
  ·obtain ⟨l1, l2⟩ := lErr_len h1
   obtain ⟨v1, v2⟩ := lErr_len h2
   simp only [h2, if_true]
   have := CaseErr_l0 l v v1 v2 (by omega) hx hy l.length 0 (by omega)
   simpa using this
  ·simp only [h2, if_false]; exact Ev.some
 ·simp only [h1, if_false]; exact Ev.some
def nzF (v : List Int) : List Int → Int → List Int
 | [], _ => []
 | x :: r, j => wrap64 (x + rd v (Int.tmod j (v.length : Int))) :: nzF v r (Int.tdiv j (v.length : Int))
theorem nzF_length (v : List Int) : ∀ (l : List Int) (j : Int), (nzF v l j).length = l.length
 | [], _ => rfl
 | _ :: r, j => by simp [nzF, nzF_length v r]

theorem digit_in {j m : Int} (h0 : 0 ≤ j) (h1 : 1 ≤ m) : 0 ≤ Int.tmod j m ∧ Int.tmod j m < m ∧ 0 ≤ Int.tdiv j m ∧ Int.tdiv j m ≤ j := by
 rw [Int.tmod_eq_emod_of_nonneg h0, Int.tdiv_eq_ediv_of_nonneg h0]
 exact ⟨Int.emod_nonneg _ (by omega), Int.emod_lt_of_pos _ (by omega), Int.ediv_nonneg h0 (by omega), Int.ediv_le_self _ h0⟩

theorem noisy_l0 (l v : List Int) (v1 : 1 ≤ v.length) (hl : l.length < 17592186044416) : ∀ (n i : Nat) (j : Int) (acc : List Int), i + n = l.length → 0 ≤ j → j < 9223372036854775808 → acc.length = i →
  Ev (fun k => line_noisy.l0 k j acc l (l.length : Int) (i : Int) v) (acc ++ nzF v (l.drop i) j)
 | 0, i, j, acc, h, _, _, _ => by
  refine Ev.succ (f := fun k => line_noisy.l0 k j acc l (l.length : Int) (i : Int) v) ?_
  simp only [line_noisy.l0, show ¬ (i : Int) < (l.length : Int) by omega, if_false]
  rw [show l.drop i = [] from List.drop_eq_nil_of_le (by omega), nzF, List.append_nil]
  exact Ev.some
 | n + 1, i, j, acc, h, h0, hj, ha => by
  refine Ev.succ (f := fun k => line_noisy.l0 k j acc l (l.length : Int) (i : Int) v) ?_
  obtain ⟨d1, d2, d3, d4⟩ := digit_in (m := (v.length : Int)) h0 (by omega)
  simp only [line_noisy.l0, show (i : Int) < (l.length : Int) by omega, show (0 : Int) ≤ (i : Int) by omega, show ¬ (v.length : Int) = 0 by omega, d1, d2, show acc.length < 17592186044416 by omega, if_true, if_false, up (show i < 4611686018427387904 by omega), w64 (n := Int.tdiv j (v.length : Int)) (by omega)]
  rw [drop_rd (show i < l.length by omega), nzF, List.append_cons acc _ (nzF v (l.drop (i + 1)) _)]
  exact noisy_l0 l v v1 hl n (i + 1) _ (acc ++ [wrap64 (rd l (i : Int) + rd v (Int.tmod j (v.length : Int)))]) (by omega) d3 (by omega) (by rw [List.length_append, ha]; rfl)
theorem noisy_ev (l v : List Int) (v1 : 1 ≤ v.length) (hl : l.length < 17592186044416) (j : Int) (h0 : 0 ≤ j) (hj : j < 9223372036854775808) : Ev (fun k => line_noisy.f k l v j) (nzF v l j) := by
 have := noisy_l0 l v v1 hl l.length 0 j [] (by omega) h0 hj rfl
 simpa [line_noisy.f] using this
theorem max106_l0 (l : List Int) (hl : l.length < 4611686018427387904) : ∀ (n i : Nat) (a : Int), i + n = l.length → Ev (fun k => Sp_int_106.l0 k l a (i : Int)) (lmx (l.drop i) a)
 | 0, i, a, h => by
  refine Ev.succ (f := fun k => Sp_int_106.l0 k l a (i : Int)) ?_
  simp only [Sp_int_106.l0, show ¬ (i : Int) < (l.length : Int) by omega, if_false]
  rw [show l.drop i = [] from List.drop_eq_nil_of_le (by omega)]
  exact Ev.some
 | n + 1, i, a, h => by
  refine Ev.succ (f := fun k => Sp_int_106.l0 k l a (i : Int)) ?_
  simp only [Sp_int_106.l0, show (i : Int) < (l.length : Int) by omega, show (0 : Int) ≤ (i : Int) by omega, if_true, up (show i < 4611686018427387904 by omega)]
  rw [drop_rd (show i < l.length by omega)]
  exact max106_l0 l hl n (i + 1) _ (by omega)
/-- The greatest number of a list. -/
def lmax (l : List Int) : Int := lmx (l.drop 1) (rd l 0)
theorem max106_ev (l : List Int) (h0 : 0 < l.length) (hl : l.length < 4611686018427387904) : Ev (fun k => Sp_int_106.f k l) (lmax l) := by
 unfold Sp_int_106.f
 simp only [show ¬ (l.length : Int) < 1 by omega, show (0 : Int) < (l.length : Int) by omega, if_true, if_false]
 exact max106_l0 l hl (l.length - 1) 1 _ (by omega)
theorem lmax_le (l : List Int) (h0 : 0 < l.length) (b : Int) : lmax l ≤ b ↔ ∀ x ∈ l, x ≤ b := max_le l h0 b
theorem lmx_mem : ∀ (l : List Int) (a : Int), lmx l a = a ∨ lmx l a ∈ l
 | [], a => .inl rfl
 | x :: r, a => by
  rw [lmx]
  rcases lmx_mem r (mx a x) with h | h
  ·rw [h]
   unfold mx
   split
   ·exact .inr List.mem_cons_self
   ·exact .inl rfl
  ·exact .inr (List.mem_cons_of_mem _ h)
theorem lmax_mem (l : List Int) (h0 : 0 < l.length) : lmax l ∈ l := by
 have e := drop_rd (l := l) (i := 0) h0
 simp only [List.drop_zero, Nat.zero_add] at e
 rcases lmx_mem (l.drop 1) (rd l 0) with h | h
 ·unfold lmax; rw [h]; rw [e]; exact List.mem_cons_self
 ·exact List.mem_of_mem_drop h
theorem rd_mem {l : List Int} {i : Nat} (h : i < l.length) : rd l (i : Int) ∈ l := by
 rw [rd_nat, List.getD_eq_getElem?_getD, List.getElem?_eq_getElem h]; exact List.getElem_mem h
theorem mem_rd {l : List Int} {x : Int} (h : x ∈ l) : ∃ i : Nat, i < l.length ∧ rd l (i : Int) = x := by
 obtain ⟨i, hi, e⟩ := List.getElem_of_mem h
 exact ⟨i, hi, by rw [rd_nat, List.getD_eq_getElem?_getD, List.getElem?_eq_getElem hi]; exact e⟩

/-- Line i is as great as any. -/
def pk (l : List Int) (i : Nat) : Bool := l.all fun x => decide (x ≤ rd l (i : Int))
def peaksFrom (l : List Int) : Nat → Nat → List Int
 | 0, _ => []
 | n + 1, i => if pk l i = true then (i : Int) :: peaksFrom l n (i + 1) else peaksFrom l n (i + 1)
theorem mem_peaksFrom (l : List Int) : ∀ (n i : Nat) (p : Int), p ∈ peaksFrom l n i ↔ ∃ q : Nat, p = (q : Int) ∧ i ≤ q ∧ q < i + n ∧ pk l q = true
  | 0, i, p => by simp [peaksFrom]; omega
  | n + 1, i, p => by
    rw [peaksFrom]
    by_cases h : pk l i = true
    · rw [if_pos h, List.mem_cons, mem_peaksFrom l n (i + 1)]
      constructor
      · rintro (rfl | ⟨q, rfl, a, b, c⟩)
        · exact ⟨i, rfl, by omega, by omega, h⟩
        · exact ⟨q, rfl, by omega, by omega, c⟩
      · rintro ⟨q, rfl, a, b, c⟩
        by_cases e : q = i
        · subst e; exact .inl rfl
        · exact .inr ⟨q, rfl, by omega, by omega, c⟩
    · rw [if_neg h, mem_peaksFrom l n (i + 1)]
      constructor
      · rintro ⟨q, rfl, a, b, c⟩; exact ⟨q, rfl, by omega, by omega, c⟩
      · rintro ⟨q, rfl, a, b, c⟩
        exact ⟨q, rfl, by rcases Nat.lt_or_ge i q with h' | h'; exact h'; obtain rfl : q = i := by omega
                          exact absurd c h, by omega, c⟩

/-- All peaks. -/
def peaks (l : List Int) : List Int := peaksFrom l l.length 0
theorem peaks_cons (l : List Int) (h0 : 0 < l.length) : ∃ (p : Nat) (r : List Int), peaks l = (p : Int) :: r ∧ p < l.length ∧ rd l (p : Int) = lmax l := by
  obtain ⟨i, hi, e⟩ := mem_rd (lmax_mem l h0)
  have hmem : (i : Int) ∈ peaks l := (mem_peaksFrom l _ _ _).2 ⟨i, rfl, by omega, by omega, by unfold pk; rw [e]; simpa using (lmax_le l h0 _).1 (Int.le_refl _)⟩
  cases hp : peaks l with
  | nil => rw [hp] at hmem; cases hmem
  | cons p r =>
    obtain ⟨q, rfl, _, hq, hk⟩ := (mem_peaksFrom l _ _ p).1 (by show p ∈ peaks l; rw [hp]; exact List.mem_cons_self)
    refine ⟨q, r, rfl, by omega, ?_⟩
    have h1 : lmax l ≤ rd l (q : Int) := (lmax_le l h0 _).2 (by simpa [pk] using hk)
    have h2 : rd l (q : Int) ≤ lmax l := (lmax_le l h0 _).1 (Int.le_refl _) _ (rd_mem (by omega))
    omega
/-- A fraction in lowest terms, as both say it. -/
def frac (a b : Int) : Int × Int := (wrap64 (Int.tdiv a (gq a b)), wrap64 (Int.tdiv b (gq a b)))
theorem fraction_ev {a b : Int} (ha : -9223372036854775808 ≤ a ∧ a ≤ 9223372036854775807) (hb : -9223372036854775808 ≤ b ∧ b ≤ 9223372036854775807) (h0 : gq a b ≠ 0) : Ev (fun k => line_fraction.f k a b) (frac a b) := by
 unfold line_fraction.f
 refine Ev.bind (divisor_ev ha hb) ?_
 simp only [h0, if_false]
 exact Ev.some
theorem Lowest_ev {a b : Int} (ha : -9223372036854775808 ≤ a ∧ a ≤ 9223372036854775807) (hb : 0 ≤ b ∧ b ≤ 9223372036854775807) (h0 : gq a b ≠ 0) : Ev (fun k => Bs_Lowest.f k a b) (frac a b) := by
 unfold Bs_Lowest.f
 refine Ev.bind (gcd_ev ha (by omega)) ?_
 simp only [show ¬ b < 0 by omega, h0, if_false]
 exact Ev.some

/-- A row of a valid case, or a valid spectrum. -/
def Good (l : List Int) : Prop := (1 ≤ l.length ∧ l.length ≤ 16) ∧ ∀ x ∈ l, 0 ≤ x ∧ x ≤ 10000
theorem Good.rd {l : List Int} (h : Good l) {i : Nat} (hi : i < l.length) : 0 ≤ rd l (i : Int) ∧ rd l (i : Int) ≤ 10000 := h.2 _ (rd_mem hi)

theorem gq_pos' {a b : Int} (hb : 0 < b ∧ b ≤ 4611686018427387904) : 0 < gq a b ∧ gq a b ≤ b ∧ gq a b = (Int.gcd a b : Int) := by
 have h1 : Int.gcd a b ≤ b.natAbs := Nat.le_of_dvd (by omega) (Nat.gcd_dvd_right _ _)
 have h2 : 0 < Int.gcd a b := Int.gcd_pos_of_ne_zero_right _ (by omega)
 unfold gq
 rw [if_neg (by omega)]
 omega
theorem frac_den {a b : Int} (hb : 0 < b ∧ b ≤ 4611686018427387904) : 0 < (frac a b).2 ∧ (frac a b).2 ≤ b := by
 obtain ⟨h1, h2, h3⟩ := gq_pos' (a := a) hb
 have hd : gq a b ∣ b := by rw [h3]; exact Int.gcd_dvd_right _ _
 obtain ⟨c, hc⟩ := hd
 have e : Int.tdiv b (gq a b) = c := by
  rw [Int.tdiv_eq_ediv_of_nonneg (by omega)]
  exact Int.ediv_eq_of_eq_mul_right (by omega) hc
 have c0 : 0 < c := by
  by_cases h : 0 < c
  ·exact h
  ·have := Int.mul_nonneg (show (0 : Int) ≤ gq a b by omega) (show (0 : Int) ≤ -c by omega)
   rw [Int.mul_neg] at this; omega
 have c1 : c ≤ b := by
  have : 1 * c ≤ gq a b * c := Int.mul_le_mul_of_nonneg_right (by omega) (by omega)
  omega
 show 0 < wrap64 _ ∧ wrap64 _ ≤ b
 rw [e, w64 (by omega)]
 exact ⟨c0, c1⟩
theorem frac_num {a b : Int} (hb : 0 < b ∧ b ≤ 4611686018427387904) (ha : -4611686018427387904 ≤ a ∧ a ≤ 4611686018427387904) : (frac a b).1.natAbs ≤ a.natAbs ∧ (0 ≤ a → 0 ≤ (frac a b).1) := by
 obtain ⟨h1, h2, h3⟩ := gq_pos' (a := a) hb
 have h : (Int.tdiv a (gq a b)).natAbs ≤ a.natAbs := by
  rw [Int.natAbs_tdiv]
  exact Nat.div_le_self _ _
 show (wrap64 _).natAbs ≤ _ ∧ (_ → 0 ≤ wrap64 _)
 rw [w64 (by omega)]
 exact ⟨h, fun h0 => Int.tdiv_nonneg h0 (by omega)⟩
theorem frac_one {a : Int} (ha : -4611686018427387904 ≤ a ∧ a ≤ 4611686018427387904) : frac a 1 = (a, 1) := by
 have h : gq a 1 = 1 := by unfold gq; rw [Int.gcd_one_right]; rfl
 unfold frac
 rw [h, Int.tdiv_one, Int.tdiv_one, w64 (by omega), w64 (by omega)]
theorem fraction_ev' {a b : Int} (ha : -9223372036854775808 ≤ a ∧ a ≤ 9223372036854775807) (hb : 0 < b ∧ b ≤ 4611686018427387904) : Ev (fun k => line_fraction.f k a b) (frac a b) :=
 fraction_ev ha (by omega) (Int.ne_of_gt (gq_pos' hb).1)
theorem Lowest_ev' {a b : Int} (ha : -9223372036854775808 ≤ a ∧ a ≤ 9223372036854775807) (hb : 0 < b ∧ b ≤ 4611686018427387904) : Ev (fun k => Bs_Lowest.f k a b) (frac a b) :=
 Lowest_ev ha (by omega) (Int.ne_of_gt (gq_pos' hb).1)
theorem fraction_one {a : Int} (ha : -4611686018427387904 ≤ a ∧ a ≤ 4611686018427387904) : Ev (fun k => line_fraction.f k a 1) (a, 1) := by
 rw [← frac_one ha]; exact fraction_ev' (by omega) (by omega)

/-- The sum of n powers from line i on, and their sum with the lines' numbers. -/
def sn (l : List Int) : Nat → Nat → Int
 | 0, _ => 0
 | n + 1, i => rd l (i : Int) + sn l n (i + 1)
def wn (l : List Int) : Nat → Nat → Int
 | 0, _ => 0
 | n + 1, i => (i : Int) * rd l (i : Int) + wn l n (i + 1)
theorem sn_in {l : List Int} (h : Good l) : ∀ (n i : Nat), i + n ≤ l.length → 0 ≤ sn l n i ∧ sn l n i ≤ 10000 * n
 | 0, i, _ => by simp [sn]
 | n + 1, i, hi => by
  have := sn_in h n (i + 1) (by omega)
  have := h.rd (i := i) (by omega)
  rw [sn]; omega
theorem wn_in {l : List Int} (h : Good l) : ∀ (n i : Nat), i + n ≤ l.length → 0 ≤ wn l n i ∧ wn l n i ≤ 160000 * n
 | 0, i, _ => by simp [wn]
 | n + 1, i, hi => by
  have := wn_in h n (i + 1) (by omega)
  have hr := h.rd (i := i) (by omega)
  have hl := h.1.2
  have h1 : 0 ≤ (i : Int) * rd l (i : Int) := Int.mul_nonneg (by omega) hr.1
  have h2 : (i : Int) * rd l (i : Int) ≤ 16 * 10000 := Int.mul_le_mul (by omega) hr.2 hr.1 (by omega)
  rw [wn]; omega
theorem sn_ge {l : List Int} (h : Good l) : ∀ (n i q : Nat), i + n ≤ l.length → i ≤ q → q < i + n → rd l (q : Int) ≤ sn l n i
 | 0, i, q, _, _, _ => by omega
 | n + 1, i, q, hi, hq, hq2 => by
  have a := sn_in h n (i + 1) (by omega)
  have b := h.rd (i := i) (by omega)
  rw [sn]
  by_cases e : q = i
  ·subst e; omega
  ·have := sn_ge h n (i + 1) q (by omega) (by omega) (by omega)
   omega
theorem sn_zero {l : List Int} (hz : ∀ q : Nat, q < l.length → rd l (q : Int) = 0) : ∀ (n i : Nat), i + n ≤ l.length → sn l n i = 0
 | 0, i, _ => rfl
 | n + 1, i, hi => by rw [sn, hz i (by omega), sn_zero hz n (i + 1) (by omega)]; rfl
theorem sn_snoc (l : List Int) : ∀ (n i : Nat), sn l (n + 1) i = sn l n i + rd l ((i + n : Nat) : Int)
 | 0, i => by simp [sn]
 | n + 1, i => by
  rw [sn, sn_snoc l n (i + 1), sn, show i + 1 + n = i + (n + 1) by omega]; omega
theorem max_zero {l : List Int} (h : Good l) : lmax l = 0 ↔ sn l l.length 0 = 0 := by
 have h0 := h.1.1
 obtain ⟨p, hp, hr⟩ := mem_rd (lmax_mem l (by omega))
 constructor
 ·intro e
  refine sn_zero (fun q hq => ?_) _ _ (by omega)
  have a := h.rd hq
  have b := (lmax_le l (by omega) _).1 (Int.le_refl _) _ (rd_mem hq)
  omega
 ·intro e
  have a := sn_ge h l.length 0 p (by omega) (by omega) (by omega)
  have b := h.rd hp
  omega

theorem sum_l0 (l : List Int) (hl : l.length < 1000) (hg : ∀ x ∈ l, 0 ≤ x ∧ x ≤ 10000) : ∀ (n i : Nat) (a : Int), i + n = l.length → 0 ≤ a → a ≤ 10000 * i →
  Ev (fun k => line_sum.l0 k a l (l.length : Int) (i : Int)) (a + sn l n i)
 | 0, i, a, h, _, _ => by
  refine Ev.succ (f := fun k => line_sum.l0 k a l (l.length : Int) (i : Int)) ?_
  simp only [line_sum.l0, show ¬ (i : Int) < (l.length : Int) by omega, if_false, sn, Int.add_zero]
  exact Ev.some
 | n + 1, i, a, h, h0, h1 => by
  refine Ev.succ (f := fun k => line_sum.l0 k a l (l.length : Int) (i : Int)) ?_
  have hr := hg _ (rd_mem (l := l) (i := i) (by omega))
  simp only [line_sum.l0, show (i : Int) < (l.length : Int) by omega, show (0 : Int) ≤ (i : Int) by omega, if_true, up (show i < 4611686018427387904 by omega), w64 (n := a + rd l (i : Int)) (by omega)]
  have := sum_l0 l hl hg n (i + 1) (a + rd l (i : Int)) (by omega) (by omega) (by omega)
  rw [sn, ← Int.add_assoc]
  exact this
theorem sum_ev (l : List Int) (hl : l.length < 1000) (hg : ∀ x ∈ l, 0 ≤ x ∧ x ≤ 10000) : Ev (fun k => line_sum.f k l) (sn l l.length 0) := by
 have := sum_l0 l hl hg l.length 0 0 (by omega) (by omega) (by omega)
 simpa [line_sum.f] using this
theorem rd_slice {l : List Int} {t f i : Nat} (h : f + i < t) (ht : t ≤ l.length) : rd ((l.take t).drop f) (i : Int) = rd l ((f + i : Nat) : Int) := by
 rw [rd_nat, rd_nat, List.getD_eq_getElem?_getD, List.getD_eq_getElem?_getD, List.getElem?_drop, List.getElem?_take, if_pos h]
theorem sn_slice {l : List Int} {t f : Nat} (ht : t ≤ l.length) : ∀ (n i : Nat), f + i + n ≤ t → sn ((l.take t).drop f) n i = sn l n (f + i)
 | 0, _, _ => rfl
 | n + 1, i, h => by rw [sn, sn, rd_slice (by omega) ht, sn_slice ht n (i + 1) (by omega), Nat.add_assoc]
theorem slice_good {l : List Int} {t f : Nat} (hg : ∀ x ∈ l, 0 ≤ x ∧ x ≤ 10000) : ∀ x ∈ (l.take t).drop f, 0 ≤ x ∧ x ≤ 10000 :=
 fun x hx => hg x (List.mem_of_mem_take (List.mem_of_mem_drop hx))

theorem peaksFrom_first (l : List Int) : ∀ (n i : Nat) (p : Int) (r : List Int), peaksFrom l n i = p :: r → ∀ q : Nat, i ≤ q → (q : Int) < p → ¬ pk l q = true
 | 0, i, p, r, h, _, _, _ => by simp [peaksFrom] at h
 | n + 1, i, p, r, h, q, hq, hp => by
  rw [peaksFrom] at h
  by_cases e : pk l i = true
  ·rw [if_pos e] at h
   have := (List.cons.inj h).1
   omega
  ·rw [if_neg e] at h
   by_cases e2 : q = i
   ·subst e2; exact e
   ·exact peaksFrom_first l n (i + 1) p r h q (by omega) hp
/-- The first line with the maximum power. -/
def fp (l : List Int) : Nat := ((peaks l).headD 0).toNat
theorem fp_is (l : List Int) (h0 : 0 < l.length) : fp l < l.length ∧ rd l (fp l : Int) = lmax l ∧ (∀ q : Nat, q < fp l → rd l (q : Int) ≠ lmax l) ∧ ∃ r, peaks l = (fp l : Int) :: r := by
 obtain ⟨p, r, e, hp, hr⟩ := peaks_cons l h0
 have hf : fp l = p := by unfold fp; rw [e]; simp
 rw [hf]
 refine ⟨hp, hr, fun q hq hrq => ?_, r, e⟩
 refine peaksFrom_first l l.length 0 p r e q (by omega) (by omega) ?_
 unfold pk
 rw [hrq]
 simpa using (lmax_le l h0 _).1 (Int.le_refl _)
theorem idx132_l0 (l : List Int) (x : Int) (hl : l.length < 1000000) (p : Nat) (hp : p < l.length) (hr : rd l (p : Int) = x) (hf : ∀ q : Nat, q < p → rd l (q : Int) ≠ x) : ∀ (n i : Nat), i + n = p → Ev (fun k => Sp_int_132.l0 k l x (l.length : Int) (i : Int)) (p : Int)
 | 0, i, h => by
  refine Ev.succ (f := fun k => Sp_int_132.l0 k l x (l.length : Int) (i : Int)) ?_
  obtain rfl : i = p := by omega
  simp only [Sp_int_132.l0, show (i : Int) < (l.length : Int) by omega, show (0 : Int) ≤ (i : Int) by omega, if_true, hr]
  exact Ev.some
 | n + 1, i, h => by
  refine Ev.succ (f := fun k => Sp_int_132.l0 k l x (l.length : Int) (i : Int)) ?_
  simp only [Sp_int_132.l0, show (i : Int) < (l.length : Int) by omega, show (0 : Int) ≤ (i : Int) by omega, if_true, show ¬ x = rd l (i : Int) from fun e => hf i (by omega) e.symm, if_false, up (show i < 4611686018427387904 by omega)]
  exact idx132_l0 l x hl p hp hr hf n (i + 1) (by omega)
theorem peak_ev (l : List Int) (h0 : 0 < l.length) (hl : l.length < 1000000) : Ev (fun k => Sp_peak.f k l) (fp l : Int) := by
 obtain ⟨h1, h2, h3, _⟩ := fp_is l h0
 unfold Sp_peak.f
 refine Ev.bind (max106_ev l h0 (by omega)) ?_
 refine Ev.bind (f := fun k => Sp_int_132.f k l (lmax l)) (idx132_l0 l _ hl (fp l) h1 h2 h3 (fp l) 0 (by omega)) Ev.some
theorem centroid_l0 {l : List Int} (hg : Good l) (f t : Nat) (hft : f ≤ t) (ht : t ≤ l.length) (hs : 0 < sn l (t - f) f) : ∀ (n i : Nat) (a : Int), i + n = t → 0 ≤ a → a ≤ 160000 * i →
  Ev (fun k => Sp_centroid.l0 k l (f : Int) (t : Int) a (i : Int)) (frac (a + wn l n i) (sn l (t - f) f))
 | 0, i, a, h, a0, a1 => by
  refine Ev.succ (f := fun k => Sp_centroid.l0 k l (f : Int) (t : Int) a (i : Int)) ?_
  have hl := hg.1.2
  have hb := sn_in hg (t - f) f (by omega)
  have hS := sum_ev ((l.take t).drop f) (by simp; omega) (slice_good hg.2)
  rw [show ((l.take t).drop f).length = t - f by simp; omega, sn_slice ht (t - f) 0 (by omega), Nat.add_zero] at hS
  simp only [Sp_centroid.l0, show ¬ (i : Int) < (t : Int) by omega, if_false, show (0 : Int) ≤ (f : Int) by omega, show (f : Int) ≤ (t : Int) by omega, show (t : Int) ≤ (l.length : Int) by omega, if_true, Int.toNat_natCast, wn, Int.add_zero]
  refine Ev.bind hS ?_
  exact Ev.bind (fraction_ev' (by omega) (by omega)) Ev.some
 | n + 1, i, a, h, a0, a1 => by
  refine Ev.succ (f := fun k => Sp_centroid.l0 k l (f : Int) (t : Int) a (i : Int)) ?_
  have hl := hg.1.2
  have hr := hg.rd (i := i) (by omega)
  have h1 : 0 ≤ (i : Int) * rd l (i : Int) := Int.mul_nonneg (by omega) hr.1
  have h2 : (i : Int) * rd l (i : Int) ≤ 16 * 10000 := Int.mul_le_mul (by omega) hr.2 hr.1 (by omega)
  simp only [Sp_centroid.l0, show (i : Int) < (t : Int) by omega, show (0 : Int) ≤ (i : Int) by omega, show (i : Int) < (l.length : Int) by omega, if_true, up (show i < 4611686018427387904 by omega), w64 (n := (i : Int) * rd l (i : Int)) (by omega), w64 (n := a + (i : Int) * rd l (i : Int)) (by omega)]
  have := centroid_l0 hg f t hft ht hs n (i + 1) (a + (i : Int) * rd l (i : Int)) (by omega) (by omega) (by omega)
  rw [wn, ← Int.add_assoc]
  exact this
theorem centroid_ev {l : List Int} (hg : Good l) (f t : Nat) (hft : f ≤ t) (ht : t ≤ l.length) (hs : 0 < sn l (t - f) f) :
  Ev (fun k => Sp_centroid.f k l (f : Int) (t : Int)) (frac (wn l (t - f) f) (sn l (t - f) f)) := by
 have := centroid_l0 hg f t hft ht hs (t - f) f 0 (by omega) (by omega) (by omega)
 simpa [Sp_centroid.f] using this
def par (l : List Int) : Int × Int :=
 if fp l = 0 ∨ fp l + 1 = l.length then ((fp l : Int), 1) else
  if 2 * rd l (fp l : Int) - rd l ((fp l - 1 : Nat) : Int) - rd l ((fp l + 1 : Nat) : Int) ≤ 0 then ((fp l : Int), 1) else
   frac (2 * (2 * rd l (fp l : Int) - rd l ((fp l - 1 : Nat) : Int) - rd l ((fp l + 1 : Nat) : Int)) * (fp l : Int) + rd l ((fp l + 1 : Nat) : Int) - rd l ((fp l - 1 : Nat) : Int)) (2 * (2 * rd l (fp l : Int) - rd l ((fp l - 1 : Nat) : Int) - rd l ((fp l + 1 : Nat) : Int)))
theorem par_num {l : List Int} (hg : Good l) {p : Nat} (h0 : 1 ≤ p) (h1 : p + 1 < l.length) {d : Int} (hd : d = 2 * rd l (p : Int) - rd l ((p - 1 : Nat) : Int) - rd l ((p + 1 : Nat) : Int)) (hp : 0 < d) :
  d ≤ 20000 ∧ 0 ≤ 2 * d * (p : Int) ∧ 2 * d * (p : Int) ≤ 640000 := by
 have hl := hg.1.2
 have a := hg.rd (i := p) (by omega)
 have b := hg.rd (i := p - 1) (by omega)
 have c := hg.rd (i := p + 1) (by omega)
 have d1 : d ≤ 20000 := by omega
 exact ⟨d1, Int.mul_nonneg (by omega) (by omega), Int.le_trans (Int.mul_le_mul (show 2 * d ≤ 40000 by omega) (show (p : Int) ≤ 16 by omega) (by omega) (by omega)) (by omega)⟩
theorem parabola_ev {l : List Int} (hg : Good l) : Ev (fun k => Sp_parabola.f k l) (par l) := by
 have hl := hg.1
 obtain ⟨f1, f2, f3, _⟩ := fp_is l (by omega)
 unfold Sp_parabola.f
 refine Ev.bind (peak_ev l (by omega) (by omega)) ?_
 have hj : ∀ b : Bool, (b = true ↔ (fp l = 0 ∨ fp l + 1 = l.length)) → Ev (fun k => Sp_parabola.j0 k l (fp l : Int) b) (par l) := fun b hb => by
  refine Ev.succ (f := fun k => Sp_parabola.j0 k l (fp l : Int) b) ?_
  unfold par
  by_cases e : b = true
  ·rw [if_pos (hb.1 e)]
   simp only [Sp_parabola.j0, e, if_true]
   exact Ev.bind (fraction_one (by omega)) Ev.some
  ·have ne : ¬ (fp l = 0 ∨ fp l + 1 = l.length) := fun h => e (hb.2 h)
   rw [if_neg ne]
   have r0 := hg.rd (i := fp l) (by omega)
   have r1 := hg.rd (i := fp l - 1) (by omega)
   have r2 := hg.rd (i := fp l + 1) (by omega)
   have w1 : wrap64 ((fp l : Int) - 1) = ((fp l - 1 : Nat) : Int) := by unfold wrap64; omega
   have w2 : wrap64 ((fp l : Int) + 1) = ((fp l + 1 : Nat) : Int) := up (by omega)
   obtain ⟨d, hd⟩ : ∃ d, d = 2 * rd l (fp l : Int) - rd l ((fp l - 1 : Nat) : Int) - rd l ((fp l + 1 : Nat) : Int) := ⟨_, rfl⟩
   simp only [Sp_parabola.j0, e, w1, w2, if_false, show (0 : Int) ≤ (fp l : Int) by omega, show (fp l : Int) < (l.length : Int) by omega, show (0 : Int) ≤ ((fp l - 1 : Nat) : Int) by omega, show ((fp l - 1 : Nat) : Int) < (l.length : Int) by omega, show (0 : Int) ≤ ((fp l + 1 : Nat) : Int) by omega, show ((fp l + 1 : Nat) : Int) < (l.length : Int) by omega, if_true,
    w64 (n := 2 * rd l (fp l : Int)) (by omega), w64 (n := 2 * rd l (fp l : Int) - rd l ((fp l - 1 : Nat) : Int)) (by omega), w64 (n := 2 * rd l (fp l : Int) - rd l ((fp l - 1 : Nat) : Int) - rd l ((fp l + 1 : Nat) : Int)) (by omega), ← hd, w64 (n := d) (by omega), w64 (n := 2 * d) (by omega), Bool.false_eq_true]
   by_cases q : d ≤ 0
   ·simp only [q, if_true]
    exact Ev.bind (fraction_one (by omega)) Ev.some
   ·obtain ⟨p1, p2, p3⟩ := par_num hg (by omega) (by omega) hd (by omega)
    simp only [q, if_false, w64 (n := 2 * d * (fp l : Int)) (by omega), w64 (n := 2 * d * (fp l : Int) + rd l ((fp l + 1 : Nat) : Int)) (by omega), w64 (n := 2 * d * (fp l : Int) + rd l ((fp l + 1 : Nat) : Int) - rd l ((fp l - 1 : Nat) : Int)) (by omega)]
    exact Ev.bind (fraction_ev' (by omega) (by omega)) Ev.some
 by_cases z : fp l = 0
 ·have z' : ((fp l : Nat) : Int) = 0 := by omega
  have := hj true (by simp [z])
  simp only [z'] at this ⊢
  simpa using this
 ·have z' : ¬ ((fp l : Nat) : Int) = 0 := by omega
  simp only [z', if_false]
  refine hj _ ?_
  rw [w64 (by omega), beq_iff_eq]
  omega
theorem par_in {l : List Int} (hg : Good l) : (0 < (par l).2 ∧ (par l).2 ≤ 160000) ∧ (par l).1.natAbs ≤ 2560000 := by
 have hl := hg.1
 obtain ⟨f1, f2, f3, _⟩ := fp_is l (by omega)
 unfold par
 by_cases e : fp l = 0 ∨ fp l + 1 = l.length
 ·rw [if_pos e]; exact ⟨by simp, by simp only []; omega⟩
 ·rw [if_neg e]
  obtain ⟨d, hd⟩ : ∃ d, d = 2 * rd l (fp l : Int) - rd l ((fp l - 1 : Nat) : Int) - rd l ((fp l + 1 : Nat) : Int) := ⟨_, rfl⟩
  rw [← hd]
  by_cases q : d ≤ 0
  ·rw [if_pos q]; exact ⟨by simp, by simp only []; omega⟩
  ·rw [if_neg q]
   have r1 := hg.rd (i := fp l - 1) (by omega)
   have r2 := hg.rd (i := fp l + 1) (by omega)
   obtain ⟨p1, p2, p3⟩ := par_num hg (by omega) (by omega) hd (by omega)
   have a := frac_den (a := 2 * d * (fp l : Int) + rd l ((fp l + 1 : Nat) : Int) - rd l ((fp l - 1 : Nat) : Int)) (b := 2 * d) (by omega)
   have b := frac_num (a := 2 * d * (fp l : Int) + rd l ((fp l + 1 : Nat) : Int) - rd l ((fp l - 1 : Nat) : Int)) (b := 2 * d) (by omega) (by omega)
   omega

def mdF (l : List Int) : Nat → Nat → Nat
 | 0, i => i
 | n + 1, i => if sn l l.length 0 ≤ 2 * sn l (i + 1) 0 then i else mdF l n (i + 1)
def md (l : List Int) : Nat := mdF l l.length 0
theorem mdF_lt (l : List Int) (hg : Good l) : ∀ (n i : Nat), 0 < n → i + n = l.length → mdF l n i < l.length
 | n + 1, i, _, h => by
  rw [mdF]
  by_cases e : sn l l.length 0 ≤ 2 * sn l (i + 1) 0
  ·rw [if_pos e]; omega
  ·rw [if_neg e]
   have : n ≠ 0 := fun h0 => by
    subst h0
    have hs := sn_in hg l.length 0 (by omega)
    exact e (by rw [show i + 1 = l.length by omega]; omega)
   exact mdF_lt l hg n (i + 1) (by omega) (by omega)
theorem median_l0 {l : List Int} (hg : Good l) : ∀ (n i : Nat), 0 < n → i + n = l.length →
  Ev (fun k => Sp_median.l0 k (sn l l.length 0) (sn l i 0) l (l.length : Int) (i : Int)) ((mdF l n i : Int), 1)
 | n + 1, i, _, h => by
  have hl := hg.1
  refine Ev.succ (f := fun k => Sp_median.l0 k (sn l l.length 0) (sn l i 0) l (l.length : Int) (i : Int)) ?_
  have hs := sn_in hg (i + 1) 0 (by omega)
  have e1 : sn l i 0 + rd l (i : Int) = sn l (i + 1) 0 := by rw [sn_snoc, Nat.zero_add]
  simp only [Sp_median.l0, show (i : Int) < (l.length : Int) by omega, show (0 : Int) ≤ (i : Int) by omega, if_true, e1, w64 (n := sn l (i + 1) 0) (by omega), w64 (n := 2 * sn l (i + 1) 0) (by omega), up (show i < 4611686018427387904 by omega)]
  rw [mdF]
  by_cases e : sn l l.length 0 ≤ 2 * sn l (i + 1) 0
  ·simp only [show 2 * sn l (i + 1) 0 ≥ sn l l.length 0 from e, e, if_true]
   exact Ev.bind (fraction_one (by omega)) Ev.some
  ·have : n ≠ 0 := fun h0 => by
    subst h0
    have hs := sn_in hg l.length 0 (by omega)
    exact e (by rw [show i + 1 = l.length by omega]; omega)
   simp only [show ¬ 2 * sn l (i + 1) 0 ≥ sn l l.length 0 from e, e, if_false]
   exact median_l0 hg n (i + 1) (by omega) (by omega)
theorem median_ev {l : List Int} (hg : Good l) : Ev (fun k => Sp_median.f k l) ((md l : Int), 1) := by
 have hl := hg.1
 unfold Sp_median.f
 refine Ev.bind (sum_ev l (by omega) hg.2) ?_
 exact median_l0 hg l.length 0 (by omega) (by omega)
def est (l : List Int) (kind : Int) : Int × Int :=
 if sn l l.length 0 = 0 then (0, 1) else if kind = 1 then frac (wn l l.length 0) (sn l l.length 0) else if kind = 2 then par l else if kind = 3 then ((md l : Int), 1) else ((fp l : Int), 1)
theorem estimate_ev {l : List Int} (hg : Good l) {kind : Int} (hk : 0 ≤ kind ∧ kind ≤ 3) : Ev (fun k => Sp_estimate.f k l kind) (est l kind) := by
 have hl := hg.1
 have hs := sn_in hg l.length 0 (by omega)
 obtain ⟨f1, _⟩ := fp_is l (by omega)
 unfold Sp_estimate.f est
 refine Ev.bind (max106_ev l (by omega) (by omega)) ?_
 by_cases z : sn l l.length 0 = 0
 ·simp only [(max_zero hg).2 z, z, if_true]
  exact fraction_one (by omega)
 ·have z' : ¬ lmax l = 0 := fun h => z ((max_zero hg).1 h)
  simp only [z, z', if_false]
  by_cases k0 : kind = 0
  ·subst k0
   simp only [if_true, show ¬ (0 : Int) = 1 by decide, show ¬ (0 : Int) = 2 by decide, show ¬ (0 : Int) = 3 by decide, if_false]
   unfold Sp_highest.f
   exact Ev.bind (peak_ev l (by omega) (by omega)) (Ev.bind (fraction_one (by omega)) Ev.some)
  ·by_cases k1 : kind = 1
   ·subst k1
    simp only [if_true, show ¬ (1 : Int) = 0 by decide, if_false]
    unfold Sp_whole.f
    exact Ev.bind (centroid_ev hg 0 l.length (by omega) (by omega) (by rw [Nat.sub_zero]; omega)) Ev.some
   ·by_cases k2 : kind = 2
    ·subst k2
     simp only [if_true, show ¬ (2 : Int) = 0 by decide, show ¬ (2 : Int) = 1 by decide, if_false]
     exact parabola_ev hg
    ·obtain rfl : kind = 3 := by omega
     simp only [if_true, show ¬ (3 : Int) = 0 by decide, show ¬ (3 : Int) = 1 by decide, show ¬ (3 : Int) = 2 by decide, if_false]
     exact median_ev hg
theorem est_in {l : List Int} (hg : Good l) (kind : Int) : (0 < (est l kind).2 ∧ (est l kind).2 ≤ 160000) ∧ (est l kind).1.natAbs ≤ 2560000 := by
 have hl := hg.1
 have hs := sn_in hg l.length 0 (by omega)
 have hw := wn_in hg l.length 0 (by omega)
 obtain ⟨f1, _⟩ := fp_is l (by omega)
 have hm := mdF_lt l hg l.length 0 (by omega) (by omega)
 have hp := par_in hg
 unfold est
 by_cases z : sn l l.length 0 = 0
 ·rw [if_pos z]; exact ⟨by simp, by simp⟩
 ·rw [if_neg z]
  split
  ·have a := frac_den (a := wn l l.length 0) (b := sn l l.length 0) (by omega)
   have b := frac_num (a := wn l l.length 0) (b := sn l l.length 0) (by omega) (by omega)
   omega
  ·split
   ·exact hp
   ·split
    ·exact ⟨by simp, by simp only [md]; omega⟩
    ·exact ⟨by simp, by simp only []; omega⟩
theorem awake_ev : Ev (fun k => Lw_awake.f k) true :=
 Ev.of_mono (k := 40) (fun k => Lw_awake.mono k) (by kernel_rfl)
theorem CopyInts_eq (l : List Int) (h : l.length < 17592186044416) : Bs_CopyInts.f l = some l := by
 unfold Bs_CopyInts.f
 simp [h]
theorem CopyCase_eq (l v : List Int) (num den : Int) (h : l.length < 17592186044416) (h2 : v.length < 17592186044416) : Rf_CopyCase.f l v num den = some (l, v, num, den) := by
 unfold Rf_CopyCase.f Rf_CopyNoise.f
 simp [CopyInts_eq l h, CopyInts_eq v h2]
/-- A light case. -/
def lightB (l v : List Int) (num den : Int) : Bool :=
 decide ((l.length : Int) ≤ 20) && (decide ((v.length : Int) ≤ 20) && (decide (cErr l v num den ≠ 0) || decide (v.length ^ l.length ≤ 256)))
theorem cErr_zero {l v : List Int} {num den : Int} (h : cErr l v num den = 0) : (1 ≤ l.length ∧ l.length ≤ 16) ∧ (1 ≤ v.length ∧ v.length ≤ 4) ∧ v.length ^ l.length ≤ 4096 ∧ tErr num den = 0 ∧ (lErr l 16 10000).2 = 0 ∧ (lErr v 4 1000).2 = 0 := by
 unfold cErr at h
 by_cases h1 : (lErr l 16 10000).2 = 0
 ·by_cases h2 : (lErr v 4 1000).2 = 0
  ·by_cases h3 : l.all (fun x => decide (x ≤ 9000)) = true
   ·by_cases h4 : v.length ^ l.length ≤ 4096
    ·simp only [h1, h2, h3, h4, if_true] at h
     exact ⟨lErr_len h1, lErr_len h2, h4, h, h1, h2⟩
    ·simp [h1, h2, h3, h4] at h
   ·simp only [h1, h2, h3, if_true, if_false] at h; simp at h
  ·simp only [h1, h2, if_true, if_false] at h
 ·simp only [h1, if_false] at h
theorem light_ev (l v : List Int) {num den : Int} (hx : -9223372036854775808 ≤ num ∧ num ≤ 9223372036854775807) (hy : -9223372036854775808 ≤ den ∧ den ≤ 9223372036854775807) :
  Ev (fun k => Lw_light.f k l v num den) (lightB l v num den) := by
 unfold Lw_light.f lightB
 simp only [short_eq, Option.bind_some]
 by_cases h1 : (l.length : Int) ≤ 20
 ·by_cases h2 : (v.length : Int) ≤ 20
  ·simp only [h1, h2, decide_true, if_true, Bool.true_and]
   refine Ev.bind (CaseErr_ev l v hx hy) ?_
   by_cases h3 : cErr l v num den = 0
   ·obtain ⟨⟨l1, l2⟩, ⟨v1, v2⟩, h4, _⟩ := cErr_zero h3
    simp only [h3, if_true, ne_eq, not_true, decide_false, Bool.false_or]
    refine Ev.bind (Cases_ev v v1 v2 l.length (by omega)) ?_
    simp only [h4, if_true]
    by_cases q : v.length ^ l.length ≤ 256
    ·simp only [q, show ((v.length ^ l.length : Nat) : Int) ≤ 256 by omega]; exact Ev.some
    ·simp only [q, show ¬ ((v.length ^ l.length : Nat) : Int) ≤ 256 by omega]; exact Ev.some
   ·simp only [h3, if_false, ne_eq, not_false_iff, decide_true, Bool.true_or]; exact Ev.some
  ·simp only [h1, h2, decide_true, decide_false, if_true, if_false, Bool.true_and, Bool.false_and, Bool.false_eq_true]; exact Ev.some
 ·simp only [h1, decide_false, if_false, Bool.false_and, Bool.false_eq_true]; exact Ev.some
theorem lightB_len {l v : List Int} {num den : Int} (h : lightB l v num den = true) : l.length ≤ 20 ∧ v.length ≤ 20 := by
 unfold lightB at h
 simp only [Bool.and_eq_true, decide_eq_true_eq] at h
 omega
theorem i64_in {n : Int} (h : (Lit.int .i64 n).wf = true) : -9223372036854775808 ≤ n ∧ n ≤ 9223372036854775807 := by
 simp [Lit.wf, IntKind.min, IntKind.max, IntKind.signed, IntKind.bits] at h
 omega
theorem idxF_ok (m : Int) : ∀ l : List Int, ¬ idxF (bad m) l ≥ 0 → ∀ x ∈ l, 0 ≤ x ∧ x ≤ m
  | [], _, _, hx => by cases hx
  | a :: r, h, x, hx => by
    rw [idxF_cons] at h
    cases e : bad m a with
    | true => rw [e] at h; simp at h
    | false =>
      rw [e] at h
      simp only [Bool.false_eq_true, if_false] at h
      have h' : ¬ idxF (bad m) r ≥ 0 := fun q => by rw [if_pos q] at h; exact h (by omega)
      rcases List.mem_cons.1 hx with rfl | hx
      · have := within_bad m x
        rw [e] at this
        simpa using this
      · exact idxF_ok m r h' x hx
theorem lErr_ok {l : List Int} {n : Nat} {m : Int} (h : (lErr l n m).2 = 0) : ∀ x ∈ l, 0 ≤ x ∧ x ≤ m := by
 have hlen := lErr_len h
 unfold lErr at h
 rw [if_neg (by omega), if_neg (by omega)] at h
 by_cases q : idxF (bad m) l ≥ 0
 ·rw [if_pos q] at h; simp at h
 ·exact idxF_ok m l q
theorem cErr_ok {l v : List Int} {num den : Int} (h : cErr l v num den = 0) : (∀ x ∈ l, 0 ≤ x ∧ x ≤ 9000) ∧ (∀ x ∈ v, 0 ≤ x ∧ x ≤ 1000) := by
 obtain ⟨_, _, _, _, h1, h2⟩ := cErr_zero h
 have a := lErr_ok h1
 have b := lErr_ok h2
 unfold cErr at h
 by_cases h3 : l.all (fun x => decide (x ≤ 9000)) = true
 ·refine ⟨fun x hx => ⟨(a x hx).1, ?_⟩, b⟩
  simpa using List.all_eq_true.1 h3 x hx
 ·simp only [h1, h2, h3, if_true, if_false] at h; simp at h
theorem tErr_ok {num den : Int} (h : tErr num den = 0) : (-100 ≤ num ∧ num ≤ 100) ∧ 1 ≤ den ∧ den ≤ 100 := by
 unfold tErr at h
 by_cases h0 : den ≤ 0
 ·simp [h0] at h
 ·by_cases h1 : gq num den = 1
  ·by_cases h2 : (-100 ≤ num ∧ num ≤ 100) ∧ den ≤ 100
   ·omega
   ·simp only [h0, h1, h2, if_true, if_false] at h; simp at h
  ·simp only [h0, h1, if_false] at h; simp at h
theorem rd_in {v : List Int} {j : Int} (h0 : 0 ≤ j) (h1 : j < (v.length : Int)) : rd v j ∈ v := by
 obtain ⟨n, rfl⟩ : ∃ n : Nat, j = (n : Int) := ⟨j.toNat, by omega⟩
 exact rd_mem (by omega)
theorem nzF_in (v : List Int) (v1 : 1 ≤ v.length) (hv : ∀ x ∈ v, 0 ≤ x ∧ x ≤ 1000) : ∀ (l : List Int) (j : Int), (∀ x ∈ l, 0 ≤ x ∧ x ≤ 9000) → 0 ≤ j → ∀ x ∈ nzF v l j, 0 ≤ x ∧ x ≤ 10000
 | [], _, _, _, _, hx => by cases hx
 | a :: r, j, hl, hj, x, hx => by
  obtain ⟨d1, d2, d3, d4⟩ := digit_in (m := (v.length : Int)) hj (by omega)
  rw [nzF] at hx
  rcases List.mem_cons.1 hx with rfl | hx
  ·have h1 := hl a List.mem_cons_self
   have h2 := hv _ (rd_in d1 d2)
   rw [w64 (by omega)]; omega
  ·exact nzF_in v v1 hv r _ (fun y hy => hl y (List.mem_cons_of_mem _ hy)) d3 x hx
theorem case_good {l v : List Int} {num den : Int} (h : cErr l v num den = 0) (j : Nat) : Good (nzF v l (j : Int)) := by
 obtain ⟨⟨l1, l2⟩, ⟨v1, v2⟩, _, _⟩ := cErr_zero h
 obtain ⟨a, b⟩ := cErr_ok h
 exact ⟨by rw [nzF_length]; exact ⟨l1, l2⟩, nzF_in v v1 b l _ a (by omega)⟩

def kErr (kind : Int) : Int := if 0 ≤ kind ∧ kind ≤ 3 then 0 else 14
theorem kindErr_eq (a : Int) : line_kindErr.f a = some (kErr a) := by
 unfold line_kindErr.f kErr
 simp only [within_eq, unless_eq, Option.bind_some, decide_eq_true_eq]
theorem KindErr_eq (a : Int) : Rf_KindErr.f a = some (kErr a) := by
 unfold Rf_KindErr.f kErr
 simp only [Within_eq, Option.bind_some, decide_eq_true_eq]
 split <;> rfl
theorem kErr_ok {a : Int} (h : kErr a = 0) : 0 ≤ a ∧ a ≤ 3 := by
 unfold kErr at h
 by_cases q : 0 ≤ a ∧ a ≤ 3
 ·exact q
 ·rw [if_neg q] at h; simp at h

theorem Cmp_eq (a b c d : Int) : Bs_Cmp.f a b c d = some (if wrap64 (a * d) < wrap64 (c * b) then -1 else if wrap64 (a * d) > wrap64 (c * b) then 1 else 0) := by
 unfold Bs_Cmp.f
 split
 ·rfl
 ·split <;> rfl
theorem cmp_pos {x y : Int} : (if x < y then (-1 : Int) else if x > y then 1 else 0) > 0 ↔ y < x := by
 split
 ·omega
 ·split <;> omega
def off (l : List Int) (kind tn td : Int) : Int × Int :=
 frac (mx (wrap64 (wrap64 ((est l kind).1 * td) - wrap64 (tn * (est l kind).2))) (wrap64 (-(wrap64 (wrap64 ((est l kind).1 * td) - wrap64 (tn * (est l kind).2)))))) (wrap64 ((est l kind).2 * td))
theorem wrap_in (n : Int) : -9223372036854775808 ≤ wrap64 n ∧ wrap64 n ≤ 9223372036854775807 := by unfold wrap64; omega
theorem mx_in {a b : Int} (ha : -9223372036854775808 ≤ a ∧ a ≤ 9223372036854775807) (hb : -9223372036854775808 ≤ b ∧ b ≤ 9223372036854775807) : -9223372036854775808 ≤ mx a b ∧ mx a b ≤ 9223372036854775807 := by
 rw [mx_eq]; omega
theorem den_in {b td : Int} (hb : 0 < b ∧ b ≤ 160000) (ht : 1 ≤ td ∧ td ≤ 100) : 0 < wrap64 (b * td) ∧ wrap64 (b * td) ≤ 16000000 ∧ wrap64 (b * td) = b * td := by
 have h1 : 1 * 1 ≤ b * td := Int.mul_le_mul (by omega) (by omega) (by omega) (by omega)
 have h2 : b * td ≤ 160000 * 100 := Int.mul_le_mul (by omega) (by omega) (by omega) (by omega)
 rw [w64 (by omega)]; omega
theorem miss_ev {l : List Int} (hg : Good l) {kind tn td : Int} (hk : 0 ≤ kind ∧ kind ≤ 3) (ht : 1 ≤ td ∧ td ≤ 100) : Ev (fun k => line_miss.f k l kind tn td) (off l kind tn td) := by
 have he := (est_in hg kind).1
 have hd := den_in he ht
 unfold line_miss.f off
 refine Ev.bind (estimate_ev hg hk) ?_
 refine Ev.bind (fraction_ev' (mx_in (wrap_in _) (wrap_in _)) (by omega)) Ev.some
theorem off_in {l : List Int} (hg : Good l) (kind : Int) {tn td : Int} (hn : -100 ≤ tn ∧ tn ≤ 100) (ht : 1 ≤ td ∧ td ≤ 100) : (0 ≤ (off l kind tn td).1 ∧ (off l kind tn td).1 ≤ 272000000) ∧ 0 < (off l kind tn td).2 ∧ (off l kind tn td).2 ≤ 16000000 := by
 obtain ⟨he, hm⟩ := est_in hg kind
 have hd := den_in he ht
 have a1 : (est l kind).1 * td ≤ 2560000 * 100 := Int.le_trans (Int.mul_le_mul_of_nonneg_right (show (est l kind).1 ≤ 2560000 by omega) (by omega)) (Int.mul_le_mul_of_nonneg_left ht.2 (by omega))
 have a2 : -(est l kind).1 * td ≤ 2560000 * 100 := Int.le_trans (Int.mul_le_mul_of_nonneg_right (show -(est l kind).1 ≤ 2560000 by omega) (by omega)) (Int.mul_le_mul_of_nonneg_left ht.2 (by omega))
 have b1 : tn * (est l kind).2 ≤ 100 * 160000 := Int.le_trans (Int.mul_le_mul_of_nonneg_right hn.2 (by omega)) (Int.mul_le_mul_of_nonneg_left he.2 (by omega))
 have b2 : -tn * (est l kind).2 ≤ 100 * 160000 := Int.le_trans (Int.mul_le_mul_of_nonneg_right (show -tn ≤ 100 by omega) (by omega)) (Int.mul_le_mul_of_nonneg_left he.2 (by omega))
 rw [Int.neg_mul] at a2 b2
 unfold off
 rw [w64 (n := (est l kind).1 * td) (by omega), w64 (n := tn * (est l kind).2) (by omega), w64 (n := (est l kind).1 * td - tn * (est l kind).2) (by omega), w64 (n := -((est l kind).1 * td - tn * (est l kind).2)) (by omega), mx_eq]
 obtain ⟨m, hm⟩ : ∃ m, m = max ((est l kind).1 * td - tn * (est l kind).2) (-((est l kind).1 * td - tn * (est l kind).2)) := ⟨_, rfl⟩
 rw [← hm]
 have hm0 : 0 ≤ m ∧ m ≤ 272000000 := by omega
 have x := frac_den (a := m) (b := wrap64 ((est l kind).2 * td)) (by omega)
 have y := frac_num (a := m) (b := wrap64 ((est l kind).2 * td)) (by omega) (by omega)
 omega

def wst (l v : List Int) (tn td kind : Int) : Nat → Int × Int × Int
 | 0 => (-1, 1, 0)
 | N + 1 => if wrap64 ((wst l v tn td kind N).1 * (off (nzF v l (N : Int)) kind tn td).2) < wrap64 ((off (nzF v l (N : Int)) kind tn td).1 * (wst l v tn td kind N).2.1) then ((off (nzF v l (N : Int)) kind tn td).1, (off (nzF v l (N : Int)) kind tn td).2, (N : Int)) else wst l v tn td kind N
theorem wst_one {l v : List Int} {tn td : Int} (kind : Int) (h : cErr l v tn td = 0) : wst l v tn td kind 1 = ((off (nzF v l 0) kind tn td).1, (off (nzF v l 0) kind tn td).2, 0) := by
 obtain ⟨_, _, _, ht, _⟩ := cErr_zero h
 have ho := off_in (case_good h 0) kind (tErr_ok ht).1 (tErr_ok ht).2
 rw [Int.ofNat_zero] at ho
 rw [wst, wst]
 simp only [Int.ofNat_zero]
 rw [if_pos]
 rw [w64 (by omega), w64 (by omega)]; omega
theorem worst_iter {l v : List Int} {tn td kind : Int} (h : cErr l v tn td = 0) (hk : 0 ≤ kind ∧ kind ≤ 3) : ∀ N : Nat, N ≤ 1000000 →
  Ev (fun k => iterN (line_worst.step k l v tn td kind) N (-1, 1, 0)) (wst l v tn td kind N)
 | 0, _ => Ev.some
 | N + 1, hN => by
  obtain ⟨⟨l1, l2⟩, ⟨v1, v2⟩, _, ht, _⟩ := cErr_zero h
  have ih := worst_iter h hk N (by omega)
  show Ev (fun k => (iterN (line_worst.step k l v tn td kind) N (-1, 1, 0)).bind (line_worst.step k l v tn td kind N)) _
  refine Ev.bind ih ?_
  unfold line_worst.step
  refine Ev.bind (noisy_ev l v v1 (by omega) (N : Int) (by omega) (by omega)) ?_
  refine Ev.bind (miss_ev (case_good h N) hk (tErr_ok ht).2) ?_
  simp only [line_less.f, Option.bind_some, decide_eq_true_eq]
  rw [wst]
  exact Ev.some
theorem worst_ev {l v : List Int} {tn td kind : Int} (h : cErr l v tn td = 0) (hk : 0 ≤ kind ∧ kind ≤ 3) : Ev (fun k => line_worst.f k l v tn td kind) (wst l v tn td kind (v.length ^ l.length)) := by
 obtain ⟨⟨l1, l2⟩, ⟨v1, v2⟩, hc, ht, _⟩ := cErr_zero h
 unfold line_worst.f
 refine Ev.bind (cases_ev v v1 v2 l.length (by omega)) ?_
 simp only [hc, if_true, show (0 : Int) ≤ ((v.length ^ l.length : Nat) : Int) by omega, show ((v.length ^ l.length : Nat) : Int) ≤ 1000000 by omega, Int.toNat_natCast]
 exact worst_iter h hk _ (by omega)
def bsum (l v : List Int) (kind : Int) : Nat → Int
 | 0 => 0
 | N + 1 => wrap64 (bsum l v kind N + (est (nzF v l (N : Int)) kind).1)
def bias (l v : List Int) (tn td kind : Int) : Int × Int :=
 frac (wrap64 (wrap64 (bsum l v kind (v.length ^ l.length) * td) - wrap64 (tn * ((v.length ^ l.length : Nat) : Int)))) (wrap64 (((v.length ^ l.length : Nat) : Int) * td))
theorem bias_iter {l v : List Int} {tn td kind : Int} (h : cErr l v tn td = 0) (hk : 0 ≤ kind ∧ kind ≤ 3) : ∀ N : Nat, N ≤ 1000000 →
  Ev (fun k => iterN (line_BiasOf_rest.step k l v kind) N (0, 0)) (bsum l v kind N, (N : Int))
 | 0, _ => Ev.some
 | N + 1, hN => by
  obtain ⟨⟨l1, l2⟩, ⟨v1, v2⟩, _, ht, _⟩ := cErr_zero h
  have ih := bias_iter h hk N (by omega)
  show Ev (fun k => (iterN (line_BiasOf_rest.step k l v kind) N (0, 0)).bind (line_BiasOf_rest.step k l v kind N)) _
  refine Ev.bind ih ?_
  unfold line_BiasOf_rest.step
  refine Ev.bind (noisy_ev l v v1 (by omega) (N : Int) (by omega) (by omega)) ?_
  refine Ev.bind (estimate_ev (case_good h N) hk) ?_
  rw [bsum]
  simp only [up (show N < 4611686018427387904 by omega)]
  exact Ev.some
theorem biasRest_ev {l v : List Int} {tn td kind : Int} (h : cErr l v tn td = 0) (hk : 0 ≤ kind ∧ kind ≤ 3) : Ev (fun k => line_BiasOf_rest.f k l v tn td kind) ((bias l v tn td kind).1, (bias l v tn td kind).2, 0) := by
 obtain ⟨⟨l1, l2⟩, ⟨v1, v2⟩, hc, ht, _⟩ := cErr_zero h
 have h0 : 0 < v.length ^ l.length := Nat.pow_pos (by omega)
 have hd := den_in (b := ((v.length ^ l.length : Nat) : Int)) (by omega) (tErr_ok ht).2
 unfold line_BiasOf_rest.f
 refine Ev.bind (cases_ev v v1 v2 l.length (by omega)) ?_
 simp only [hc, if_true, show (0 : Int) ≤ ((v.length ^ l.length : Nat) : Int) by omega, show ((v.length ^ l.length : Nat) : Int) ≤ 1000000 by omega, Int.toNat_natCast]
 refine Ev.bind (bias_iter (tn := tn) (td := td) h hk _ (by omega)) ?_
 simp only []
 exact Ev.bind (fraction_ev' (wrap_in _) (by omega)) Ev.some
theorem BiasOf_ev (l v : List Int) {tn td kind : Int} (hx : -9223372036854775808 ≤ tn ∧ tn ≤ 9223372036854775807) (hy : -9223372036854775808 ≤ td ∧ td ≤ 9223372036854775807) :
  Ev (fun k => line_BiasOf.f k l v tn td kind) (if cErr l v tn td = 0 then (if kErr kind = 0 then (if kind = 0 ∨ kind = 3 then ((bias l v tn td kind).1, (bias l v tn td kind).2, 0) else (0, 0, 14)) else (0, 0, kErr kind)) else (0, 0, cErr l v tn td)) := by
 unfold line_BiasOf.f
 by_cases k0 : kind = 0
 ·subst k0
  simp only [if_true, kindErr_eq, unless_eq, Option.bind_some, true_or]
  refine Ev.bind (CheckCase_ev l v hx hy) ?_
  refine Ev.bind (first_ev _ (by simp)) ?_
  have hk : kErr 0 = 0 := rfl
  by_cases h3 : cErr l v tn td = 0
  ·simp only [fnz, h3, hk, if_true]
   exact biasRest_ev h3 (by omega)
  ·simp only [fnz, h3, if_false]; exact Ev.some
 ·simp only [k0, if_false, kindErr_eq, unless_eq, Option.bind_some, false_or, beq_iff_eq]
  refine Ev.bind (CheckCase_ev l v hx hy) ?_
  refine Ev.bind (first_ev _ (by simp)) ?_
  by_cases h3 : cErr l v tn td = 0
  ·by_cases hk : kErr kind = 0
   ·by_cases k3 : kind = 3
    ·simp only [fnz, h3, hk, k3, if_true]
     subst k3
     simp only [show kErr 3 = 0 from rfl, if_true]
     exact biasRest_ev h3 (by omega)
    ·simp only [fnz, h3, hk, k3, if_true, if_false, show ¬ (14 : Int) = 0 by decide]; exact Ev.some
   ·simp only [fnz, h3, hk, if_true, if_false]; exact Ev.some
  ·simp only [fnz, h3, if_false]; exact Ev.some
theorem WorstOf_ev (l v : List Int) {tn td kind : Int} (hx : -9223372036854775808 ≤ tn ∧ tn ≤ 9223372036854775807) (hy : -9223372036854775808 ≤ td ∧ td ≤ 9223372036854775807) :
  Ev (fun k => line_WorstOf.f k l v tn td kind) (if cErr l v tn td = 0 then (if kErr kind = 0 then ((wst l v tn td kind (v.length ^ l.length)).1, (wst l v tn td kind (v.length ^ l.length)).2.1, (wst l v tn td kind (v.length ^ l.length)).2.2, 0) else (0, 0, 0, kErr kind)) else (0, 0, 0, cErr l v tn td)) := by
 unfold line_WorstOf.f
 refine Ev.bind (CheckCase_ev l v hx hy) ?_
 simp only [kindErr_eq, Option.bind_some]
 refine Ev.bind (first_ev _ (by simp)) ?_
 by_cases h3 : cErr l v tn td = 0
 ·by_cases hk : kErr kind = 0
  ·simp only [fnz, h3, hk, if_true]
   exact Ev.bind (worst_ev h3 (kErr_ok hk)) Ev.some
  ·simp only [fnz, h3, hk, if_true, if_false]; exact Ev.some
 ·simp only [fnz, h3, if_false]; exact Ev.some
/-- A case is farther from the truth than w. -/
def over (l v : List Int) (tn td kind w1 w2 : Int) (j : Nat) : Bool := decide (wrap64 (w1 * (off (nzF v l (j : Int)) kind tn td).2) < wrap64 ((off (nzF v l (j : Int)) kind tn td).1 * w2))
/-- The first such case among the first N, or -1. -/
def fover (l v : List Int) (tn td kind w1 w2 : Int) : Nat → Int
 | 0 => -1
 | N + 1 => if fover l v tn td kind w1 w2 N = -1 then (if over l v tn td kind w1 w2 N = true then (N : Int) else -1) else fover l v tn td kind w1 w2 N
theorem chk_iter {l v : List Int} {tn td kind w1 w2 : Int} (h : cErr l v tn td = 0) (hk : 0 ≤ kind ∧ kind ≤ 3) : ∀ N : Nat, N ≤ 1000000 →
  Ev (fun k => iterN (line_CheckWorst_rest.step k l v tn td kind w1 w2) N (-1)) (fover l v tn td kind w1 w2 N)
 | 0, _ => Ev.some
 | N + 1, hN => by
  obtain ⟨⟨l1, l2⟩, ⟨v1, v2⟩, _, ht, _⟩ := cErr_zero h
  have ih := chk_iter (w1 := w1) (w2 := w2) h hk N (by omega)
  show Ev (fun k => (iterN (line_CheckWorst_rest.step k l v tn td kind w1 w2) N (-1)).bind (line_CheckWorst_rest.step k l v tn td kind w1 w2 N)) _
  refine Ev.bind ih ?_
  unfold line_CheckWorst_rest.step
  rw [fover]
  refine Ev.bind (noisy_ev l v v1 (by omega) (N : Int) (by omega) (by omega)) ?_
  by_cases q : fover l v tn td kind w1 w2 N = -1
  ·simp only [q, if_true]
   refine Ev.bind (miss_ev (case_good h N) hk (tErr_ok ht).2) ?_
   simp only [line_less.f, Option.bind_some]
   exact Ev.some
  ·simp only [q, if_false]; exact Ev.some
def chkE (l v : List Int) (tn td kind w1 w2 : Int) : Int × Int := if fover l v tn td kind w1 w2 (v.length ^ l.length) = -1 then (0, 0) else (fover l v tn td kind w1 w2 (v.length ^ l.length), 17)
theorem chkRest_ev {l v : List Int} {tn td kind w1 w2 wn : Int} (h : cErr l v tn td = 0) (hk : 0 ≤ kind ∧ kind ≤ 3) : Ev (fun k => line_CheckWorst_rest.f k l v tn td kind w1 w2 wn) (chkE l v tn td kind w1 w2) := by
 obtain ⟨⟨l1, l2⟩, ⟨v1, v2⟩, hc, ht, _⟩ := cErr_zero h
 unfold line_CheckWorst_rest.f
 refine Ev.bind (cases_ev v v1 v2 l.length (by omega)) ?_
 simp only [hc, if_true, show (0 : Int) ≤ ((v.length ^ l.length : Nat) : Int) by omega, show ((v.length ^ l.length : Nat) : Int) ≤ 1000000 by omega, Int.toNat_natCast]
 exact Ev.bind (chk_iter h hk _ (by omega)) Ev.some
/-- The form of a fraction. -/
def fErr (w1 w2 : Int) : Int := if 0 < w2 ∧ 0 ≤ w1 ∧ gq w1 w2 = 1 then 0 else 3
/-- What is said of a worst. -/
def cwF (l v : List Int) (tn td kind w1 w2 wn : Int) : Int × Int :=
 if fErr w1 w2 = 0 then (if 0 ≤ wn ∧ wn ≤ ((v.length ^ l.length : Nat) : Int) - 1 then (if off (nzF v l wn) kind tn td = (w1, w2) then chkE l v tn td kind w1 w2 else (0, 13)) else (0, 6)) else (0, 3)
theorem pair_ne {a b c d : Int} : (!(a == c) || !(b == d)) = true ↔ ¬ (a, b) = (c, d) := by
 by_cases h1 : a = c <;> by_cases h2 : b = d <;> simp [h1, h2]
theorem chkTail_ev {l v : List Int} {tn td kind w1 w2 wn : Int} (h : cErr l v tn td = 0) (hk : 0 ≤ kind ∧ kind ≤ 3) :
  Ev (fun k => (line_cases.f k v (l.length : Int)).bind fun bt1307 => ((line_within.f wn 0 (wrap64 (bt1307.1 - 1))).bind fun t1309 => (if t1309 = true then ((line_noisy.f k l v wn).bind fun t1310 => ((line_miss.f k t1310 kind tn td).bind fun bt1313 => (if (!(bt1313.1 == w1) || (!(bt1313.2 == w2))) = true then (some (0, 13)) else (line_CheckWorst_rest.f k l v tn td kind w1 w2 wn)))) else (some (0, 6)))))
   (if 0 ≤ wn ∧ wn ≤ ((v.length ^ l.length : Nat) : Int) - 1 then (if off (nzF v l wn) kind tn td = (w1, w2) then chkE l v tn td kind w1 w2 else (0, 13)) else (0, 6)) := by
 obtain ⟨⟨l1, l2⟩, ⟨v1, v2⟩, hc, ht, _⟩ := cErr_zero h
 have h0 : 0 < v.length ^ l.length := Nat.pow_pos (by omega)
 refine Ev.bind (cases_ev v v1 v2 l.length (by omega)) ?_
 simp only [hc, if_true, within_eq, Option.bind_some, decide_eq_true_eq]
 rw [w64 (by omega)]
 by_cases q : 0 ≤ wn ∧ wn ≤ ((v.length ^ l.length : Nat) : Int) - 1
 ·simp only [q, and_self, if_true]
  refine Ev.bind (noisy_ev l v v1 (by omega) wn q.1 (by omega)) ?_
  obtain ⟨n, rfl⟩ : ∃ n : Nat, wn = (n : Int) := ⟨wn.toNat, by omega⟩
  refine Ev.bind (miss_ev (case_good h n) hk (tErr_ok ht).2) ?_
  simp only [pair_ne]
  by_cases e : off (nzF v l (n : Int)) kind tn td = (w1, w2)
  ·simp only [e, not_true, if_false, if_true]
   exact chkRest_ev h hk
  ·simp only [e, not_false_iff, if_true, if_false]; exact Ev.some
 ·simp only [q, if_false]; exact Ev.some
theorem lineCheckWorst_ev (l v : List Int) {tn td kind w1 w2 wn : Int} (hx : -9223372036854775808 ≤ tn ∧ tn ≤ 9223372036854775807) (hy : -9223372036854775808 ≤ td ∧ td ≤ 9223372036854775807) (h1 : -9223372036854775808 ≤ w1 ∧ w1 ≤ 9223372036854775807) (h2 : -9223372036854775808 ≤ w2 ∧ w2 ≤ 9223372036854775807) :
  Ev (fun k => line_CheckWorst.f k l v tn td kind w1 w2 wn) (if cErr l v tn td = 0 then (if kErr kind = 0 then cwF l v tn td kind w1 w2 wn else (0, kErr kind)) else (0, cErr l v tn td)) := by
 -- whatever the form is
 have key : ∀ b : Bool, (fErr w1 w2 = 0 ↔ b = true) → Ev (fun k => (line_CheckCase.f k l v tn td).bind fun t1300 => ((line_kindErr.f kind).bind fun t1301 => ((line_unless.f b 3).bind fun t1302 => ((line_first.f k (([t1300, t1301, t1302] : List Int))).bind fun t1306 => (if t1306 = 0 then ((line_cases.f k v (l.length : Int)).bind fun bt1307 => ((line_within.f wn 0 (wrap64 (bt1307.1 - 1))).bind fun t1309 => (if t1309 = true then ((line_noisy.f k l v wn).bind fun t1310 => ((line_miss.f k t1310 kind tn td).bind fun bt1313 => (if (!(bt1313.1 == w1) || (!(bt1313.2 == w2))) = true then (some (0, 13)) else (line_CheckWorst_rest.f k l v tn td kind w1 w2 wn)))) else (some (0, 6))))) else (some (0, t1306))))))) (if cErr l v tn td = 0 then (if kErr kind = 0 then cwF l v tn td kind w1 w2 wn else (0, kErr kind)) else (0, cErr l v tn td)) := fun b hb => by
  refine Ev.bind (CheckCase_ev l v hx hy) ?_
  simp only [kindErr_eq, unless_eq, Option.bind_some]
  refine Ev.bind (first_ev _ (by simp)) ?_
  by_cases h3 : cErr l v tn td = 0
  ·by_cases hk : kErr kind = 0
   ·by_cases hf : b = true
    ·simp only [fnz, h3, hk, hf, if_true]
     unfold cwF
     rw [if_pos (hb.2 hf)]
     exact chkTail_ev h3 (kErr_ok hk)
    ·have : ¬ fErr w1 w2 = 0 := fun z => hf (hb.1 z)
     simp only [fnz, h3, hk, hf, if_true, if_false, show ¬ (3 : Int) = 0 by decide]
     unfold cwF
     rw [if_neg this]
     exact Ev.some
   ·simp only [fnz, h3, hk, if_true, if_false]; exact Ev.some
  ·simp only [fnz, h3, if_false]; exact Ev.some
 unfold line_CheckWorst.f
 by_cases a : w2 > 0
 ·by_cases b : w1 ≥ 0
  ·simp only [a, b, if_true]
   refine Ev.bind (divisor_ev h1 h2) ?_
   refine key _ ?_
   unfold fErr
   by_cases g : gq w1 w2 = 1
   ·simp [g, show 0 < w2 from a, show 0 ≤ w1 from b]
   ·simp [g]
  ·simp only [a, b, if_true, if_false]
   refine key false ?_
   unfold fErr
   rw [if_neg (fun x => b x.2.1)]
   simp
 ·simp only [a, if_false]
  refine key false ?_
  unfold fErr
  rw [if_neg (fun x => a x.1)]
  simp
theorem frac_spec {a b : Int} (hb : 0 < b ∧ b ≤ 4611686018427387904) (ha : -4611686018427387904 ≤ a ∧ a ≤ 4611686018427387904) : ∃ g : Int, 0 < g ∧ a = (frac a b).1 * g ∧ b = (frac a b).2 * g ∧ Int.gcd (frac a b).1 (frac a b).2 = 1 := by
 obtain ⟨h1, h2, h3⟩ := gq_pos' (a := a) hb
 have n1 := frac_num hb ha
 have n2 := frac_den (a := a) hb
 have da : gq a b ∣ a := by rw [h3]; exact Int.gcd_dvd_left _ _
 have db : gq a b ∣ b := by rw [h3]; exact Int.gcd_dvd_right _ _
 have ea : Int.tdiv a (gq a b) = (frac a b).1 := by
  show _ = wrap64 _
  have : (Int.tdiv a (gq a b)).natAbs ≤ a.natAbs := by rw [Int.natAbs_tdiv]; exact Nat.div_le_self _ _
  rw [w64 (by omega)]
 have eb : Int.tdiv b (gq a b) = (frac a b).2 := by
  show _ = wrap64 _
  have : (Int.tdiv b (gq a b)).natAbs ≤ b.natAbs := by rw [Int.natAbs_tdiv]; exact Nat.div_le_self _ _
  rw [w64 (by omega)]
 refine ⟨gq a b, h1, ?_, ?_, ?_⟩
 ·rw [← ea, Int.tdiv_mul_cancel da]
 ·rw [← eb, Int.tdiv_mul_cancel db]
 ·rw [← ea, ← eb, h3]
  rw [h3] at da db h1
  obtain ⟨x, hx⟩ := da
  obtain ⟨y, hy⟩ := db
  have hg : (Int.gcd a b : Int) ≠ 0 := by omega
  have e1 : Int.tdiv a (Int.gcd a b : Int) = x := by
   have : Int.tdiv ((Int.gcd a b : Int) * x) (Int.gcd a b : Int) = x := Int.mul_tdiv_cancel_left x hg
   rw [← hx] at this; exact this
  have e2 : Int.tdiv b (Int.gcd a b : Int) = y := by
   have : Int.tdiv ((Int.gcd a b : Int) * y) (Int.gcd a b : Int) = y := Int.mul_tdiv_cancel_left y hg
   rw [← hy] at this; exact this
  rw [e1, e2]
  have h : Int.gcd a b = (Int.gcd a b) * Int.gcd x y := by
   have q : Int.gcd a b = Int.gcd ((Int.gcd a b : Int) * x) ((Int.gcd a b : Int) * y) := by rw [← hx, ← hy]
   rw [Int.gcd_mul_left, Int.natAbs_natCast] at q
   exact q
  have p : 0 < Int.gcd a b := by omega
  have : Int.gcd a b * 1 = Int.gcd a b * Int.gcd x y := by rw [Nat.mul_one]; exact h
  exact (Nat.eq_of_mul_eq_mul_left p this).symm
/-- In lowest terms, small, from 0 to n. -/
def Nice (f : Int × Int) (n : Int) : Prop := 0 < f.2 ∧ f.2 ≤ 160000 ∧ Int.gcd f.1 f.2 = 1 ∧ 0 ≤ f.1 ∧ f.1 ≤ n * f.2
theorem nice_whole {p : Nat} {n : Int} (h : (p : Int) ≤ n) : Nice ((p : Int), 1) n := ⟨by simp, by simp, by simp, by simp only []; omega, by simp only []; omega⟩
theorem nice_frac {a b n : Int} (hb : 0 < b ∧ b ≤ 160000) (ha : 0 ≤ a ∧ a ≤ 4611686018427387904) (h : a ≤ n * b) : Nice (frac a b) n := by
 obtain ⟨g, g0, ea, eb, hg⟩ := frac_spec (a := a) (b := b) (by omega) (by omega)
 have d := frac_den (a := a) (b := b) (by omega)
 have m := frac_num (a := a) (b := b) (by omega) (by omega)
 refine ⟨d.1, by omega, hg, m.2 ha.1, ?_⟩
 have h' : (frac a b).1 * g ≤ n * (frac a b).2 * g := by rw [Int.mul_assoc, ← ea, ← eb]; exact h
 exact Int.le_of_mul_le_mul_right h' g0
theorem wn_le {l : List Int} (h : Good l) (m : Int) : ∀ (n i : Nat), i + n ≤ l.length → ((i + n : Nat) : Int) ≤ m + 1 → wn l n i ≤ m * sn l n i
 | 0, i, _, _ => by simp [wn, sn]
 | n + 1, i, hi, hm => by
  have ih := wn_le h m n (i + 1) (by omega) (by omega)
  have hr := h.rd (i := i) (by omega)
  have := Int.mul_le_mul_of_nonneg_right (show (i : Int) ≤ m by omega) hr.1
  rw [wn, sn, Int.mul_add]; omega
theorem par_parts {l : List Int} (hg : Good l) (hp : ¬ (fp l = 0 ∨ fp l + 1 = l.length)) {d : Int} (hd : d = 2 * rd l (fp l : Int) - rd l ((fp l - 1 : Nat) : Int) - rd l ((fp l + 1 : Nat) : Int)) :
  rd l ((fp l + 1 : Nat) : Int) - rd l ((fp l - 1 : Nat) : Int) ≤ d ∧ rd l ((fp l - 1 : Nat) : Int) - rd l ((fp l + 1 : Nat) : Int) ≤ d := by
 have hl := hg.1
 obtain ⟨f1, f2, f3, _⟩ := fp_is l (by omega)
 have a := (lmax_le l (by omega) _).1 (Int.le_refl _) _ (rd_mem (l := l) (i := fp l - 1) (by omega))
 have b := (lmax_le l (by omega) _).1 (Int.le_refl _) _ (rd_mem (l := l) (i := fp l + 1) (by omega))
 omega
theorem par_nice {l : List Int} (hg : Good l) : Nice (par l) ((l.length : Int) - 1) ∧ (2 * ((par l).1 - (fp l : Int) * (par l).2)).natAbs ≤ (par l).2.natAbs := by
 have hl := hg.1
 obtain ⟨f1, f2, f3, _⟩ := fp_is l (by omega)
 unfold par
 by_cases e : fp l = 0 ∨ fp l + 1 = l.length
 ·rw [if_pos e]; exact ⟨nice_whole (by omega), by simp⟩
 ·rw [if_neg e]
  obtain ⟨d, hd⟩ : ∃ d, d = 2 * rd l (fp l : Int) - rd l ((fp l - 1 : Nat) : Int) - rd l ((fp l + 1 : Nat) : Int) := ⟨_, rfl⟩
  rw [← hd]
  by_cases q : d ≤ 0
  ·rw [if_pos q]; exact ⟨nice_whole (by omega), by simp⟩
  ·rw [if_neg q]
   have r1 := hg.rd (i := fp l - 1) (by omega)
   have r2 := hg.rd (i := fp l + 1) (by omega)
   obtain ⟨p1, p2, p3⟩ := par_num hg (by omega) (by omega) hd (by omega)
   obtain ⟨s1, s2⟩ := par_parts hg e hd
   have k1 : 2 * d * 1 ≤ 2 * d * (fp l : Int) := Int.mul_le_mul_of_nonneg_left (by omega) (by omega)
   have k2 : 2 * d * ((fp l : Int) + 1) ≤ 2 * d * ((l.length : Int) - 1) := Int.mul_le_mul_of_nonneg_left (by omega) (by omega)
   rw [Int.mul_add] at k2
   rw [Int.mul_comm (2 * d) ((l.length : Int) - 1)] at k2
   refine ⟨nice_frac (by omega) (by omega) (by omega), ?_⟩
   obtain ⟨g, g0, ea, eb, _⟩ := frac_spec (a := 2 * d * (fp l : Int) + rd l ((fp l + 1 : Nat) : Int) - rd l ((fp l - 1 : Nat) : Int)) (b := 2 * d) (by omega) (by omega)
   generalize frac (2 * d * (fp l : Int) + rd l ((fp l + 1 : Nat) : Int) - rd l ((fp l - 1 : Nat) : Int)) (2 * d) = f at ea eb ⊢
   have hN : (2 * (f.1 - (fp l : Int) * f.2)) * g = 2 * (rd l ((fp l + 1 : Nat) : Int) - rd l ((fp l - 1 : Nat) : Int)) := by
    have : 2 * d * (fp l : Int) = (fp l : Int) * f.2 * g := by rw [Int.mul_assoc (fp l : Int), ← eb, Int.mul_comm]
    rw [Int.mul_assoc, Int.sub_mul, ← ea, ← this]
    omega
   have habs : (2 * (f.1 - (fp l : Int) * f.2)).natAbs * g.natAbs ≤ f.2.natAbs * g.natAbs := by
    rw [← Int.natAbs_mul, ← Int.natAbs_mul, hN, ← eb]
    omega
   exact Nat.le_of_mul_le_mul_right habs (by omega)
theorem est_nice {l : List Int} (hg : Good l) (kind : Int) : Nice (est l kind) ((l.length : Int) - 1) := by
 have hl := hg.1
 have hs := sn_in hg l.length 0 (by omega)
 have hw := wn_in hg l.length 0 (by omega)
 obtain ⟨f1, _⟩ := fp_is l (by omega)
 have hm := mdF_lt l hg l.length 0 (by omega) (by omega)
 unfold est
 by_cases z : sn l l.length 0 = 0
 ·rw [if_pos z]; exact nice_whole (p := 0) (by omega)
 ·rw [if_neg z]
  split
  ·exact nice_frac (by omega) (by omega) (wn_le hg _ _ _ (by omega) (by omega))
  ·split
   ·exact (par_nice hg).1
   ·split
    ·exact nice_whole (by show ((mdF l l.length 0 : Nat) : Int) ≤ _; omega)
    ·exact nice_whole (by omega)

theorem IsLowest_ev {a b : Int} (ha : -9223372036854775808 ≤ a ∧ a ≤ 9223372036854775807) (hb : 0 < b ∧ b ≤ 4611686018427387904) (hg : Int.gcd a b = 1) : Ev (fun k => Bs_IsLowest.f k a b) true := by
 unfold Bs_IsLowest.f
 simp only [show b > 0 by omega, if_true]
 refine Ev.bind (gcd_ev ha (by omega)) ?_
 have : gq a b = 1 := by rw [(gq_pos' (a := a) hb).2.2, hg]; rfl
 simp only [this, beq_self_eq_true]
 exact Ev.some
theorem IsSmall_eq {a b : Int} (ha : -1000000000 ≤ a ∧ a ≤ 1000000000) (hb : 1 ≤ b ∧ b ≤ 1000000000) : Bs_IsSmall.f a b = some true := by
 simp only [Bs_IsSmall.f, Within_eq, Option.bind_some, ha, hb, and_self, decide_true, if_true]
theorem cmp_not {a b c d : Int} (h : ¬ wrap64 (c * b) < wrap64 (a * d)) : ∃ z, Bs_Cmp.f a b c d = some z ∧ ¬ z > 0 := by
 refine ⟨_, Cmp_eq a b c d, ?_⟩
 rw [cmp_pos]; exact h
theorem off_low {l : List Int} (hg : Good l) (kind : Int) {tn td : Int} (hn : -100 ≤ tn ∧ tn ≤ 100) (ht : 1 ≤ td ∧ td ≤ 100) : Int.gcd (off l kind tn td).1 (off l kind tn td).2 = 1 := by
 obtain ⟨he, hm⟩ := est_in hg kind
 have hd := den_in he ht
 have a1 : (est l kind).1 * td ≤ 2560000 * 100 := Int.le_trans (Int.mul_le_mul_of_nonneg_right (show (est l kind).1 ≤ 2560000 by omega) (by omega)) (Int.mul_le_mul_of_nonneg_left ht.2 (by omega))
 have a2 : -(est l kind).1 * td ≤ 2560000 * 100 := Int.le_trans (Int.mul_le_mul_of_nonneg_right (show -(est l kind).1 ≤ 2560000 by omega) (by omega)) (Int.mul_le_mul_of_nonneg_left ht.2 (by omega))
 have b1 : tn * (est l kind).2 ≤ 100 * 160000 := Int.le_trans (Int.mul_le_mul_of_nonneg_right hn.2 (by omega)) (Int.mul_le_mul_of_nonneg_left he.2 (by omega))
 have b2 : -tn * (est l kind).2 ≤ 100 * 160000 := Int.le_trans (Int.mul_le_mul_of_nonneg_right (show -tn ≤ 100 by omega) (by omega)) (Int.mul_le_mul_of_nonneg_left he.2 (by omega))
 rw [Int.neg_mul] at a2 b2
 unfold off
 rw [w64 (n := (est l kind).1 * td) (by omega), w64 (n := tn * (est l kind).2) (by omega), w64 (n := (est l kind).1 * td - tn * (est l kind).2) (by omega), w64 (n := -((est l kind).1 * td - tn * (est l kind).2)) (by omega), mx_eq]
 obtain ⟨m, hm⟩ : ∃ m, m = max ((est l kind).1 * td - tn * (est l kind).2) (-((est l kind).1 * td - tn * (est l kind).2)) := ⟨_, rfl⟩
 rw [← hm]
 obtain ⟨g, _, _, _, h⟩ := frac_spec (a := m) (b := wrap64 ((est l kind).2 * td)) (by omega) (by omega)
 exact h
theorem lErr_good {l : List Int} (h : (lErr l 16 10000).2 = 0) : Good l := ⟨lErr_len h, lErr_ok h⟩
theorem idxF_good (m : Int) : ∀ l : List Int, (∀ x ∈ l, 0 ≤ x ∧ x ≤ m) → ¬ idxF (bad m) l ≥ 0
  | [], _ => by rw [idxF_nil]; omega
  | a :: r, h => by
    have ih := idxF_good m r (fun x hx => h x (List.mem_cons_of_mem _ hx))
    have ha := within_bad m a
    simp only [h a List.mem_cons_self, and_self, decide_true] at ha
    have hb : bad m a = false := by cases e : bad m a with
      | false => rfl
      | true => rw [e] at ha; cases ha
    rw [idxF_cons, hb]
    simp only [Bool.false_eq_true, if_false, ih]
    omega
theorem lErr_of_good {l : List Int} (h : Good l) : (lErr l 16 10000).2 = 0 := by
 have hl := h.1
 unfold lErr
 rw [if_neg (by omega), if_neg (by omega), if_neg (idxF_good 10000 l h.2)]
theorem open_eq (l : List Int) : line_open.f l = some (l, (lErr l 16 10000).2) := by
 unfold line_open.f
 rw [lineCheckSpectrum_eq]; rfl
theorem Estimated_ev (l : List Int) (kind : Int) : Ev (fun k => line_Estimated.f k l kind) (if (lErr l 16 10000).2 = 0 then (if kErr kind = 0 then ((est l kind).1, (est l kind).2, 0) else (0, 0, kErr kind)) else (0, 0, (lErr l 16 10000).2)) := by
 unfold line_Estimated.f
 rw [open_eq, kindErr_eq]
 simp only [Option.bind_some]
 refine Ev.bind (first_ev _ (by simp)) ?_
 by_cases h1 : (lErr l 16 10000).2 = 0
 ·by_cases h2 : kErr kind = 0
  ·simp only [fnz, h1, h2, if_true]
   exact Ev.bind (estimate_ev (lErr_good h1) (kErr_ok h2)) Ev.some
  ·simp only [fnz, h1, h2, if_true, if_false]; exact Ev.some
 ·simp only [fnz, h1, if_false]; exact Ev.some
theorem lineNoisy_ev (l v : List Int) {num den n : Int} (hx : -9223372036854775808 ≤ num ∧ num ≤ 9223372036854775807) (hy : -9223372036854775808 ≤ den ∧ den ≤ 9223372036854775807) :
  Ev (fun k => line_Noisy.f k l v num den n) (if cErr l v num den = 0 then (if 0 ≤ n ∧ n ≤ ((v.length ^ l.length : Nat) : Int) - 1 then (nzF v l n, 0) else ([], 6)) else ([], cErr l v num den)) := by
 unfold line_Noisy.f
 refine Ev.bind (CheckCase_ev l v hx hy) ?_
 by_cases h3 : cErr l v num den = 0
 ·obtain ⟨⟨l1, l2⟩, ⟨v1, v2⟩, h4, _⟩ := cErr_zero h3
  have h0 : 0 < v.length ^ l.length := Nat.pow_pos (by omega)
  simp only [h3, if_true]
  refine Ev.bind (cases_ev v v1 v2 l.length (by omega)) ?_
  simp only [h4, if_true, within_eq, Option.bind_some, decide_eq_true_eq]
  rw [w64 (by omega)]
  by_cases q : 0 ≤ n ∧ n ≤ ((v.length ^ l.length : Nat) : Int) - 1
  ·simp only [q, and_self, if_true]
   exact Ev.bind (noisy_ev l v v1 (by omega) n q.1 (by omega)) Ev.some
  ·simp only [q, if_false]; exact Ev.some
 ·simp only [h3, if_false]; exact Ev.some
def plt (a b : Int × Int) : Prop := a.1 * b.2 < b.1 * a.2
instance (a b : Int × Int) : Decidable (plt a b) := by unfold plt; infer_instance
def Fr (p : Int × Int) : Prop := (0 ≤ p.1 ∧ p.1 ≤ 272000000) ∧ 0 < p.2 ∧ p.2 ≤ 16000000
theorem wlt {a b : Int × Int} (ha : Fr a) (hb : Fr b) : wrap64 (a.1 * b.2) < wrap64 (b.1 * a.2) ↔ plt a b := by
 obtain ⟨a1, a2⟩ := ha
 obtain ⟨b1, b2⟩ := hb
 have m1 : 0 ≤ a.1 * b.2 := Int.mul_nonneg a1.1 (by omega)
 have m2 : a.1 * b.2 ≤ 272000000 * 16000000 := Int.mul_le_mul a1.2 b2.2 (by omega) (by omega)
 have m3 : 0 ≤ b.1 * a.2 := Int.mul_nonneg b1.1 (by omega)
 have m4 : b.1 * a.2 ≤ 272000000 * 16000000 := Int.mul_le_mul b1.2 a2.2 (by omega) (by omega)
 rw [w64 (by omega), w64 (by omega)]
 rfl
theorem plt_trans {a b c : Int × Int} (ha : Fr a) (hb : Fr b) (hc : Fr c) (h1 : ¬ plt b a) (h2 : plt b c) : plt a c := by
 unfold plt at *
 have e1 := Int.mul_le_mul_of_nonneg_right (Int.not_lt.1 h1) (show 0 ≤ c.2 by have := hc.2; omega)
 have e2 := Int.mul_lt_mul_of_pos_right h2 ha.2.1
 have t1 : a.1 * b.2 * c.2 = (a.1 * c.2) * b.2 := Int.mul_right_comm _ _ _
 have t2 : b.1 * a.2 * c.2 = b.1 * c.2 * a.2 := Int.mul_right_comm _ _ _
 have t3 : c.1 * b.2 * a.2 = (c.1 * a.2) * b.2 := Int.mul_right_comm _ _ _
 have e3 : (a.1 * c.2) * b.2 < (c.1 * a.2) * b.2 := by omega
 exact Int.lt_of_mul_lt_mul_right e3 (by have := hb.2; omega)
theorem plt_asymm {a b : Int × Int} (h : plt a b) : ¬ plt b a := by unfold plt at *; omega
theorem plt_irrefl {a : Int × Int} : ¬ plt a a := by unfold plt; omega

def O (l v : List Int) (tn td kind : Int) (j : Nat) : Int × Int := off (nzF v l (j : Int)) kind tn td
theorem O_fr {l v : List Int} {tn td : Int} (kind : Int) (h : cErr l v tn td = 0) (j : Nat) : Fr (O l v tn td kind j) := by
 obtain ⟨_, _, _, ht, _⟩ := cErr_zero h
 exact off_in (case_good h j) kind (tErr_ok ht).1 (tErr_ok ht).2
theorem wst_max {l v : List Int} {tn td : Int} (kind : Int) (h : cErr l v tn td = 0) : ∀ M : Nat, 1 ≤ M → ∃ n : Nat, n < M ∧ wst l v tn td kind M = ((O l v tn td kind n).1, (O l v tn td kind n).2, (n : Int)) ∧ (∀ j : Nat, j < M → ¬ plt (O l v tn td kind n) (O l v tn td kind j)) ∧ (∀ j : Nat, j < n → plt (O l v tn td kind j) (O l v tn td kind n))
 | 0, h0 => by omega
 | 1, _ => by
  refine ⟨0, by omega, wst_one kind h, fun j hj => ?_, fun j hj => by omega⟩
  obtain rfl : j = 0 := by omega
  exact plt_irrefl
 | M + 2, _ => by
  obtain ⟨n, hn, e, h1, h2⟩ := wst_max kind h (M + 1) (by omega)
  have hw := wlt (O_fr kind h n) (O_fr kind h (M + 1))
  rw [wst, e]
  by_cases q : plt (O l v tn td kind n) (O l v tn td kind (M + 1))
  ·refine ⟨M + 1, by omega, if_pos (hw.2 q), fun j hj => ?_, fun j hj => ?_⟩
   ·by_cases e2 : j = M + 1
    ·subst e2; exact plt_irrefl
    ·exact plt_asymm (plt_trans (O_fr kind h j) (O_fr kind h n) (O_fr kind h (M + 1)) (h1 j (by omega)) q)
   ·exact plt_trans (O_fr kind h j) (O_fr kind h n) (O_fr kind h (M + 1)) (h1 j (by omega)) q
  ·refine ⟨n, by omega, if_neg (fun x => q (hw.1 x)), fun j hj => ?_, h2⟩
   by_cases e2 : j = M + 1
   ·subst e2; exact q
   ·exact h1 j (by omega)
theorem fover_none {l v : List Int} {tn td kind w1 w2 : Int} : ∀ N : Nat, (∀ j : Nat, j < N → over l v tn td kind w1 w2 j = false) → fover l v tn td kind w1 w2 N = -1
 | 0, _ => rfl
 | N + 1, h => by
  rw [fover, if_pos (fover_none N (fun j hj => h j (by omega))), h N (by omega)]
  simp

theorem est_one {l : List Int} {kind : Int} (hk : kind = 0 ∨ kind = 3) (hg : Good l) : (est l kind).2 = 1 ∧ 0 ≤ (est l kind).1 ∧ (est l kind).1 ≤ 16 := by
 have hl := hg.1
 obtain ⟨f1, _⟩ := fp_is l (by omega)
 have hm := mdF_lt l hg l.length 0 (by omega) (by omega)
 unfold est
 by_cases z : sn l l.length 0 = 0
 ·rw [if_pos z]; exact ⟨rfl, by simp, by simp⟩
 ·rw [if_neg z, if_neg (by omega), if_neg (by omega)]
  split
  ·exact ⟨rfl, by simp only [md]; omega, by simp only [md]; omega⟩
  ·exact ⟨rfl, by simp only []; omega, by simp only []; omega⟩
theorem bsum_in {l v : List Int} {tn td kind : Int} (h : cErr l v tn td = 0) (hk : kind = 0 ∨ kind = 3) : ∀ N : Nat, N ≤ 4096 → 0 ≤ bsum l v kind N ∧ bsum l v kind N ≤ 16 * N ∧ (∀ M : Nat, N = M + 1 → bsum l v kind N = bsum l v kind M + (est (nzF v l (M : Int)) kind).1)
 | 0, _ => ⟨by simp [bsum], by simp [bsum], fun M hM => by omega⟩
 | N + 1, hN => by
  obtain ⟨a, b, _⟩ := bsum_in h hk N (by omega)
  obtain ⟨_, c, d⟩ := est_one hk (case_good h N)
  have e : bsum l v kind (N + 1) = bsum l v kind N + (est (nzF v l (N : Int)) kind).1 := by rw [bsum, w64 (by omega)]
  refine ⟨by rw [e]; omega, by rw [e]; push_cast; omega, fun M hM => ?_⟩
  obtain rfl : N = M := by omega
  exact e
theorem off_cross {l v : List Int} {tn td kind : Int} (h : cErr l v tn td = 0) (hk : kind = 0 ∨ kind = 3) {W : Int × Int} (j : Nat) (hW : ¬ plt W (O l v tn td kind j)) :
  ((est (nzF v l (j : Int)) kind).1 * td - tn) * W.2 ≤ W.1 * td ∧ -(((est (nzF v l (j : Int)) kind).1 * td - tn) * W.2) ≤ W.1 * td ∨ W.2 ≤ 0 := by
 by_cases w0 : W.2 ≤ 0
 ·exact .inr w0
 ·left
  obtain ⟨_, _, _, ht, _⟩ := cErr_zero h
  obtain ⟨hn, hd⟩ := tErr_ok ht
  obtain ⟨e1, e2, e3⟩ := est_one hk (case_good h j)
  have m1 : 0 ≤ (est (nzF v l (j : Int)) kind).1 * td := Int.mul_nonneg e2 (by omega)
  have m2 : (est (nzF v l (j : Int)) kind).1 * td ≤ 16 * 100 := Int.mul_le_mul e3 hd.2 (by omega) (by omega)
  obtain ⟨a, ha⟩ : ∃ a, a = (est (nzF v l (j : Int)) kind).1 * td - tn := ⟨_, rfl⟩
  have hO : O l v tn td kind j = frac (max a (-a)) td := by
   unfold O off
   rw [e1, Int.one_mul, Int.mul_one, w64 (n := (est (nzF v l (j : Int)) kind).1 * td) (by omega), w64 (n := tn) (by omega), ← ha, w64 (n := a) (by omega), w64 (n := -a) (by omega), mx_eq, w64 (n := td) (by omega)]
  obtain ⟨g, g0, ea, eb, _⟩ := frac_spec (a := max a (-a)) (b := td) (by omega) (by omega)
  unfold plt at hW
  rw [hO] at hW
  have c1 := Int.mul_le_mul_of_nonneg_right (Int.not_lt.1 hW) (show 0 ≤ g by omega)
  have c2 : (frac (max a (-a)) td).1 * W.2 * g = max a (-a) * W.2 := by
   have : (frac (max a (-a)) td).1 * W.2 * g = (frac (max a (-a)) td).1 * g * W.2 := Int.mul_right_comm _ _ _
   rw [this, ← ea]
  have c3 : W.1 * (frac (max a (-a)) td).2 * g = W.1 * td := by rw [Int.mul_assoc, ← eb]
  rw [c2, c3] at c1
  rw [← ha]
  have p1 : a * W.2 ≤ max a (-a) * W.2 := Int.mul_le_mul_of_nonneg_right (by omega) (by omega)
  have p2 : -a * W.2 ≤ max a (-a) * W.2 := Int.mul_le_mul_of_nonneg_right (by omega) (by omega)
  rw [Int.neg_mul] at p2
  omega
theorem bias_sum {l v : List Int} {tn td kind : Int} (h : cErr l v tn td = 0) (hk : kind = 0 ∨ kind = 3) {W : Int × Int} (w0 : 0 < W.2) : ∀ N : Nat, N ≤ 4096 → (∀ j : Nat, j < N → ¬ plt W (O l v tn td kind j)) →
  (bsum l v kind N * td - tn * (N : Int)) * W.2 ≤ W.1 * td * (N : Int) ∧ -((bsum l v kind N * td - tn * (N : Int)) * W.2) ≤ W.1 * td * (N : Int)
 | 0, _, _ => by simp [bsum]
 | N + 1, hN, hW => by
  obtain ⟨i1, i2⟩ := bias_sum h hk w0 N (by omega) (fun j hj => hW j (by omega))
  have e := (bsum_in h hk (N + 1) hN).2.2 N rfl
  rcases off_cross h hk N (hW N (by omega)) with ⟨o1, o2⟩ | o
  ·have s : (bsum l v kind (N + 1) * td - tn * ((N + 1 : Nat) : Int)) * W.2 = (bsum l v kind N * td - tn * (N : Int)) * W.2 + ((est (nzF v l (N : Int)) kind).1 * td - tn) * W.2 := by
    rw [e, ← Int.add_mul]
    congr 1
    push_cast
    rw [Int.add_mul, Int.mul_add, Int.mul_one]
    omega
   have s2 : W.1 * td * ((N + 1 : Nat) : Int) = W.1 * td * (N : Int) + W.1 * td := by push_cast; rw [Int.mul_add, Int.mul_one]
   rw [s, s2]
   omega
  ·omega
theorem bias_le {l v : List Int} {tn td kind : Int} (h : cErr l v tn td = 0) (hk : kind = 0 ∨ kind = 3) {W : Int × Int} (hF : Fr W) (hW : ∀ j : Nat, j < v.length ^ l.length → ¬ plt W (O l v tn td kind j)) :
  (bias l v tn td kind).1.natAbs ≤ 10000000 ∧ (0 < (bias l v tn td kind).2 ∧ (bias l v tn td kind).2 ≤ 409600) ∧ ((bias l v tn td kind).1.natAbs : Int) * W.2 ≤ W.1 * (bias l v tn td kind).2 := by
 obtain ⟨⟨l1, l2⟩, ⟨v1, v2⟩, hc, ht, _⟩ := cErr_zero h
 obtain ⟨hn, hd⟩ := tErr_ok ht
 have h0 : 0 < v.length ^ l.length := Nat.pow_pos (by omega)
 obtain ⟨s1, s2⟩ := bias_sum h hk hF.2.1 (v.length ^ l.length) hc hW
 obtain ⟨b1, b2, _⟩ := bsum_in h hk (v.length ^ l.length) hc
 have m1 : 0 ≤ bsum l v kind (v.length ^ l.length) * td := Int.mul_nonneg b1 (by omega)
 have m2 : bsum l v kind (v.length ^ l.length) * td ≤ (16 * 4096) * 100 := Int.mul_le_mul (by omega) hd.2 (by omega) (by omega)
 have m3 : tn * ((v.length ^ l.length : Nat) : Int) ≤ 100 * 4096 := Int.le_trans (Int.mul_le_mul_of_nonneg_right hn.2 (by omega)) (by omega)
 have m4 : -tn * ((v.length ^ l.length : Nat) : Int) ≤ 100 * 4096 := Int.le_trans (Int.mul_le_mul_of_nonneg_right (show -tn ≤ 100 by omega) (by omega)) (by omega)
 rw [Int.neg_mul] at m4
 have m5 : 1 * 1 ≤ ((v.length ^ l.length : Nat) : Int) * td := Int.mul_le_mul (by omega) (by omega) (by omega) (by omega)
 have m6 : ((v.length ^ l.length : Nat) : Int) * td ≤ 4096 * 100 := Int.mul_le_mul (by omega) hd.2 (by omega) (by omega)
 unfold bias
 rw [w64 (n := bsum l v kind (v.length ^ l.length) * td) (by omega), w64 (n := tn * ((v.length ^ l.length : Nat) : Int)) (by omega), w64 (n := bsum l v kind (v.length ^ l.length) * td - tn * ((v.length ^ l.length : Nat) : Int)) (by omega), w64 (n := ((v.length ^ l.length : Nat) : Int) * td) (by omega)]
 obtain ⟨B, hB⟩ : ∃ B, B = bsum l v kind (v.length ^ l.length) * td - tn * ((v.length ^ l.length : Nat) : Int) := ⟨_, rfl⟩
 obtain ⟨D, hD⟩ : ∃ D, D = ((v.length ^ l.length : Nat) : Int) * td := ⟨_, rfl⟩
 have hX : W.1 * td * ((v.length ^ l.length : Nat) : Int) = W.1 * D := by rw [hD, Int.mul_assoc, Int.mul_comm td]
 rw [hX] at s1 s2
 rw [← hB] at s1 s2 ⊢
 rw [← hD] at m5 m6 ⊢
 have n1 := frac_num (a := B) (b := D) (by omega) (by omega)
 have n2 := frac_den (a := B) (b := D) (by omega)
 obtain ⟨g, g0, ea, eb, _⟩ := frac_spec (a := B) (b := D) (by omega) (by omega)
 refine ⟨by omega, ⟨n2.1, by omega⟩, ?_⟩
 generalize frac B D = f at ea eb n1 n2 ⊢
 have k1 : (f.1.natAbs : Int) * W.2 * g = (B.natAbs : Int) * W.2 := by
  have : (f.1.natAbs : Int) * W.2 * g = (f.1.natAbs : Int) * g * W.2 := Int.mul_right_comm _ _ _
  rw [this]
  congr 1
  rw [ea, Int.natAbs_mul]
  push_cast
  rw [Int.natAbs_of_nonneg (show 0 ≤ g by omega)]
 have k2 : W.1 * f.2 * g = W.1 * D := by rw [Int.mul_assoc, ← eb]
 have k3 : (B.natAbs : Int) * W.2 ≤ W.1 * D := by
  rcases Int.natAbs_eq B with q | q
  ·rw [← q]; exact s1
  ·have : (B.natAbs : Int) = -B := by omega
   rw [this, Int.neg_mul]; exact s2
 have k4 : (f.1.natAbs : Int) * W.2 * g ≤ W.1 * f.2 * g := by rw [k1, k2]; exact k3
 exact Int.le_of_mul_le_mul_right k4 g0

theorem reached_end {l v : List Int} {tn td kind : Int} (h : cErr l v tn td = 0) (hk : 0 ≤ kind ∧ kind ≤ 3) (hx : -9223372036854775808 ≤ tn ∧ tn ≤ 9223372036854775807) (hy : -9223372036854775808 ≤ td ∧ td ≤ 9223372036854775807) (hlen : l.length < 1000 ∧ v.length < 1000) {n : Nat} (hn : n < v.length ^ l.length) (hW : ∀ j : Nat, j < v.length ^ l.length → ¬ plt (O l v tn td kind n) (O l v tn td kind j)) :
    Ev (fun k => Lw_LineReached.l0 k kind ((v.length ^ l.length : Nat) : Int) (bsum l v kind (v.length ^ l.length)) (n : Int) ((v.length ^ l.length : Nat) : Int) l v tn td (O l v tn td kind n).1 (O l v tn td kind n).2 (n : Int)) true := by
  obtain ⟨⟨l1, l2⟩, ⟨v1, v2⟩, hc, ht, _⟩ := cErr_zero h
  obtain ⟨htn, hd⟩ := tErr_ok ht
  have hF := O_fr kind h n
  have hlow := off_low (case_good h n) kind htn hd
  have kz : kErr kind = 0 := by unfold kErr; rw [if_pos hk]
  refine Ev.succ (f := fun k => Lw_LineReached.l0 k kind _ _ _ _ l v tn td _ _ _) ?_
  simp only [Lw_LineReached.l0, Int.lt_irrefl, if_false]
  rw [CopyCase_eq l v tn td (by omega) (by omega)]
  simp only [Option.bind_some]
  have hgq : gq (O l v tn td kind n).1 (O l v tn td kind n).2 = 1 := by
    rw [(gq_pos' (a := (O l v tn td kind n).1) (b := (O l v tn td kind n).2) ⟨hF.2.1, by have := hF.2.2; omega⟩).2.2]
    show ((Int.gcd (off (nzF v l (n : Int)) kind tn td).1 (off (nzF v l (n : Int)) kind tn td).2 : Nat) : Int) = 1
    rw [hlow]; rfl
  have hcw : cwF l v tn td kind (O l v tn td kind n).1 (O l v tn td kind n).2 (n : Int) = (0, 0) := by
    unfold cwF fErr chkE
    rw [if_pos (if_pos ⟨hF.2.1, hF.1.1, hgq⟩), if_pos (by omega), if_pos (show off (nzF v l (n : Int)) kind tn td = ((O l v tn td kind n).1, (O l v tn td kind n).2) from rfl), if_pos]
    refine fover_none _ (fun j hj => ?_)
    unfold over
    have := wlt hF (O_fr kind h j)
    exact decide_eq_false (fun q => hW j hj (this.1 q))
  have hC := lineCheckWorst_ev l v (kind := kind) (w1 := (O l v tn td kind n).1) (w2 := (O l v tn td kind n).2) (wn := (n : Int)) hx hy (by have := hF.1; omega) (by have := hF.2; omega)
  simp only [h, kz, if_true, hcw] at hC
  refine Ev.bind hC ?_
  simp only [if_true, bne_self_eq_false]
  refine Ev.succ (f := fun k => Lw_LineReached.j5 k kind _ _ false l v tn td _ _ _) ?_
  simp only [Lw_LineReached.j5, Bool.false_eq_true, if_false]
  have hj6 : ∀ b : Bool, (b = false → kind = 0 ∨ kind = 3) → Ev (fun k => Lw_LineReached.j6 k kind ((v.length ^ l.length : Nat) : Int) (bsum l v kind (v.length ^ l.length)) b l v tn td (O l v tn td kind n).1 (O l v tn td kind n).2 (n : Int)) true := fun b hb => by
    refine Ev.succ (f := fun k => Lw_LineReached.j6 k kind _ _ b l v tn td _ _ _) ?_
    cases b with
    | true => simp only [Lw_LineReached.j6, if_true]; exact Ev.some
    | false =>
      have hk2 := hb rfl
      obtain ⟨p1, p2, p3⟩ := bias_le h hk2 hF hW
      have hdn := den_in (b := ((v.length ^ l.length : Nat) : Int)) (by omega) hd
      simp only [Lw_LineReached.j6, Bool.false_eq_true, if_false]
      rw [CopyCase_eq l v tn td (by omega) (by omega)]
      simp only [Option.bind_some]
      have hB := BiasOf_ev l v (kind := kind) hx hy
      simp only [h, kz, hk2, if_true] at hB
      refine Ev.bind hB ?_
      simp only [if_true]
      refine Ev.bind (a := bias l v tn td kind) (Lowest_ev' (wrap_in _) (by omega)) ?_
      simp only [beq_self_eq_true, Bool.and_self, if_true, Size_eq, Option.bind_some]
      have hs : mx (bias l v tn td kind).1 (wrap64 (-(bias l v tn td kind).1)) = ((bias l v tn td kind).1.natAbs : Int) := by
        rw [w64 (by omega), mx_eq]; omega
      rw [hs]
      refine Ev.bind (Lowest_ev' (by omega) (by omega)) ?_
      obtain ⟨g, g0, ea, eb, _⟩ := frac_spec (a := ((bias l v tn td kind).1.natAbs : Int)) (b := (bias l v tn td kind).2) (by omega) (by omega)
      have f1 := frac_num (a := ((bias l v tn td kind).1.natAbs : Int)) (b := (bias l v tn td kind).2) (by omega) (by omega)
      have f2 := frac_den (a := ((bias l v tn td kind).1.natAbs : Int)) (b := (bias l v tn td kind).2) (by omega)
      generalize frac ((bias l v tn td kind).1.natAbs : Int) (bias l v tn td kind).2 = f at ea eb f1 f2 ⊢
      have hf : Fr f := ⟨⟨f1.2 (by omega), by omega⟩, f2.1, by omega⟩
      rw [ea, eb] at p3
      have q1 : f.1 * (O l v tn td kind n).2 * g ≤ (O l v tn td kind n).1 * f.2 * g := by
        have t1 : f.1 * (O l v tn td kind n).2 * g = f.1 * g * (O l v tn td kind n).2 := Int.mul_right_comm _ _ _
        rw [t1, Int.mul_assoc (O l v tn td kind n).1]; exact p3
      have q2 := Int.le_of_mul_le_mul_right q1 g0
      have q3 : ¬ plt (O l v tn td kind n) f := by unfold plt; omega
      have q4 := wlt hF hf
      rw [Cmp_eq]
      have q5 : ¬ wrap64 (f.1 * (O l v tn td kind n).2) > wrap64 ((O l v tn td kind n).1 * f.2) := fun x => q3 (q4.1 x)
      simp only [Option.bind_some, q5, if_false]
      have q6 : decide ((if wrap64 (f.1 * (O l v tn td kind n).2) < wrap64 ((O l v tn td kind n).1 * f.2) then (-1 : Int) else 0) ≤ 0) = true := by
        split <;> simp
      rw [q6]
      exact Ev.some
  by_cases k0 : kind = 0
  · simp only [k0, if_true]
    rw [k0] at hj6
    exact hj6 false (fun _ => .inl rfl)
  · simp only [k0, if_false]
    refine hj6 _ (fun hb => .inr ?_)
    simpa using hb
theorem reached_l0 {l v : List Int} {tn td kind : Int} (h : cErr l v tn td = 0) (hk : 0 ≤ kind ∧ kind ≤ 3) (hx : -9223372036854775808 ≤ tn ∧ tn ≤ 9223372036854775807) (hy : -9223372036854775808 ≤ td ∧ td ≤ 9223372036854775807) (hlen : l.length < 1000 ∧ v.length < 1000) {n : Nat} (hn : n < v.length ^ l.length) (hW : ∀ j : Nat, j < v.length ^ l.length → ¬ plt (O l v tn td kind n) (O l v tn td kind j)) (hN : ∀ j : Nat, j < n → plt (O l v tn td kind j) (O l v tn td kind n)) : ∀ (d j : Nat), j + d = v.length ^ l.length →
  Ev (fun k => Lw_LineReached.l0 k kind ((v.length ^ l.length : Nat) : Int) (bsum l v kind j) (if n < j then (n : Int) else -1) (j : Int) l v tn td (O l v tn td kind n).1 (O l v tn td kind n).2 (n : Int)) true
 | 0, j, hj => by
  obtain rfl : j = v.length ^ l.length := by omega
  rw [if_pos hn]
  exact reached_end h hk hx hy hlen hn hW
 | d + 1, j, hj => by
  obtain ⟨⟨l1, l2⟩, ⟨v1, v2⟩, hc, ht, _⟩ := cErr_zero h
  obtain ⟨htn, hd⟩ := tErr_ok ht
  have hg := case_good h j
  have hgl := nzF_length v l (j : Int)
  have kz : kErr kind = 0 := by unfold kErr; rw [if_pos hk]
  obtain ⟨n1, n2, n3, n4, n5⟩ := est_nice hg kind
  have hle : (est (nzF v l (j : Int)) kind).1 ≤ 16 * 160000 := Int.le_trans n5 (Int.mul_le_mul (by omega) (by omega) (by omega) (by omega))
  have hmul : ((nzF v l (j : Int)).length : Int) * (est (nzF v l (j : Int)) kind).2 = (((nzF v l (j : Int)).length : Int) - 1) * (est (nzF v l (j : Int)) kind).2 + (est (nzF v l (j : Int)) kind).2 := by
   rw [Int.sub_mul, Int.one_mul]; omega
  have hm2 : (((nzF v l (j : Int)).length : Int)) * (est (nzF v l (j : Int)) kind).2 ≤ 16 * 160000 := Int.mul_le_mul (by omega) (by omega) (by omega) (by omega)
  have ih := reached_l0 h hk hx hy hlen hn hW hN d (j + 1) (by omega)
  refine Ev.succ (f := fun k => Lw_LineReached.l0 k kind _ _ _ (j : Int) l v tn td _ _ _) ?_
  simp only [Lw_LineReached.l0, show (j : Int) < ((v.length ^ l.length : Nat) : Int) by omega, if_true]
  rw [CopyCase_eq l v tn td (by omega) (by omega)]
  simp only [Option.bind_some]
  have hNo := lineNoisy_ev l v (n := (j : Int)) hx hy
  simp only [h, if_true, show 0 ≤ (j : Int) ∧ (j : Int) ≤ ((v.length ^ l.length : Nat) : Int) - 1 by omega, and_self] at hNo
  refine Ev.bind hNo ?_
  simp only [if_true]
  refine Ev.succ (f := fun k => Lw_LineReached.j3 k kind _ _ _ (j : Int) _ _ l v tn td _ _ _) ?_
  have hbl : (((nzF v l (j : Int)).length : Int) != (l.length : Int)) = false := by rw [hgl]; simp
  simp only [Lw_LineReached.j3, hbl, Bool.false_eq_true, if_false]
  have hE := Estimated_ev (nzF v l (j : Int)) kind
  simp only [lErr_of_good hg, kz, if_true] at hE
  refine Ev.bind hE ?_
  simp only [if_true]
  refine Ev.bind (IsLowest_ev (by omega) (by omega) n3) ?_
  rw [IsSmall_eq (by omega) (by omega)]
  simp only [if_true, Option.bind_some, show ¬ (est (nzF v l (j : Int)) kind).1 < 0 by omega, if_false, Bs_Whole.f]
  obtain ⟨z, hz, hz0⟩ := cmp_not (a := (est (nzF v l (j : Int)) kind).1) (b := (est (nzF v l (j : Int)) kind).2) (c := ((nzF v l (j : Int)).length : Int)) (d := 1) (by rw [w64 (by omega), w64 (by omega)]; omega)
  rw [hz]
  simp only [Option.bind_some, hz0, decide_false]
  refine Ev.succ (f := fun k => Lw_LineReached.j4 k kind _ _ _ (j : Int) false l v tn td _ _ _ _ _) ?_
  simp only [Lw_LineReached.j4, Bool.false_eq_true, if_false, Size_eq, Option.bind_some]
  have hdn := den_in (est_in hg kind).1 hd
  refine Ev.bind (a := O l v tn td kind j) (Lowest_ev' (mx_in (wrap_in _) (wrap_in _)) (by omega)) ?_
  have hq := wlt (O_fr kind h n) (O_fr kind h j)
  rw [Cmp_eq]
  simp only [Option.bind_some, cmp_pos]
  have hnq : ¬ wrap64 ((O l v tn td kind n).1 * (O l v tn td kind j).2) < wrap64 ((O l v tn td kind j).1 * (O l v tn td kind n).2) := fun x => hW j (by omega) (hq.1 x)
  simp only [hnq, if_false]
  rw [bsum, ← up (show j < 4611686018427387904 by omega)] at ih
  rcases Nat.lt_trichotomy j n with c | c | c
  ·have hne : ((O l v tn td kind j).1 == (O l v tn td kind n).1 && (O l v tn td kind j).2 == (O l v tn td kind n).2) = false := by
    rw [Bool.and_eq_false_iff]
    by_cases e1 : (O l v tn td kind j).1 = (O l v tn td kind n).1
    ·right
     rw [beq_eq_false_iff_ne]
     intro e2
     have := hN j c
     unfold plt at this
     rw [e1, e2] at this
     omega
    ·left; rw [beq_eq_false_iff_ne]; exact e1
   rw [if_neg (show ¬ n < j + 1 by omega)] at ih
   rw [if_neg (show ¬ n < j by omega)]
   simp only [hne, Bool.false_eq_true, if_false]
   exact ih
  ·subst c
   rw [if_pos (show j < j + 1 by omega)] at ih
   rw [if_neg (show ¬ j < j by omega)]
   simp only [beq_self_eq_true, Bool.and_self, if_true, show (-1 : Int) < 0 by decide]
   exact ih
  ·rw [if_pos (show n < j + 1 by omega)] at ih
   rw [if_pos c]
   simp only [show ¬ (n : Int) < 0 by omega, if_false, ite_self]
   exact ih
theorem LineReached_ev (l v : List Int) {tn td kind : Int} (hx : -9223372036854775808 ≤ tn ∧ tn ≤ 9223372036854775807) (hy : -9223372036854775808 ≤ td ∧ td ≤ 9223372036854775807) :
    Ev (fun k => Lw_LineReached.f k l v tn td kind) true := by
  unfold Lw_LineReached.f
  refine Ev.bind awake_ev ?_
  simp only [if_true]
  refine Ev.bind (light_ev l v hx hy) ?_
  have hj : ∀ b : Bool, (b = false → (l.length ≤ 20 ∧ v.length ≤ 20) ∧ cErr l v tn td = 0 ∧ kErr kind = 0) → Ev (fun k => Lw_LineReached.j0 k kind b l v tn td) true := fun b hb => by
    refine Ev.succ (f := fun k => Lw_LineReached.j0 k kind b l v tn td) ?_
    cases b with
    | true => simp only [Lw_LineReached.j0, if_true]; exact Ev.some
    | false =>
      obtain ⟨⟨a1, a2⟩, h, kz⟩ := hb rfl
      have hk := kErr_ok kz
      obtain ⟨⟨l1, l2⟩, ⟨v1, v2⟩, hc, ht, _⟩ := cErr_zero h
      obtain ⟨htn, hd⟩ := tErr_ok ht
      have h0 : 0 < v.length ^ l.length := Nat.pow_pos (by omega)
      simp only [Lw_LineReached.j0, Bool.false_eq_true, if_false]
      rw [CopyCase_eq l v tn td (by omega) (by omega)]
      simp only [Option.bind_some]
      have hWo := WorstOf_ev l v (kind := kind) hx hy
      simp only [h, kz, if_true] at hWo
      refine Ev.bind hWo ?_
      obtain ⟨n, hn, e, w1, w2⟩ := wst_max kind h (v.length ^ l.length) (by omega)
      rw [e]
      have hF := O_fr kind h n
      have hlow := off_low (case_good h n) kind htn hd
      simp only [if_true]
      refine Ev.bind (IsLowest_ev (by have := hF.1; omega) (by have := hF.2; omega) hlow) ?_
      rw [IsSmall_eq (by have := hF.1; omega) (by have := hF.2; omega)]
      simp only [if_true, Option.bind_some]
      refine Ev.succ (f := fun k => Lw_LineReached.j1 k kind _ l v tn td _ _ _) ?_
      simp only [Lw_LineReached.j1, show ¬ (O l v tn td kind n).1 < 0 by have := hF.1; omega, decide_false, Bool.false_eq_true, if_false]
      refine Ev.bind (Cases_ev v v1 v2 l.length (by omega)) ?_
      simp only [hc, if_true]
      exact reached_l0 h hk hx hy (by omega) hn w1 w2 (v.length ^ l.length) 0 (by omega)
  by_cases hl : lightB l v tn td = true
  · simp only [hl, if_true]
    refine Ev.bind (CaseErr_ev l v hx hy) ?_
    by_cases h : cErr l v tn td = 0
    · simp only [h, if_true, KindErr_eq, Option.bind_some]
      refine hj _ (fun hb => ⟨lightB_len hl, h, by simpa using hb⟩)
    · simp only [h, if_false]
      exact hj true (by simp)
  · simp only [hl, if_false, Bool.false_eq_true]
    exact hj true (by simp)
theorem LineReached_pure (l : List Int) (_ : l.length ≤ maxLen) (_ : ∀ x ∈ l, (Lit.int .i64 x).wf = true) (v : List Int) (_ : v.length ≤ maxLen) (_ : ∀ x ∈ v, (Lit.int .i64 x).wf = true) (num : Int) (hx : (Lit.int .i64 num).wf = true) (den : Int) (hy : (Lit.int .i64 den).wf = true) (t : Int) (_ : (Lit.int .i64 t).wf = true) :
  ∃ k, Lw_LineReached.f k l v num den t = some true := (LineReached_ev l v (i64_in hx) (i64_in hy)).ex
end Go.Proofs.YtjnkphmcndaijaaDoor.P
