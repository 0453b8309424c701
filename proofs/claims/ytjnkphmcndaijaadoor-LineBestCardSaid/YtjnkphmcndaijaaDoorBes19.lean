/-
PLAIN LAW: what the walks compute answers as the statement says (no program in sight; Ev: from some number of rounds on).
-/
import Derived.Test.YtjnkphmcndaijaaDoorBes14
import Derived.Test.YtjnkphmcndaijaaDoorBes09
import Derived.Test.YtjnkphmcndaijaaDoorBes13
import Derived.Test.YtjnkphmcndaijaaDoorBes10
import Derived.Test.YtjnkphmcndaijaaDoorBes18
import Derived.Test.YtjnkphmcndaijaaDoorBes17
import Derived.Test.YtjnkphmcndaijaaDoorBes15
import Derived.Test.YtjnkphmcndaijaaDoorBes16
import Derived.Test.YtjnkphmcndaijaaDoorBes04
import Derived.Test.YtjnkphmcndaijaaDoorBes06
import Derived.Test.YtjnkphmcndaijaaDoorBes07
namespace Go.Proofs.YtjnkphmcndaijaaDoor.P
open Go Go.RowKit Go.Proofs.YtjnkphmcndaijaaDoor.A Go.Proofs.YtjnkphmcndaijaaDoorW.PrintWords Go.Proofs.YtjnkphmcndaijaaDoorW.PrintLast Go.Proofs.YtjnkphmcndaijaaDoorW.PrintMore
set_option linter.unusedSimpArgs false
set_option linter.unusedVariables false
/-- From some number of rounds on, f says r. -/
def Ev {α : Type} (f : Nat → Option α) (r : α) : Prop := ∃ k, ∀ j, k ≤ j → f j = some r

theorem Ev.some {α : Type} {r : α} : Ev (fun _ => Option.some r) r := ⟨0, fun _ _ => rfl⟩
theorem Ev.bind {α β : Type} {f : Nat → Option α} {g : Nat → α → Option β} {a : α} {b : β} (h : Ev f a) (h2 : Ev (fun k => g k a) b) : Ev (fun k => (f k).bind (g k)) b := by
 obtain ⟨k, hk⟩ := h
 obtain ⟨m, hm⟩ := h2
 exact ⟨max k m, fun j hj => by show (f j).bind (g j) = _; rw [hk j (by omega)]; exact hm j (by omega)⟩
theorem Ev.succ {α : Type} {f : Nat → Option α} {r : α} (h : Ev (fun k => f (k + 1)) r) : Ev f r := by
 obtain ⟨k, hk⟩ := h
 exact ⟨k + 1, fun j hj => by obtain ⟨m, rfl⟩ : ∃ m, j = m + 1 := ⟨j - 1, by omega⟩; exact hk m (by omega)⟩
theorem Ev.congr {α : Type} {f g : Nat → Option α} {r : α} (e : ∀ k, f k = g k) (h : Ev f r) : Ev g r := by
 obtain ⟨k, hk⟩ := h
 exact ⟨k, fun j hj => by rw [← e j]; exact hk j hj⟩
theorem Ev.ex {α : Type} {f : Nat → Option α} {r : α} (h : Ev f r) : ∃ k, f k = Option.some r := let ⟨k, hk⟩ := h; ⟨k, hk k (Nat.le_refl _)⟩
theorem Ev.of_mono {α : Type} {f : Nat → Option α} {r : α} (hm : ∀ k, LeO (f k) (f (k + 1))) {k : Nat} (h : f k = Option.some r) : Ev f r := by
  refine ⟨k, fun j hj => ?_⟩
  induction j with
  | zero => obtain rfl : k = 0 := by omega
            exact h
  | succ j ih =>
    by_cases e : k = j + 1
    · subst e; exact h
    · exact hm j r (ih (by omega))
theorem up {i : Nat} (h : i < 4611686018427387904) : wrap64 ((i : Int) + 1) = ((i + 1 : Nat) : Int) := by
 unfold wrap64; omega
theorem w64 {n : Int} (h : -9223372036854775808 ≤ n ∧ n ≤ 9223372036854775807) : wrap64 n = n := by unfold wrap64; omega
theorem rd_nat (l : List Int) (i : Nat) : rd l (i : Int) = l.getD i 0 := by unfold rd; simp
theorem drop_rd {l : List Int} {i : Nat} (h : i < l.length) : l.drop i = rd l (i : Int) :: l.drop (i + 1) := by
 rw [rd_nat, List.drop_eq_getElem_cons h]
 simp [List.getD_eq_getElem?_getD, h]

theorem mx_eq (a b : Int) : mx a b = max a b := by unfold mx; split <;> omega

theorem within_eq (a b c : Int) : line_within.f a b c = some (decide (b ≤ a ∧ a ≤ c)) := by
 unfold line_within.f
 by_cases h : b ≤ a <;> simp [h]
theorem Within_eq (a b c : Int) : Bs_Within.f a b c = some (decide (b ≤ a ∧ a ≤ c)) := by
 unfold Bs_Within.f
 by_cases h : b ≤ a <;> simp [h]
theorem unless_eq (b : Bool) (e : Int) : line_unless.f b e = some (if b = true then 0 else e) := by
 unfold line_unless.f
 cases b <;> simp
theorem Size_eq (a : Int) : Bs_Size.f a = some (mx a (wrap64 (-a))) := rfl
theorem short_eq (l : List Int) : Lw_short.f l = some (decide ((l.length : Int) ≤ 20)) := rfl

/-- The first number that is not 0. -/
def fnz : List Int → Int
 | [] => 0
 | x :: r => if x = 0 then fnz r else x

theorem first_l0 (l : List Int) (hl : l.length < 4611686018427387904) : ∀ (n i : Nat), i + n = l.length → Ev (fun k => line_first.l0 k l (l.length : Int) (i : Int)) (fnz (l.drop i))
 | 0, i, h => by
  refine Ev.succ (f := fun k => line_first.l0 k l (l.length : Int) (i : Int)) ?_
  have h1 : ¬ (i : Int) < (l.length : Int) := by omega
  simp only [line_first.l0, h1, if_false]
  rw [show l.drop i = [] from List.drop_eq_nil_of_le (by omega)]
  exact Ev.some
 | n + 1, i, h => by
  refine Ev.succ (f := fun k => line_first.l0 k l (l.length : Int) (i : Int)) ?_
  have h1 : (i : Int) < (l.length : Int) := by omega
  have h2 : (0 : Int) ≤ (i : Int) := by omega
  simp only [line_first.l0, h1, h2, if_true, up (show i < 4611686018427387904 by omega)]
  rw [drop_rd (show i < l.length by omega)]
  unfold fnz
  by_cases e : rd l (i : Int) = 0
  ·simp only [e, if_true]
   exact first_l0 l hl n (i + 1) (by omega)
  ·simp only [e, if_false]
   exact Ev.some
theorem first_ev (l : List Int) (hl : l.length < 4611686018427387904) : Ev (fun k => line_first.f k l) (fnz l) := first_l0 l hl l.length 0 (by omega)

/-- Not from 0 to m. -/
def bad (m x : Int) : Bool := !(decide (0 ≤ x) && decide (x ≤ m))
theorem within_bad (m x : Int) : decide (0 ≤ x ∧ x ≤ m) = !bad m x := by
 unfold bad; by_cases h : 0 ≤ x <;> by_cases h2 : x ≤ m <;> simp [h, h2]
/-- The index of the first one that is not within, or none; the number of the error. -/
def lErr (l : List Int) (n : Nat) (m : Int) : Int × Int :=
 if l.length = 0 then (0, 10) else if n < l.length then (0, 8) else
  if idxF (bad m) l ≥ 0 then (idxF (bad m) l, 2) else (0, 0)

theorem listErr_eq (l : List Int) (n : Nat) (m : Int) : line_listErr.f l (n : Int) m = some (lErr l n m) := by
 have hb : (fun x : Int => !(decide (0 ≤ x) && decide (x ≤ m))) = bad m := rfl
 unfold line_listErr.f lErr
 rw [hb]
 by_cases h0 : l.length = 0
 ·simp only [h0, if_true]
 ·by_cases h1 : n < l.length
  ·have h2 : (n : Int) < (l.length : Int) := by omega
   simp only [h0, h1, h2, if_true, if_false]
  ·have h2 : ¬ (n : Int) < (l.length : Int) := by omega
   simp only [h0, h1, h2, if_false]
   split <;> rfl
theorem lineCheckSpectrum_eq (l : List Int) : line_CheckSpectrum.f l = some (lErr l 16 10000) := by
 have h : line_listErr.f l 16 10000 = some (lErr l 16 10000) := listErr_eq l 16 10000
 unfold line_CheckSpectrum.f; rw [h]; rfl
theorem lineCheckNoise_eq (l : List Int) : line_CheckNoise.f l = some (lErr l 4 1000) := by
 have h : line_listErr.f l 4 1000 = some (lErr l 4 1000) := listErr_eq l 4 1000
 unfold line_CheckNoise.f; rw [h]; rfl

theorem idxF_nil (p : Int → Bool) : idxF p [] = -1 := rfl
theorem idxF_ge (p : Int → Bool) (l : List Int) : -1 ≤ idxF p l := by
 unfold idxF
 cases l.findIdx? p <;> simp <;> omega
theorem idxF_cons (p : Int → Bool) (a : Int) (r : List Int) : idxF p (a :: r) = if p a = true then 0 else if idxF p r ≥ 0 then idxF p r + 1 else -1 := by
  unfold idxF
  rw [List.findIdx?_cons]
  by_cases h : p a = true
  · simp [h]
  · simp only [h, if_false, Bool.false_eq_true]
    cases r.findIdx? p with
    | none => simp
    | some i => simp <;> omega

theorem refSpectrum_l0 (l : List Int) (hl : l.length < 4611686018427387904) : ∀ (n i : Nat), i + n = l.length →
  Ev (fun k => Rf_CheckSpectrum.l0 k l (i : Int)) (if idxF (bad 10000) (l.drop i) ≥ 0 then (idxF (bad 10000) (l.drop i) + i, 2) else (0, 0))
 | 0, i, h => by
  refine Ev.succ (f := fun k => Rf_CheckSpectrum.l0 k l (i : Int)) ?_
  have h1 : ¬ (i : Int) < (l.length : Int) := by omega
  simp only [Rf_CheckSpectrum.l0, h1, if_false]
  rw [show l.drop i = [] from List.drop_eq_nil_of_le (by omega), idxF_nil]
  exact Ev.some
 | n + 1, i, h => by
  refine Ev.succ (f := fun k => Rf_CheckSpectrum.l0 k l (i : Int)) ?_
  have h1 : (i : Int) < (l.length : Int) := by omega
  have h2 : (0 : Int) ≤ (i : Int) := by omega
  simp only [Rf_CheckSpectrum.l0, h1, h2, if_true, up (show i < 4611686018427387904 by omega), Within_eq, within_bad, Option.bind_some]
  rw [drop_rd (show i < l.length by omega), idxF_cons]
  cases e : bad 10000 (rd l (i : Int)) with
  | false =>
   simp only [e, Bool.not_false, if_true, Bool.false_eq_true, if_false]
   have ih := refSpectrum_l0 l hl n (i + 1) (by omega)
   have hg := idxF_ge (bad 10000) (l.drop (i + 1))
   by_cases q : idxF (bad 10000) (l.drop (i + 1)) ≥ 0
   ·simp only [q, if_true] at ih ⊢
    rw [if_pos (by omega), show idxF (bad 10000) (l.drop (i + 1)) + 1 + (i : Int) = idxF (bad 10000) (l.drop (i + 1)) + ((i + 1 : Nat) : Int) by omega]
    exact ih
   ·simp only [q, if_false] at ih ⊢
    exact ih
  | true =>
   simp only [e, Bool.not_true, Bool.false_eq_true, if_false, if_true]
   rw [if_pos (by omega), Int.zero_add]
   exact Ev.some
theorem refCheckSpectrum_ev (l : List Int) : Ev (fun k => Rf_CheckSpectrum.f k l) (lErr l 16 10000) := by
 unfold Rf_CheckSpectrum.f lErr
 by_cases h0 : l.length = 0
 ·have : (l.length : Int) = 0 := by omega
  simp only [h0, if_true]
  exact Ev.some
 ·have h0' : ¬ (l.length : Int) = 0 := by omega
  by_cases h1 : 16 < l.length
  ·have h2 : (l.length : Int) > 16 := by omega
   simp only [h0, h0', h1, h2, if_true, if_false]
   exact Ev.some
  ·have h2 : ¬ (l.length : Int) > 16 := by omega
   simp only [h0, h0', h1, h2, if_false]
   have := refSpectrum_l0 l (by omega) l.length 0 (by omega)
   simpa using this
theorem refNoise_l0 (l : List Int) (hl : l.length < 4611686018427387904) : ∀ (n i : Nat), i + n = l.length →
  Ev (fun k => Rf_CheckNoise.l0 k (i : Int) l) (if idxF (bad 1000) (l.drop i) ≥ 0 then (idxF (bad 1000) (l.drop i) + i, 2) else (0, 0))
 | 0, i, h => by
  refine Ev.succ (f := fun k => Rf_CheckNoise.l0 k (i : Int) l) ?_
  have h1 : ¬ (i : Int) < (l.length : Int) := by omega
  simp only [Rf_CheckNoise.l0, h1, if_false]
  rw [show l.drop i = [] from List.drop_eq_nil_of_le (by omega), idxF_nil]
  exact Ev.some
 | n + 1, i, h => by
  refine Ev.succ (f := fun k => Rf_CheckNoise.l0 k (i : Int) l) ?_
  have h1 : (i : Int) < (l.length : Int) := by omega
  have h2 : (0 : Int) ≤ (i : Int) := by omega
  simp only [Rf_CheckNoise.l0, h1, h2, if_true, up (show i < 4611686018427387904 by omega), Within_eq, within_bad, Option.bind_some]
  rw [drop_rd (show i < l.length by omega), idxF_cons]
  cases e : bad 1000 (rd l (i : Int)) with
  | false =>
   simp only [e, Bool.not_false, if_true, Bool.false_eq_true, if_false]
   have ih := refNoise_l0 l hl n (i + 1) (by omega)
   have hg := idxF_ge (bad 1000) (l.drop (i + 1))
   by_cases q : idxF (bad 1000) (l.drop (i + 1)) ≥ 0
   ·simp only [q, if_true] at ih ⊢
    rw [if_pos (by omega), show idxF (bad 1000) (l.drop (i + 1)) + 1 + (i : Int) = idxF (bad 1000) (l.drop (i + 1)) + ((i + 1 : Nat) : Int) by omega]
    exact ih
   ·simp only [q, if_false] at ih ⊢
    exact ih
  | true =>
   simp only [e, Bool.not_true, Bool.false_eq_true, if_false, if_true]
   rw [if_pos (by omega), Int.zero_add]
   exact Ev.some
theorem refCheckNoise_ev (l : List Int) : Ev (fun k => Rf_CheckNoise.f k l) (lErr l 4 1000) := by
 unfold Rf_CheckNoise.f lErr
 by_cases h0 : l.length = 0
 ·have : (l.length : Int) = 0 := by omega
  simp only [h0, if_true]
  exact Ev.some
 ·have h0' : ¬ (l.length : Int) = 0 := by omega
  by_cases h1 : 4 < l.length
  ·have h2 : (l.length : Int) > 4 := by omega
   simp only [h0, h0', h1, h2, if_true, if_false]
   exact Ev.some
  ·have h2 : ¬ (l.length : Int) > 4 := by omega
   simp only [h0, h0', h1, h2, if_false]
   have := refNoise_l0 l (by omega) l.length 0 (by omega)
   simpa using this
/-- What the program says for it (the one number without a positive twin stays as it is). -/
def gq (x y : Int) : Int := if Int.gcd x y = 9223372036854775808 then -9223372036854775808 else (Int.gcd x y : Int)

theorem size_abs {x : Int} (h : -9223372036854775808 ≤ x ∧ x ≤ 9223372036854775807) : mx x (wrap64 (-x)) = gq x 0 := by
 unfold gq
 rw [Int.gcd_zero_right]
 unfold mx wrap64
 by_cases e : x = -9223372036854775808
 ·subst e; rfl
 ·rw [if_neg (show ¬ x.natAbs = 9223372036854775808 by omega)]
  split <;> omega

theorem gcd_step (x y : Int) : gq y (x.tmod y) = gq x y := by
 have : Int.gcd y (x.tmod y) = Int.gcd x y := by
  show Nat.gcd y.natAbs (x.tmod y).natAbs = Nat.gcd x.natAbs y.natAbs
  rw [Int.natAbs_tmod, Nat.gcd_comm, ← Nat.gcd_rec, Nat.gcd_comm]
 unfold gq
 rw [this]

theorem tmod_in {x y : Int} (hx : -9223372036854775808 ≤ x ∧ x ≤ 9223372036854775807) (hy : -9223372036854775808 ≤ y ∧ y ≤ 9223372036854775807) (h0 : y ≠ 0) : (x.tmod y).natAbs < y.natAbs ∧ -9223372036854775808 ≤ x.tmod y ∧ x.tmod y ≤ 9223372036854775807 := by
 have h : (x.tmod y).natAbs < y.natAbs := by
  rw [Int.natAbs_tmod]
  exact Nat.mod_lt _ (by omega)
 omega

theorem gcd_l0 : ∀ (m : Nat) (x y : Int), y.natAbs ≤ m → (-9223372036854775808 ≤ x ∧ x ≤ 9223372036854775807) → (-9223372036854775808 ≤ y ∧ y ≤ 9223372036854775807) → Ev (fun k => Bs_Gcd.l0 k x y) (gq x y)
 | 0, x, y, h, hx, _ => by
  refine Ev.succ (f := fun k => Bs_Gcd.l0 k x y) ?_
  obtain rfl : y = 0 := by omega
  simp only [Bs_Gcd.l0, if_true, Size_eq, Option.bind_some, size_abs hx]
  exact Ev.some
 | m + 1, x, y, h, hx, hy => by
  refine Ev.succ (f := fun k => Bs_Gcd.l0 k x y) ?_
  by_cases h0 : y = 0
  ·subst h0
   simp only [Bs_Gcd.l0, if_true, Size_eq, Option.bind_some, size_abs hx]
   exact Ev.some
  ·simp only [Bs_Gcd.l0, h0, if_false]
   have ht := tmod_in hx hy h0
   rw [← gcd_step x y]
   exact gcd_l0 m y (x.tmod y) (by omega) hy ht.2
theorem gcd_ev {x y : Int} (hx : -9223372036854775808 ≤ x ∧ x ≤ 9223372036854775807) (hy : -9223372036854775808 ≤ y ∧ y ≤ 9223372036854775807) : Ev (fun k => Bs_Gcd.f k x y) (gq x y) := gcd_l0 _ x y (Nat.le_refl _) hx hy
theorem divisor_eq : ∀ (k : Nat) (x y : Int), line_divisor.l0 k x y = Bs_Gcd.l0 k x y
 | 0, _, _ => rfl
 | k + 1, x, y => by
  simp only [line_divisor.l0, Bs_Gcd.l0, divisor_eq k, Size_eq, Option.bind_some]
theorem divisor_ev {x y : Int} (hx : -9223372036854775808 ≤ x ∧ x ≤ 9223372036854775807) (hy : -9223372036854775808 ≤ y ∧ y ≤ 9223372036854775807) : Ev (fun k => line_divisor.f k x y) (gq x y) :=
 Ev.congr (f := fun k => Bs_Gcd.f k x y) (fun k => (divisor_eq k x y).symm) (gcd_ev hx hy)

def tErr (num den : Int) : Int := if den ≤ 0 then 3 else if gq num den = 1 then (if (-100 ≤ num ∧ num ≤ 100) ∧ den ≤ 100 then 0 else 2) else 3

theorem lowestErr_ev {num den : Int} (hx : -9223372036854775808 ≤ num ∧ num ≤ 9223372036854775807) (hy : -9223372036854775808 ≤ den ∧ den ≤ 9223372036854775807) :
    Ev (fun k => line_lowestErr.f k num den 100) (tErr num den) := by
  unfold line_lowestErr.f tErr
  have hj : ∀ b : Bool, Ev (fun k => line_lowestErr.j0 k 100 b num den) (if b = true then 3 else if (-100 ≤ num ∧ num ≤ 100) ∧ den ≤ 100 then 0 else 2) := fun b => by
    refine Ev.succ (f := fun k => line_lowestErr.j0 k 100 b num den) ?_
    cases b with
    | true => simp only [line_lowestErr.j0, if_true]; exact Ev.some
    | false =>
      simp only [line_lowestErr.j0, Bool.false_eq_true, if_false, within_eq, unless_eq, Option.bind_some, show wrap64 (-100) = -100 by unfold wrap64; omega]
      by_cases h1 : -100 ≤ num ∧ num ≤ 100
      · by_cases h2 : den ≤ 100
        · simp only [h1, h2, and_self, decide_true, if_true]; exact Ev.some
        · simp only [h1, h2, and_self, and_false, decide_true, decide_false, if_true, if_false, Bool.false_eq_true]; exact Ev.some
      · simp only [h1, decide_false, false_and, if_false, Bool.false_eq_true]; exact Ev.some
  by_cases h0 : den ≤ 0
  · simp only [h0, if_true]
    have := hj true
    simpa using this
  · simp only [h0, if_false]
    refine Ev.bind (divisor_ev hx hy) ?_
    refine cast ?_ (hj (gq num den != 1))
    congr 1
    by_cases h1 : gq num den = 1 <;> simp [h1]

theorem TruthErr_ev {num den : Int} (hx : -9223372036854775808 ≤ num ∧ num ≤ 9223372036854775807) (hy : -9223372036854775808 ≤ den ∧ den ≤ 9223372036854775807) :
  Ev (fun k => Rf_TruthErr.f k num den) (tErr num den) := by
 have h1 : Ev (fun k => Bs_IsLowest.f k num den) (decide (¬ den ≤ 0 ∧ gq num den = 1)) := by
  unfold Bs_IsLowest.f
  by_cases h0 : den ≤ 0
  ·simp only [show ¬ den > 0 by omega, if_false, h0, not_true, false_and, decide_false]
   exact Ev.some
  ·simp only [show den > 0 by omega, if_true, h0, not_false_iff, true_and]
   refine Ev.bind (gcd_ev hx hy) ?_
   by_cases e : gq num den = 1
   ·simp only [e]; exact Ev.some
   ·simp only [e, decide_false, show (gq num den == 1) = false from beq_eq_false_iff_ne.mpr e]; exact Ev.some
 have h2 : ∃ s : Int, Ev (fun k => Rf_FracErr.f k num den) s ∧ ((¬ den ≤ 0 ∧ gq num den = 1) → s = (if (-1000000000 ≤ num ∧ num ≤ 1000000000) ∧ 1 ≤ den ∧ den ≤ 1000000000 then 0 else 2)) ∧ (¬ (¬ den ≤ 0 ∧ gq num den = 1) → s = 3) := by
  unfold Rf_FracErr.f
  by_cases e : ¬ den ≤ 0 ∧ gq num den = 1
  ·refine ⟨if (-1000000000 ≤ num ∧ num ≤ 1000000000) ∧ 1 ≤ den ∧ den ≤ 1000000000 then 0 else 2, Ev.bind h1 ?_, fun _ => rfl, fun h => absurd e h⟩
   simp only [e, not_false_iff, and_self, decide_true, if_true, Bs_IsSmall.f, Within_eq, Option.bind_some]
   by_cases q : -1000000000 ≤ num ∧ num ≤ 1000000000
   ·by_cases r : 1 ≤ den ∧ den ≤ 1000000000
    ·simp only [q, r, and_self, decide_true, if_true, Option.bind_some]; exact Ev.some
    ·simp only [q, r, and_self, and_false, decide_true, decide_false, if_true, if_false, Bool.false_eq_true, Option.bind_some]; exact Ev.some
   ·simp only [q, false_and, decide_false, if_false, Bool.false_eq_true, Option.bind_some]; exact Ev.some
  ·refine ⟨3, Ev.bind h1 ?_, fun h => absurd h e, fun _ => rfl⟩
   simp only [e, decide_false, Bool.false_eq_true, if_false]; exact Ev.some
 obtain ⟨s, hs, ht, hf⟩ := h2
 unfold Rf_TruthErr.f
 refine Ev.bind hs ?_
 unfold tErr
 by_cases h0 : den ≤ 0
 ·rw [hf (fun h => h.1 h0)]
  simp only [h0, if_true, show ¬ (3 : Int) = 0 by decide, if_false]; exact Ev.some
 ·by_cases e : gq num den = 1
  ·rw [ht ⟨h0, e⟩]
   by_cases q : -100 ≤ num ∧ num ≤ 100
   ·by_cases r : den ≤ 100
    ·have : (-1000000000 ≤ num ∧ num ≤ 1000000000) ∧ 1 ≤ den ∧ den ≤ 1000000000 := by omega
     simp only [this, h0, e, q, r, show ¬ den > 100 by omega, and_self, if_true, if_false, Within_eq, Option.bind_some, decide_true]; exact Ev.some
    ·by_cases big : (-1000000000 ≤ num ∧ num ≤ 1000000000) ∧ 1 ≤ den ∧ den ≤ 1000000000
     ·simp only [big, h0, e, q, r, show den > 100 by omega, and_self, and_false, if_true, if_false, Within_eq, Option.bind_some, decide_true]; exact Ev.some
     ·simp only [big, h0, e, q, r, and_false, if_false, if_true, show ¬ (2 : Int) = 0 by decide]; exact Ev.some
   ·by_cases big : (-1000000000 ≤ num ∧ num ≤ 1000000000) ∧ 1 ≤ den ∧ den ≤ 1000000000
    ·simp only [big, h0, e, q, false_and, and_self, if_true, if_false, Within_eq, Option.bind_some, decide_false, Bool.false_eq_true]; exact Ev.some
    ·simp only [big, h0, e, q, false_and, if_false, if_true, show ¬ (2 : Int) = 0 by decide]; exact Ev.some
  ·rw [hf (fun h => e h.2)]
   simp only [h0, e, if_false, show ¬ (3 : Int) = 0 by decide]; exact Ev.some

theorem cases_l0 (v : List Int) (h1 : 1 ≤ v.length) (h4 : v.length ≤ 4) (n : Nat) (hn : n < 4611686018427387904) : ∀ (d i : Nat), i + d = n → v.length ^ i ≤ 4096 →
  Ev (fun k => line_cases.l0 k ((v.length ^ i : Nat) : Int) (n : Int) (i : Int) v) (if v.length ^ n ≤ 4096 then (((v.length ^ n : Nat) : Int), true) else (0, false))
 | 0, i, h, hp => by
  refine Ev.succ (f := fun k => line_cases.l0 k ((v.length ^ i : Nat) : Int) (n : Int) (i : Int) v) ?_
  obtain rfl : i = n := by omega
  simp only [line_cases.l0, show ¬ (i : Int) < (i : Int) by omega, if_false, hp, if_true]
  exact Ev.some
 | d + 1, i, h, hp => by
  refine Ev.succ (f := fun k => line_cases.l0 k ((v.length ^ i : Nat) : Int) (n : Int) (i : Int) v) ?_
  have e : ((v.length ^ i : Nat) : Int) * (v.length : Int) = ((v.length ^ (i + 1) : Nat) : Int) := by rw [Nat.pow_succ]; push_cast; rfl
  have hle : v.length ^ (i + 1) ≤ 4096 * 4 := by rw [Nat.pow_succ]; exact Nat.mul_le_mul hp h4
  simp only [line_cases.l0, show (i : Int) < (n : Int) by omega, if_true, e, w64 (n := ((v.length ^ (i + 1) : Nat) : Int)) (by omega), up (show i < 4611686018427387904 by omega)]
  by_cases q : v.length ^ (i + 1) ≤ 4096
  ·simp only [show ¬ ((v.length ^ (i + 1) : Nat) : Int) > 4096 by omega, if_false]
   exact cases_l0 v h1 h4 n hn d (i + 1) (by omega) q
  ·have : v.length ^ (i + 1) ≤ v.length ^ n := Nat.pow_le_pow_right h1 (by omega)
   rw [if_neg (show ¬ v.length ^ n ≤ 4096 by omega)]
   simp only [show ((v.length ^ (i + 1) : Nat) : Int) > 4096 by omega, if_true]
   exact Ev.some
theorem cases_ev (v : List Int) (h1 : 1 ≤ v.length) (h4 : v.length ≤ 4) (n : Nat) (hn : n < 4611686018427387904) :
  Ev (fun k => line_cases.f k v (n : Int)) (if v.length ^ n ≤ 4096 then (((v.length ^ n : Nat) : Int), true) else (0, false)) := by
 have := cases_l0 v h1 h4 n hn n 0 (by omega) (by simp)
 simpa [line_cases.f] using this
theorem Cases_l0 (v : List Int) (h1 : 1 ≤ v.length) (h4 : v.length ≤ 4) (n : Nat) (hn : n < 4611686018427387904) : ∀ (d i : Nat), i + d = n → v.length ^ i ≤ 4096 →
  Ev (fun k => Rf_Cases.l0 k (n : Int) ((v.length ^ i : Nat) : Int) (i : Int) v) (if v.length ^ n ≤ 4096 then ((v.length ^ n : Nat) : Int) else 4097)
 | 0, i, h, hp => by
  refine Ev.succ (f := fun k => Rf_Cases.l0 k (n : Int) ((v.length ^ i : Nat) : Int) (i : Int) v) ?_
  obtain rfl : i = n := by omega
  simp only [Rf_Cases.l0, show ¬ (i : Int) < (i : Int) by omega, if_false, hp, if_true]
  exact Ev.some
 | d + 1, i, h, hp => by
  refine Ev.succ (f := fun k => Rf_Cases.l0 k (n : Int) ((v.length ^ i : Nat) : Int) (i : Int) v) ?_
  have e : ((v.length ^ i : Nat) : Int) * (v.length : Int) = ((v.length ^ (i + 1) : Nat) : Int) := by rw [Nat.pow_succ]; push_cast; rfl
  have hle : v.length ^ (i + 1) ≤ 4096 * 4 := by rw [Nat.pow_succ]; exact Nat.mul_le_mul hp h4
  simp only [Rf_Cases.l0, show (i : Int) < (n : Int) by omega, if_true, e, w64 (n := ((v.length ^ (i + 1) : Nat) : Int)) (by omega), up (show i < 4611686018427387904 by omega)]
  by_cases q : v.length ^ (i + 1) ≤ 4096
  ·simp only [show ¬ ((v.length ^ (i + 1) : Nat) : Int) > 4096 by omega, if_false]
   exact Cases_l0 v h1 h4 n hn d (i + 1) (by omega) q
  ·have : v.length ^ (i + 1) ≤ v.length ^ n := Nat.pow_le_pow_right h1 (by omega)
   rw [if_neg (show ¬ v.length ^ n ≤ 4096 by omega)]
   simp only [show ((v.length ^ (i + 1) : Nat) : Int) > 4096 by omega, if_true]
   exact Ev.some
theorem Cases_ev (v : List Int) (h1 : 1 ≤ v.length) (h4 : v.length ≤ 4) (n : Nat) (hn : n < 4611686018427387904) :
  Ev (fun k => Rf_Cases.f k v (n : Int)) (if v.length ^ n ≤ 4096 then ((v.length ^ n : Nat) : Int) else 4097) := by
 have := Cases_l0 v h1 h4 n hn n 0 (by omega) (by simp)
 simpa [Rf_Cases.f] using this

def lmx : List Int → Int → Int
 | [], a => a
 | x :: r, a => lmx r (mx a x)
theorem max_l0 (l : List Int) (hl : l.length < 4611686018427387904) : ∀ (n i : Nat) (a : Int), i + n = l.length → Ev (fun k => slices_Max_int_int.l0 k l a (i : Int)) (lmx (l.drop i) a)
 | 0, i, a, h => by
  refine Ev.succ (f := fun k => slices_Max_int_int.l0 k l a (i : Int)) ?_
  simp only [slices_Max_int_int.l0, show ¬ (i : Int) < (l.length : Int) by omega, if_false]
  rw [show l.drop i = [] from List.drop_eq_nil_of_le (by omega)]
  exact Ev.some
 | n + 1, i, a, h => by
  refine Ev.succ (f := fun k => slices_Max_int_int.l0 k l a (i : Int)) ?_
  simp only [slices_Max_int_int.l0, show (i : Int) < (l.length : Int) by omega, show (0 : Int) ≤ (i : Int) by omega, if_true, up (show i < 4611686018427387904 by omega)]
  rw [drop_rd (show i < l.length by omega)]
  exact max_l0 l hl n (i + 1) _ (by omega)
theorem max_ev (l : List Int) (h0 : 0 < l.length) (hl : l.length < 4611686018427387904) : Ev (fun k => slices_Max_int_int.f k l) (lmx (l.drop 1) (rd l 0)) := by
 unfold slices_Max_int_int.f
 simp only [show ¬ (l.length : Int) < 1 by omega, show (0 : Int) < (l.length : Int) by omega, if_true, if_false]
 exact max_l0 l hl (l.length - 1) 1 _ (by omega)
theorem lmx_le : ∀ (l : List Int) (a b : Int), lmx l a ≤ b ↔ a ≤ b ∧ ∀ x ∈ l, x ≤ b
 | [], a, b => by simp [lmx]
 | x :: r, a, b => by
  rw [lmx, lmx_le r, mx_eq]
  simp only [List.mem_cons, forall_eq_or_imp]
  constructor
  ·rintro ⟨h, h2⟩; exact ⟨by omega, by omega, h2⟩
  ·rintro ⟨h, h2, h3⟩; exact ⟨by omega, h3⟩
theorem max_le (l : List Int) (h0 : 0 < l.length) (b : Int) : lmx (l.drop 1) (rd l 0) ≤ b ↔ ∀ x ∈ l, x ≤ b := by
 rw [lmx_le]
 have e := drop_rd (l := l) (i := 0) h0
 simp only [List.drop_zero, Nat.zero_add] at e
 constructor
 ·rintro ⟨h1, h2⟩ x hx
  rw [e] at hx
  rcases List.mem_cons.1 hx with rfl | hx
  ·exact h1
  ·exact h2 x hx
 ·intro h
  exact ⟨h _ (by rw [e]; exact List.mem_cons_self), fun x hx => h x (List.mem_of_mem_drop hx)⟩

def cErr (l v : List Int) (num den : Int) : Int :=
 if (lErr l 16 10000).2 = 0 then (if (lErr v 4 1000).2 = 0 then (if l.all (fun x => decide (x ≤ 9000)) = true then (if v.length ^ l.length ≤ 4096 then tErr num den else 8) else 2) else (lErr v 4 1000).2) else (lErr l 16 10000).2

theorem lErr_len {l : List Int} {n : Nat} {m : Int} (h : (lErr l n m).2 = 0) : 1 ≤ l.length ∧ l.length ≤ n := by
 unfold lErr at h
 by_cases h0 : l.length = 0
 ·simp [h0] at h
 ·by_cases h1 : n < l.length
  ·simp [h0, h1] at h
  ·omega
theorem CheckCase_ev (l v : List Int) {num den : Int} (hx : -9223372036854775808 ≤ num ∧ num ≤ 9223372036854775807) (hy : -9223372036854775808 ≤ den ∧ den ≤ 9223372036854775807) :
  Ev (fun k => line_CheckCase.f k l v num den) (cErr l v num den) := by
 unfold line_CheckCase.f cErr
 rw [lineCheckSpectrum_eq, lineCheckNoise_eq]
 simp only [Option.bind_some]
 refine Ev.bind (first_ev _ (by simp)) ?_
 by_cases h1 : (lErr l 16 10000).2 = 0
 ·by_cases h2 : (lErr v 4 1000).2 = 0
  ·obtain ⟨l1, l2⟩ := lErr_len h1
   obtain ⟨v1, v2⟩ := lErr_len h2
   simp only [h1, h2, fnz, if_true]
   refine Ev.bind (cases_ev v v1 v2 l.length (by omega)) ?_
   refine Ev.bind (max_ev l (by omega) (by omega)) ?_
   simp only [unless_eq, Option.bind_some]
   refine Ev.bind (lowestErr_ev hx hy) ?_
   refine Ev.bind (first_ev _ (by simp)) ?_
   have hm := max_le l (by omega) 9000
   by_cases a : l.all (fun x => decide (x ≤ 9000)) = true
   ·have a' : lmx (l.drop 1) (rd l 0) ≤ 9000 := hm.2 (by simpa using a)
    by_cases c : v.length ^ l.length ≤ 4096
    ·simp only [a, a', c, fnz, decide_true, if_true]
     by_cases t : tErr num den = 0
     ·simp only [t, if_true]; exact Ev.some
     ·simp only [t, if_false]; exact Ev.some
    ·simp only [a, a', c, fnz, decide_true, if_true, if_false, Bool.false_eq_true, show ¬ (8 : Int) = 0 by decide]; exact Ev.some
   ·have a' : ¬ lmx (l.drop 1) (rd l 0) ≤ 9000 := fun h => a (by simpa using hm.1 h)
    simp only [a, a', fnz, decide_false, if_false, Bool.false_eq_true, show ¬ (2 : Int) = 0 by decide]; exact Ev.some
  ·simp only [h1, h2, fnz, if_true, if_false]; exact Ev.some
 ·simp only [h1, fnz, if_false]; exact Ev.some

theorem CaseErr_l0 (l v : List Int) (v1 : 1 ≤ v.length) (v4 : v.length ≤ 4) (hl : l.length < 4611686018427387904) {num den : Int} (hx : -9223372036854775808 ≤ num ∧ num ≤ 9223372036854775807) (hy : -9223372036854775808 ≤ den ∧ den ≤ 9223372036854775807) :
  ∀ (n i : Nat), i + n = l.length → Ev (fun k => Rf_CaseErr.l0 k (i : Int) l v num den) (if (l.drop i).all (fun x => decide (x ≤ 9000)) = true then (if v.length ^ l.length ≤ 4096 then tErr num den else 8) else 2)
 | 0, i, h => by
  refine Ev.succ (f := fun k => Rf_CaseErr.l0 k (i : Int) l v num den) ?_
  simp only [Rf_CaseErr.l0, show ¬ (i : Int) < (l.length : Int) by omega, if_false]
  rw [show l.drop i = [] from List.drop_eq_nil_of_le (by omega)]
  refine Ev.bind (Cases_ev v v1 v4 l.length hl) ?_
  by_cases c : v.length ^ l.length ≤ 4096
  ·simp only [c, if_true, List.all_nil, show ¬ ((v.length ^ l.length : Nat) : Int) > 4096 by omega, if_false]
   exact Ev.bind (TruthErr_ev hx hy) Ev.some
  ·simp only [c, if_true, if_false, List.all_nil, show (4097 : Int) > 4096 by decide]; exact Ev.some
 | n + 1, i, h => by
  refine Ev.succ (f := fun k => Rf_CaseErr.l0 k (i : Int) l v num den) ?_
  simp only [Rf_CaseErr.l0, show (i : Int) < (l.length : Int) by omega, show (0 : Int) ≤ (i : Int) by omega, if_true, up (show i < 4611686018427387904 by omega)]
  rw [drop_rd (show i < l.length by omega), List.all_cons]
  by_cases e : rd l (i : Int) ≤ 9000
  ·simp only [e, decide_true, Bool.true_and, show ¬ rd l (i : Int) > 9000 by omega, if_false]
   exact CaseErr_l0 l v v1 v4 hl hx hy n (i + 1) (by omega)
  ·simp only [e, decide_false, Bool.false_and, show rd l (i : Int) > 9000 by omega, if_true, Bool.false_eq_true, if_false]; exact Ev.some
theorem CaseErr_ev (l v : List Int) {num den : Int} (hx : -9223372036854775808 ≤ num ∧ num ≤ 9223372036854775807) (hy : -9223372036854775808 ≤ den ∧ den ≤ 9223372036854775807) :
  Ev (fun k => Rf_CaseErr.f k l v num den) (cErr l v num den) := by
 have hS : Ev (fun k => Rf_SpectrumErr.f k l) (lErr l 16 10000).2 := Ev.bind (refCheckSpectrum_ev l) Ev.some
 have hN : Ev (fun k => Rf_NoiseErr.f k v) (lErr v 4 1000).2 := Ev.bind (refCheckNoise_ev v) Ev.some
 unfold Rf_CaseErr.f cErr
 refine Ev.bind hS ?_
 by_cases h1 : (lErr l 16 10000).2 = 0
 ·simp only [h1, if_true]
  refine Ev.bind hN ?_
  by_cases h2 : (lErr v 4 1000).2 = 0
  ·obtain ⟨l1, l2⟩ := lErr_len h1
   obtain ⟨v1, v2⟩ := lErr_len h2
   simp only [h2, if_true]
   have := CaseErr_l0 l v v1 v2 (by omega) hx hy l.length 0 (by omega)
   simpa using this
  ·simp only [h2, if_false]; exact Ev.some
 ·simp only [h1, if_false]; exact Ev.some
def nzF (v : List Int) : List Int → Int → List Int
 | [], _ => []
 | x :: r, j => wrap64 (x + rd v (Int.tmod j (v.length : Int))) :: nzF v r (Int.tdiv j (v.length : Int))
theorem nzF_length (v : List Int) : ∀ (l : List Int) (j : Int), (nzF v l j).length = l.length
 | [], _ => rfl
 | _ :: r, j => by simp [nzF, nzF_length v r]

theorem digit_in {j m : Int} (h0 : 0 ≤ j) (h1 : 1 ≤ m) : 0 ≤ Int.tmod j m ∧ Int.tmod j m < m ∧ 0 ≤ Int.tdiv j m ∧ Int.tdiv j m ≤ j := by
 rw [Int.tmod_eq_emod_of_nonneg h0, Int.tdiv_eq_ediv_of_nonneg h0]
 exact ⟨Int.emod_nonneg _ (by omega), Int.emod_lt_of_pos _ (by omega), Int.ediv_nonneg h0 (by omega), Int.ediv_le_self _ h0⟩

theorem noisy_l0 (l v : List Int) (v1 : 1 ≤ v.length) (hl : l.length < 17592186044416) : ∀ (n i : Nat) (j : Int) (acc : List Int), i + n = l.length → 0 ≤ j → j < 9223372036854775808 → acc.length = i →
  Ev (fun k => line_noisy.l0 k j acc l (l.length : Int) (i : Int) v) (acc ++ nzF v (l.drop i) j)
 | 0, i, j, acc, h, _, _, _ => by
  refine Ev.succ (f := fun k => line_noisy.l0 k j acc l (l.length : Int) (i : Int) v) ?_
  simp only [line_noisy.l0, show ¬ (i : Int) < (l.length : Int) by omega, if_false]
  rw [show l.drop i = [] from List.drop_eq_nil_of_le (by omega), nzF, List.append_nil]
  exact Ev.some
 | n + 1, i, j, acc, h, h0, hj, ha => by
  refine Ev.succ (f := fun k => line_noisy.l0 k j acc l (l.length : Int) (i : Int) v) ?_
  obtain ⟨d1, d2, d3, d4⟩ := digit_in (m := (v.length : Int)) h0 (by omega)
  simp only [line_noisy.l0, show (i : Int) < (l.length : Int) by omega, show (0 : Int) ≤ (i : Int) by omega, show ¬ (v.length : Int) = 0 by omega, d1, d2, show acc.length < 17592186044416 by omega, if_true, if_false, up (show i < 4611686018427387904 by omega), w64 (n := Int.tdiv j (v.length : Int)) (by omega)]
  rw [drop_rd (show i < l.length by omega), nzF, List.append_cons acc _ (nzF v (l.drop (i + 1)) _)]
  exact noisy_l0 l v v1 hl n (i + 1) _ (acc ++ [wrap64 (rd l (i : Int) + rd v (Int.tmod j (v.length : Int)))]) (by omega) d3 (by omega) (by rw [List.length_append, ha]; rfl)
theorem noisy_ev (l v : List Int) (v1 : 1 ≤ v.length) (hl : l.length < 17592186044416) (j : Int) (h0 : 0 ≤ j) (hj : j < 9223372036854775808) : Ev (fun k => line_noisy.f k l v j) (nzF v l j) := by
 have := noisy_l0 l v v1 hl l.length 0 j [] (by omega) h0 hj rfl
 simpa [line_noisy.f] using this
theorem Noisy_l0 (l v : List Int) (v1 : 1 ≤ v.length) (hl : l.length < 17592186044416) : ∀ (n i : Nat) (j : Int) (acc : List Int), i + n = l.length → 0 ≤ j → j < 9223372036854775808 → acc.length = i →
  Ev (fun k => Rf_Noisy.l0 k l j acc (i : Int) v) (acc ++ nzF v (l.drop i) j)
 | 0, i, j, acc, h, _, _, _ => by
  refine Ev.succ (f := fun k => Rf_Noisy.l0 k l j acc (i : Int) v) ?_
  simp only [Rf_Noisy.l0, show ¬ (i : Int) < (l.length : Int) by omega, if_false]
  rw [show l.drop i = [] from List.drop_eq_nil_of_le (by omega), nzF, List.append_nil]
  exact Ev.some
 | n + 1, i, j, acc, h, h0, hj, ha => by
  refine Ev.succ (f := fun k => Rf_Noisy.l0 k l j acc (i : Int) v) ?_
  obtain ⟨d1, d2, d3, d4⟩ := digit_in (m := (v.length : Int)) h0 (by omega)
  simp only [Rf_Noisy.l0, show (i : Int) < (l.length : Int) by omega, show (0 : Int) ≤ (i : Int) by omega, show ¬ (v.length : Int) = 0 by omega, d1, d2, show acc.length < 17592186044416 by omega, if_true, if_false, up (show i < 4611686018427387904 by omega), w64 (n := Int.tdiv j (v.length : Int)) (by omega)]
  rw [drop_rd (show i < l.length by omega), nzF, List.append_cons acc _ (nzF v (l.drop (i + 1)) _)]
  exact Noisy_l0 l v v1 hl n (i + 1) _ (acc ++ [wrap64 (rd l (i : Int) + rd v (Int.tmod j (v.length : Int)))]) (by omega) d3 (by omega) (by rw [List.length_append, ha]; rfl)
theorem Noisy_ev (l v : List Int) (v1 : 1 ≤ v.length) (hl : l.length < 17592186044416) (j : Int) (h0 : 0 ≤ j) (hj : j < 9223372036854775808) : Ev (fun k => Rf_Noisy.f k l v j) (nzF v l j) := by
 have := Noisy_l0 l v v1 hl l.length 0 j [] (by omega) h0 hj rfl
 simpa [Rf_Noisy.f] using this

theorem max106_l0 (l : List Int) (hl : l.length < 4611686018427387904) : ∀ (n i : Nat) (a : Int), i + n = l.length → Ev (fun k => Sp_int_106.l0 k l a (i : Int)) (lmx (l.drop i) a)
 | 0, i, a, h => by
  refine Ev.succ (f := fun k => Sp_int_106.l0 k l a (i : Int)) ?_
  simp only [Sp_int_106.l0, show ¬ (i : Int) < (l.length : Int) by omega, if_false]
  rw [show l.drop i = [] from List.drop_eq_nil_of_le (by omega)]
  exact Ev.some
 | n + 1, i, a, h => by
  refine Ev.succ (f := fun k => Sp_int_106.l0 k l a (i : Int)) ?_
  simp only [Sp_int_106.l0, show (i : Int) < (l.length : Int) by omega, show (0 : Int) ≤ (i : Int) by omega, if_true, up (show i < 4611686018427387904 by omega)]
  rw [drop_rd (show i < l.length by omega)]
  exact max106_l0 l hl n (i + 1) _ (by omega)
/-- The greatest number of a list. -/
def lmax (l : List Int) : Int := lmx (l.drop 1) (rd l 0)
theorem max106_ev (l : List Int) (h0 : 0 < l.length) (hl : l.length < 4611686018427387904) : Ev (fun k => Sp_int_106.f k l) (lmax l) := by
 unfold Sp_int_106.f
 simp only [show ¬ (l.length : Int) < 1 by omega, show (0 : Int) < (l.length : Int) by omega, if_true, if_false]
 exact max106_l0 l hl (l.length - 1) 1 _ (by omega)
theorem lmax_le (l : List Int) (h0 : 0 < l.length) (b : Int) : lmax l ≤ b ↔ ∀ x ∈ l, x ≤ b := max_le l h0 b
theorem lmx_mem : ∀ (l : List Int) (a : Int), lmx l a = a ∨ lmx l a ∈ l
 | [], a => .inl rfl
 | x :: r, a => by
  rw [lmx]
  rcases lmx_mem r (mx a x) with h | h
  ·rw [h]
   unfold mx
   split
   ·exact .inr List.mem_cons_self
   ·exact .inl rfl
  ·exact .inr (List.mem_cons_of_mem _ h)
theorem lmax_mem (l : List Int) (h0 : 0 < l.length) : lmax l ∈ l := by
 have e := drop_rd (l := l) (i := 0) h0
 simp only [List.drop_zero, Nat.zero_add] at e
 rcases lmx_mem (l.drop 1) (rd l 0) with h | h
 ·unfold lmax; rw [h]; rw [e]; exact List.mem_cons_self
 ·exact List.mem_of_mem_drop h
theorem rd_mem {l : List Int} {i : Nat} (h : i < l.length) : rd l (i : Int) ∈ l := by
 rw [rd_nat, List.getD_eq_getElem?_getD, List.getElem?_eq_getElem h]; exact List.getElem_mem h
theorem mem_rd {l : List Int} {x : Int} (h : x ∈ l) : ∃ i : Nat, i < l.length ∧ rd l (i : Int) = x := by
 obtain ⟨i, hi, e⟩ := List.getElem_of_mem h
 exact ⟨i, hi, by rw [rd_nat, List.getD_eq_getElem?_getD, List.getElem?_eq_getElem hi]; exact e⟩

/-- Line i is as great as any. -/
def pk (l : List Int) (i : Nat) : Bool := l.all fun x => decide (x ≤ rd l (i : Int))
def peaksFrom (l : List Int) : Nat → Nat → List Int
 | 0, _ => []
 | n + 1, i => if pk l i = true then (i : Int) :: peaksFrom l n (i + 1) else peaksFrom l n (i + 1)
theorem mem_peaksFrom (l : List Int) : ∀ (n i : Nat) (p : Int), p ∈ peaksFrom l n i ↔ ∃ q : Nat, p = (q : Int) ∧ i ≤ q ∧ q < i + n ∧ pk l q = true
  | 0, i, p => by simp [peaksFrom]; omega
  | n + 1, i, p => by
    rw [peaksFrom]
    by_cases h : pk l i = true
    · rw [if_pos h, List.mem_cons, mem_peaksFrom l n (i + 1)]
      constructor
      · rintro (rfl | ⟨q, rfl, a, b, c⟩)
        · exact ⟨i, rfl, by omega, by omega, h⟩
        · exact ⟨q, rfl, by omega, by omega, c⟩
      · rintro ⟨q, rfl, a, b, c⟩
        by_cases e : q = i
        · subst e; exact .inl rfl
        · exact .inr ⟨q, rfl, by omega, by omega, c⟩
    · rw [if_neg h, mem_peaksFrom l n (i + 1)]
      constructor
      · rintro ⟨q, rfl, a, b, c⟩; exact ⟨q, rfl, by omega, by omega, c⟩
      · rintro ⟨q, rfl, a, b, c⟩
        exact ⟨q, rfl, by rcases Nat.lt_or_ge i q with h' | h'; exact h'; obtain rfl : q = i := by omega
                          exact absurd c h, by omega, c⟩

theorem Peaks_l1 (l : List Int) (hl : l.length < 17592186044416) (acc : List Int) (i : Nat) (hi : i < l.length) (ha : acc.length ≤ i) (R : List Int → List Int)
    (hnext : ∀ acc' : List Int, acc'.length ≤ i + 1 → Ev (fun k => Rf_Peaks.l0 k l acc' ((i + 1 : Nat) : Int)) (R acc')) : ∀ (n j : Nat) (b : Bool), j + n = l.length →
    Ev (fun k => Rf_Peaks.l1 k l acc (i : Int) b (j : Int)) (R (if (b && (l.drop j).all fun x => decide (x ≤ rd l (i : Int))) = true then acc ++ [(i : Int)] else acc))
  | 0, j, b, h => by
    refine Ev.succ (f := fun k => Rf_Peaks.l1 k l acc (i : Int) b (j : Int)) ?_
    simp only [Rf_Peaks.l1, show ¬ (j : Int) < (l.length : Int) by omega, if_false, up (show i < 4611686018427387904 by omega), show acc.length < 17592186044416 by omega, if_true]
    rw [show l.drop j = [] from List.drop_eq_nil_of_le (by omega), List.all_nil, Bool.and_true]
    cases b with
    | true => simp only [if_true]; exact hnext _ (by simp; omega)
    | false => simp only [Bool.false_eq_true, if_false]; exact hnext _ (by omega)
  | n + 1, j, b, h => by
    refine Ev.succ (f := fun k => Rf_Peaks.l1 k l acc (i : Int) b (j : Int)) ?_
    simp only [Rf_Peaks.l1, show (j : Int) < (l.length : Int) by omega, show (0 : Int) ≤ (j : Int) by omega, show (0 : Int) ≤ (i : Int) by omega, show (i : Int) < (l.length : Int) by omega, if_true, up (show j < 4611686018427387904 by omega)]
    rw [drop_rd (show j < l.length by omega), List.all_cons]
    cases b with
    | true =>
      simp only [if_true, Bool.true_and]
      exact Peaks_l1 l hl acc i hi ha R hnext n (j + 1) _ (by omega)
    | false =>
      simp only [Bool.false_eq_true, if_false, Bool.false_and]
      have := Peaks_l1 l hl acc i hi ha R hnext n (j + 1) false (by omega)
      simpa using this
theorem Peaks_l0 (l : List Int) (hl : l.length < 17592186044416) : ∀ (n i : Nat) (acc : List Int), i + n = l.length → acc.length ≤ i →
  Ev (fun k => Rf_Peaks.l0 k l acc (i : Int)) (acc ++ peaksFrom l n i)
 | 0, i, acc, h, ha => by
  refine Ev.succ (f := fun k => Rf_Peaks.l0 k l acc (i : Int)) ?_
  simp only [Rf_Peaks.l0, show ¬ (i : Int) < (l.length : Int) by omega, if_false, peaksFrom, List.append_nil]
  exact Ev.some
 | n + 1, i, acc, h, ha => by
  refine Ev.succ (f := fun k => Rf_Peaks.l0 k l acc (i : Int)) ?_
  simp only [Rf_Peaks.l0, show (i : Int) < (l.length : Int) by omega, if_true]
  have := Peaks_l1 l hl acc i (by omega) ha (fun a => a ++ peaksFrom l n (i + 1)) (fun acc' h' => Peaks_l0 l hl n (i + 1) acc' (by omega) h') l.length 0 true (by omega)
  rw [peaksFrom]
  simp only [Bool.true_and, List.drop_zero] at this
  by_cases q : pk l i = true
  ·have q' : (l.all fun x => decide (x ≤ rd l (i : Int))) = true := q
   rw [if_pos q]
   rw [if_pos q'] at this
   simpa using this
  ·have q' : ¬ (l.all fun x => decide (x ≤ rd l (i : Int))) = true := q
   rw [if_neg q]
   rw [if_neg q'] at this
   simpa using this
/-- All peaks. -/
def peaks (l : List Int) : List Int := peaksFrom l l.length 0
theorem Peaks_ev (l : List Int) (hl : l.length < 17592186044416) : Ev (fun k => Rf_Peaks.f k l) (peaks l) := by
 have := Peaks_l0 l hl l.length 0 [] (by omega) (by simp)
 simpa [Rf_Peaks.f, peaks] using this
theorem peaks_cons (l : List Int) (h0 : 0 < l.length) : ∃ (p : Nat) (r : List Int), peaks l = (p : Int) :: r ∧ p < l.length ∧ rd l (p : Int) = lmax l := by
  obtain ⟨i, hi, e⟩ := mem_rd (lmax_mem l h0)
  have hmem : (i : Int) ∈ peaks l := (mem_peaksFrom l _ _ _).2 ⟨i, rfl, by omega, by omega, by unfold pk; rw [e]; simpa using (lmax_le l h0 _).1 (Int.le_refl _)⟩
  cases hp : peaks l with
  | nil => rw [hp] at hmem; cases hmem
  | cons p r =>
    obtain ⟨q, rfl, _, hq, hk⟩ := (mem_peaksFrom l _ _ p).1 (by show p ∈ peaks l; rw [hp]; exact List.mem_cons_self)
    refine ⟨q, r, rfl, by omega, ?_⟩
    have h1 : lmax l ≤ rd l (q : Int) := (lmax_le l h0 _).2 (by simpa [pk] using hk)
    have h2 : rd l (q : Int) ≤ lmax l := (lmax_le l h0 _).1 (Int.le_refl _) _ (rd_mem (by omega))
    omega
/-- A fraction in lowest terms, as both say it. -/
def frac (a b : Int) : Int × Int := (wrap64 (Int.tdiv a (gq a b)), wrap64 (Int.tdiv b (gq a b)))
theorem fraction_ev {a b : Int} (ha : -9223372036854775808 ≤ a ∧ a ≤ 9223372036854775807) (hb : -9223372036854775808 ≤ b ∧ b ≤ 9223372036854775807) (h0 : gq a b ≠ 0) : Ev (fun k => line_fraction.f k a b) (frac a b) := by
 unfold line_fraction.f
 refine Ev.bind (divisor_ev ha hb) ?_
 simp only [h0, if_false]
 exact Ev.some
theorem Lowest_ev {a b : Int} (ha : -9223372036854775808 ≤ a ∧ a ≤ 9223372036854775807) (hb : 0 ≤ b ∧ b ≤ 9223372036854775807) (h0 : gq a b ≠ 0) : Ev (fun k => Bs_Lowest.f k a b) (frac a b) := by
 unfold Bs_Lowest.f
 refine Ev.bind (gcd_ev ha (by omega)) ?_
 simp only [show ¬ b < 0 by omega, h0, if_false]
 exact Ev.some

/-- A row of a valid case, or a valid spectrum. -/
def Good (l : List Int) : Prop := (1 ≤ l.length ∧ l.length ≤ 16) ∧ ∀ x ∈ l, 0 ≤ x ∧ x ≤ 10000
theorem Good.rd {l : List Int} (h : Good l) {i : Nat} (hi : i < l.length) : 0 ≤ rd l (i : Int) ∧ rd l (i : Int) ≤ 10000 := h.2 _ (rd_mem hi)

theorem gq_pos' {a b : Int} (hb : 0 < b ∧ b ≤ 4611686018427387904) : 0 < gq a b ∧ gq a b ≤ b ∧ gq a b = (Int.gcd a b : Int) := by
 have h1 : Int.gcd a b ≤ b.natAbs := Nat.le_of_dvd (by omega) (Nat.gcd_dvd_right _ _)
 have h2 : 0 < Int.gcd a b := Int.gcd_pos_of_ne_zero_right _ (by omega)
 unfold gq
 rw [if_neg (by omega)]
 omega
theorem frac_den {a b : Int} (hb : 0 < b ∧ b ≤ 4611686018427387904) : 0 < (frac a b).2 ∧ (frac a b).2 ≤ b := by
 obtain ⟨h1, h2, h3⟩ := gq_pos' (a := a) hb
 have hd : gq a b ∣ b := by rw [h3]; exact Int.gcd_dvd_right _ _
 obtain ⟨c, hc⟩ := hd
 have e : Int.tdiv b (gq a b) = c := by
  rw [Int.tdiv_eq_ediv_of_nonneg (by omega)]
  exact Int.ediv_eq_of_eq_mul_right (by omega) hc
 have c0 : 0 < c := by
  by_cases h : 0 < c
  ·exact h
  ·have := Int.mul_nonneg (show (0 : Int) ≤ gq a b by omega) (show (0 : Int) ≤ -c by omega)
   rw [Int.mul_neg] at this; omega
 have c1 : c ≤ b := by
  have : 1 * c ≤ gq a b * c := Int.mul_le_mul_of_nonneg_right (by omega) (by omega)
  omega
 show 0 < wrap64 _ ∧ wrap64 _ ≤ b
 rw [e, w64 (by omega)]
 exact ⟨c0, c1⟩
theorem frac_num {a b : Int} (hb : 0 < b ∧ b ≤ 4611686018427387904) (ha : -4611686018427387904 ≤ a ∧ a ≤ 4611686018427387904) : (frac a b).1.natAbs ≤ a.natAbs ∧ (0 ≤ a → 0 ≤ (frac a b).1) := by
 obtain ⟨h1, h2, h3⟩ := gq_pos' (a := a) hb
 have h : (Int.tdiv a (gq a b)).natAbs ≤ a.natAbs := by
  rw [Int.natAbs_tdiv]
  exact Nat.div_le_self _ _
 show (wrap64 _).natAbs ≤ _ ∧ (_ → 0 ≤ wrap64 _)
 rw [w64 (by omega)]
 exact ⟨h, fun h0 => Int.tdiv_nonneg h0 (by omega)⟩
theorem frac_one {a : Int} (ha : -4611686018427387904 ≤ a ∧ a ≤ 4611686018427387904) : frac a 1 = (a, 1) := by
 have h : gq a 1 = 1 := by unfold gq; rw [Int.gcd_one_right]; rfl
 unfold frac
 rw [h, Int.tdiv_one, Int.tdiv_one, w64 (by omega), w64 (by omega)]
theorem fraction_ev' {a b : Int} (ha : -9223372036854775808 ≤ a ∧ a ≤ 9223372036854775807) (hb : 0 < b ∧ b ≤ 4611686018427387904) : Ev (fun k => line_fraction.f k a b) (frac a b) :=
 fraction_ev ha (by omega) (Int.ne_of_gt (gq_pos' hb).1)
theorem Lowest_ev' {a b : Int} (ha : -9223372036854775808 ≤ a ∧ a ≤ 9223372036854775807) (hb : 0 < b ∧ b ≤ 4611686018427387904) : Ev (fun k => Bs_Lowest.f k a b) (frac a b) :=
 Lowest_ev ha (by omega) (Int.ne_of_gt (gq_pos' hb).1)
theorem fraction_one {a : Int} (ha : -4611686018427387904 ≤ a ∧ a ≤ 4611686018427387904) : Ev (fun k => line_fraction.f k a 1) (a, 1) := by
 rw [← frac_one ha]; exact fraction_ev' (by omega) (by omega)

/-- The sum of n powers from line i on, and their sum with the lines' numbers. -/
def sn (l : List Int) : Nat → Nat → Int
 | 0, _ => 0
 | n + 1, i => rd l (i : Int) + sn l n (i + 1)
def wn (l : List Int) : Nat → Nat → Int
 | 0, _ => 0
 | n + 1, i => (i : Int) * rd l (i : Int) + wn l n (i + 1)
theorem sn_in {l : List Int} (h : Good l) : ∀ (n i : Nat), i + n ≤ l.length → 0 ≤ sn l n i ∧ sn l n i ≤ 10000 * n
 | 0, i, _ => by simp [sn]
 | n + 1, i, hi => by
  have := sn_in h n (i + 1) (by omega)
  have := h.rd (i := i) (by omega)
  rw [sn]; omega
theorem wn_in {l : List Int} (h : Good l) : ∀ (n i : Nat), i + n ≤ l.length → 0 ≤ wn l n i ∧ wn l n i ≤ 160000 * n
 | 0, i, _ => by simp [wn]
 | n + 1, i, hi => by
  have := wn_in h n (i + 1) (by omega)
  have hr := h.rd (i := i) (by omega)
  have hl := h.1.2
  have h1 : 0 ≤ (i : Int) * rd l (i : Int) := Int.mul_nonneg (by omega) hr.1
  have h2 : (i : Int) * rd l (i : Int) ≤ 16 * 10000 := Int.mul_le_mul (by omega) hr.2 hr.1 (by omega)
  rw [wn]; omega
theorem sn_ge {l : List Int} (h : Good l) : ∀ (n i q : Nat), i + n ≤ l.length → i ≤ q → q < i + n → rd l (q : Int) ≤ sn l n i
 | 0, i, q, _, _, _ => by omega
 | n + 1, i, q, hi, hq, hq2 => by
  have a := sn_in h n (i + 1) (by omega)
  have b := h.rd (i := i) (by omega)
  rw [sn]
  by_cases e : q = i
  ·subst e; omega
  ·have := sn_ge h n (i + 1) q (by omega) (by omega) (by omega)
   omega
theorem sn_zero {l : List Int} (hz : ∀ q : Nat, q < l.length → rd l (q : Int) = 0) : ∀ (n i : Nat), i + n ≤ l.length → sn l n i = 0
 | 0, i, _ => rfl
 | n + 1, i, hi => by rw [sn, hz i (by omega), sn_zero hz n (i + 1) (by omega)]; rfl
theorem sn_snoc (l : List Int) : ∀ (n i : Nat), sn l (n + 1) i = sn l n i + rd l ((i + n : Nat) : Int)
 | 0, i => by simp [sn]
 | n + 1, i => by
  rw [sn, sn_snoc l n (i + 1), sn, show i + 1 + n = i + (n + 1) by omega]; omega
theorem max_zero {l : List Int} (h : Good l) : lmax l = 0 ↔ sn l l.length 0 = 0 := by
 have h0 := h.1.1
 obtain ⟨p, hp, hr⟩ := mem_rd (lmax_mem l (by omega))
 constructor
 ·intro e
  refine sn_zero (fun q hq => ?_) _ _ (by omega)
  have a := h.rd hq
  have b := (lmax_le l (by omega) _).1 (Int.le_refl _) _ (rd_mem hq)
  omega
 ·intro e
  have a := sn_ge h l.length 0 p (by omega) (by omega) (by omega)
  have b := h.rd hp
  omega

theorem sum_l0 (l : List Int) (hl : l.length < 1000) (hg : ∀ x ∈ l, 0 ≤ x ∧ x ≤ 10000) : ∀ (n i : Nat) (a : Int), i + n = l.length → 0 ≤ a → a ≤ 10000 * i →
  Ev (fun k => line_sum.l0 k a l (l.length : Int) (i : Int)) (a + sn l n i)
 | 0, i, a, h, _, _ => by
  refine Ev.succ (f := fun k => line_sum.l0 k a l (l.length : Int) (i : Int)) ?_
  simp only [line_sum.l0, show ¬ (i : Int) < (l.length : Int) by omega, if_false, sn, Int.add_zero]
  exact Ev.some
 | n + 1, i, a, h, h0, h1 => by
  refine Ev.succ (f := fun k => line_sum.l0 k a l (l.length : Int) (i : Int)) ?_
  have hr := hg _ (rd_mem (l := l) (i := i) (by omega))
  simp only [line_sum.l0, show (i : Int) < (l.length : Int) by omega, show (0 : Int) ≤ (i : Int) by omega, if_true, up (show i < 4611686018427387904 by omega), w64 (n := a + rd l (i : Int)) (by omega)]
  have := sum_l0 l hl hg n (i + 1) (a + rd l (i : Int)) (by omega) (by omega) (by omega)
  rw [sn, ← Int.add_assoc]
  exact this
theorem sum_ev (l : List Int) (hl : l.length < 1000) (hg : ∀ x ∈ l, 0 ≤ x ∧ x ≤ 10000) : Ev (fun k => line_sum.f k l) (sn l l.length 0) := by
 have := sum_l0 l hl hg l.length 0 0 (by omega) (by omega) (by omega)
 simpa [line_sum.f] using this
theorem Sum_l0 (l : List Int) (hl : l.length < 1000) (hg : ∀ x ∈ l, 0 ≤ x ∧ x ≤ 10000) : ∀ (n i : Nat) (a : Int), i + n = l.length → 0 ≤ a → a ≤ 10000 * i →
  Ev (fun k => Rf_Sum.l0 k l a (i : Int)) (a + sn l n i)
 | 0, i, a, h, _, _ => by
  refine Ev.succ (f := fun k => Rf_Sum.l0 k l a (i : Int)) ?_
  simp only [Rf_Sum.l0, show ¬ (i : Int) < (l.length : Int) by omega, if_false, sn, Int.add_zero]
  exact Ev.some
 | n + 1, i, a, h, h0, h1 => by
  refine Ev.succ (f := fun k => Rf_Sum.l0 k l a (i : Int)) ?_
  have hr := hg _ (rd_mem (l := l) (i := i) (by omega))
  simp only [Rf_Sum.l0, show (i : Int) < (l.length : Int) by omega, show (0 : Int) ≤ (i : Int) by omega, if_true, up (show i < 4611686018427387904 by omega), w64 (n := a + rd l (i : Int)) (by omega)]
  have := Sum_l0 l hl hg n (i + 1) (a + rd l (i : Int)) (by omega) (by omega) (by omega)
  rw [sn, ← Int.add_assoc]
  exact this
theorem Sum_ev (l : List Int) (hl : l.length < 1000) (hg : ∀ x ∈ l, 0 ≤ x ∧ x ≤ 10000) : Ev (fun k => Rf_Sum.f k l) (sn l l.length 0) := by
 have := Sum_l0 l hl hg l.length 0 0 (by omega) (by omega) (by omega)
 simpa [Rf_Sum.f] using this
theorem rd_slice {l : List Int} {t f i : Nat} (h : f + i < t) (ht : t ≤ l.length) : rd ((l.take t).drop f) (i : Int) = rd l ((f + i : Nat) : Int) := by
 rw [rd_nat, rd_nat, List.getD_eq_getElem?_getD, List.getD_eq_getElem?_getD, List.getElem?_drop, List.getElem?_take, if_pos h]
theorem sn_slice {l : List Int} {t f : Nat} (ht : t ≤ l.length) : ∀ (n i : Nat), f + i + n ≤ t → sn ((l.take t).drop f) n i = sn l n (f + i)
 | 0, _, _ => rfl
 | n + 1, i, h => by rw [sn, sn, rd_slice (by omega) ht, sn_slice ht n (i + 1) (by omega), Nat.add_assoc]
theorem slice_good {l : List Int} {t f : Nat} (hg : ∀ x ∈ l, 0 ≤ x ∧ x ≤ 10000) : ∀ x ∈ (l.take t).drop f, 0 ≤ x ∧ x ≤ 10000 :=
 fun x hx => hg x (List.mem_of_mem_take (List.mem_of_mem_drop hx))

theorem peaksFrom_first (l : List Int) : ∀ (n i : Nat) (p : Int) (r : List Int), peaksFrom l n i = p :: r → ∀ q : Nat, i ≤ q → (q : Int) < p → ¬ pk l q = true
 | 0, i, p, r, h, _, _, _ => by simp [peaksFrom] at h
 | n + 1, i, p, r, h, q, hq, hp => by
  rw [peaksFrom] at h
  by_cases e : pk l i = true
  ·rw [if_pos e] at h
   have := (List.cons.inj h).1
   omega
  ·rw [if_neg e] at h
   by_cases e2 : q = i
   ·subst e2; exact e
   ·exact peaksFrom_first l n (i + 1) p r h q (by omega) hp
/-- The first line with the maximum power. -/
def fp (l : List Int) : Nat := ((peaks l).headD 0).toNat
theorem fp_is (l : List Int) (h0 : 0 < l.length) : fp l < l.length ∧ rd l (fp l : Int) = lmax l ∧ (∀ q : Nat, q < fp l → rd l (q : Int) ≠ lmax l) ∧ ∃ r, peaks l = (fp l : Int) :: r := by
 obtain ⟨p, r, e, hp, hr⟩ := peaks_cons l h0
 have hf : fp l = p := by unfold fp; rw [e]; simp
 rw [hf]
 refine ⟨hp, hr, fun q hq hrq => ?_, r, e⟩
 refine peaksFrom_first l l.length 0 p r e q (by omega) (by omega) ?_
 unfold pk
 rw [hrq]
 simpa using (lmax_le l h0 _).1 (Int.le_refl _)
theorem idx132_l0 (l : List Int) (x : Int) (hl : l.length < 1000000) (p : Nat) (hp : p < l.length) (hr : rd l (p : Int) = x) (hf : ∀ q : Nat, q < p → rd l (q : Int) ≠ x) : ∀ (n i : Nat), i + n = p → Ev (fun k => Sp_int_132.l0 k l x (l.length : Int) (i : Int)) (p : Int)
 | 0, i, h => by
  refine Ev.succ (f := fun k => Sp_int_132.l0 k l x (l.length : Int) (i : Int)) ?_
  obtain rfl : i = p := by omega
  simp only [Sp_int_132.l0, show (i : Int) < (l.length : Int) by omega, show (0 : Int) ≤ (i : Int) by omega, if_true, hr]
  exact Ev.some
 | n + 1, i, h => by
  refine Ev.succ (f := fun k => Sp_int_132.l0 k l x (l.length : Int) (i : Int)) ?_
  simp only [Sp_int_132.l0, show (i : Int) < (l.length : Int) by omega, show (0 : Int) ≤ (i : Int) by omega, if_true, show ¬ x = rd l (i : Int) from fun e => hf i (by omega) e.symm, if_false, up (show i < 4611686018427387904 by omega)]
  exact idx132_l0 l x hl p hp hr hf n (i + 1) (by omega)
theorem peak_ev (l : List Int) (h0 : 0 < l.length) (hl : l.length < 1000000) : Ev (fun k => Sp_peak.f k l) (fp l : Int) := by
 obtain ⟨h1, h2, h3, _⟩ := fp_is l h0
 unfold Sp_peak.f
 refine Ev.bind (max106_ev l h0 (by omega)) ?_
 refine Ev.bind (f := fun k => Sp_int_132.f k l (lmax l)) (idx132_l0 l _ hl (fp l) h1 h2 h3 (fp l) 0 (by omega)) Ev.some
theorem Peak_fp (l : List Int) (h0 : 0 < l.length) (hl : l.length < 1000000) : Ev (fun k => Rf_Peak.f k l) (fp l : Int) := by
 obtain ⟨h1, h2, h3, r, e⟩ := fp_is l h0
 unfold Rf_Peak.f
 refine Ev.bind (Peaks_ev l (by omega)) ?_
 rw [e]
 simp only [List.length_cons, show (0 : Int) < ((r.length + 1 : Nat) : Int) by omega, if_true]
 exact Ev.some

theorem centroid_l0 {l : List Int} (hg : Good l) (f t : Nat) (hft : f ≤ t) (ht : t ≤ l.length) (hs : 0 < sn l (t - f) f) : ∀ (n i : Nat) (a : Int), i + n = t → 0 ≤ a → a ≤ 160000 * i →
  Ev (fun k => Sp_centroid.l0 k l (f : Int) (t : Int) a (i : Int)) (frac (a + wn l n i) (sn l (t - f) f))
 | 0, i, a, h, a0, a1 => by
  refine Ev.succ (f := fun k => Sp_centroid.l0 k l (f : Int) (t : Int) a (i : Int)) ?_
  have hl := hg.1.2
  have hb := sn_in hg (t - f) f (by omega)
  have hS := sum_ev ((l.take t).drop f) (by simp; omega) (slice_good hg.2)
  rw [show ((l.take t).drop f).length = t - f by simp; omega, sn_slice ht (t - f) 0 (by omega), Nat.add_zero] at hS
  simp only [Sp_centroid.l0, show ¬ (i : Int) < (t : Int) by omega, if_false, show (0 : Int) ≤ (f : Int) by omega, show (f : Int) ≤ (t : Int) by omega, show (t : Int) ≤ (l.length : Int) by omega, if_true, Int.toNat_natCast, wn, Int.add_zero]
  refine Ev.bind hS ?_
  exact Ev.bind (fraction_ev' (by omega) (by omega)) Ev.some
 | n + 1, i, a, h, a0, a1 => by
  refine Ev.succ (f := fun k => Sp_centroid.l0 k l (f : Int) (t : Int) a (i : Int)) ?_
  have hl := hg.1.2
  have hr := hg.rd (i := i) (by omega)
  have h1 : 0 ≤ (i : Int) * rd l (i : Int) := Int.mul_nonneg (by omega) hr.1
  have h2 : (i : Int) * rd l (i : Int) ≤ 16 * 10000 := Int.mul_le_mul (by omega) hr.2 hr.1 (by omega)
  simp only [Sp_centroid.l0, show (i : Int) < (t : Int) by omega, show (0 : Int) ≤ (i : Int) by omega, show (i : Int) < (l.length : Int) by omega, if_true, up (show i < 4611686018427387904 by omega), w64 (n := (i : Int) * rd l (i : Int)) (by omega), w64 (n := a + (i : Int) * rd l (i : Int)) (by omega)]
  have := centroid_l0 hg f t hft ht hs n (i + 1) (a + (i : Int) * rd l (i : Int)) (by omega) (by omega) (by omega)
  rw [wn, ← Int.add_assoc]
  exact this
theorem centroid_ev {l : List Int} (hg : Good l) (f t : Nat) (hft : f ≤ t) (ht : t ≤ l.length) (hs : 0 < sn l (t - f) f) :
  Ev (fun k => Sp_centroid.f k l (f : Int) (t : Int)) (frac (wn l (t - f) f) (sn l (t - f) f)) := by
 have := centroid_l0 hg f t hft ht hs (t - f) f 0 (by omega) (by omega) (by omega)
 simpa [Sp_centroid.f] using this
/-- The reference's: lines i to 'to', as far as there are any. -/
theorem Centroid_l0 {l : List Int} (hg : Good l) (t : Nat) (ht : t ≤ l.length) (tt : Int) (hto : ((t : Int) = tt + 1 ∨ (t = l.length ∧ (t : Int) ≤ tt + 1))) : ∀ (n i : Nat) (a b : Int), i + n = t → 0 ≤ a → a ≤ 160000 * i → 0 ≤ b → b ≤ 10000 * i →
  Ev (fun k => Rf_Centroid.l0 k l tt a b (i : Int)) (if b + sn l n i = 0 then (0, 0, false) else ((frac (a + wn l n i) (b + sn l n i)).1, (frac (a + wn l n i) (b + sn l n i)).2, true))
 | 0, i, a, b, h, a0, a1, b0, b1 => by
  refine Ev.succ (f := fun k => Rf_Centroid.l0 k l tt a b (i : Int)) ?_
  have hl := hg.1.2
  simp only [sn, wn, Int.add_zero]
  by_cases q : (i : Int) < (l.length : Int)
  ·have q2 : ¬ (i : Int) ≤ tt := by omega
   simp only [Rf_Centroid.l0, q, q2, if_true, if_false]
   by_cases z : b = 0
   ·simp only [z, if_true]; exact Ev.some
   ·simp only [z, if_false]
    exact Ev.bind (Lowest_ev' (by omega) (by omega)) Ev.some
  ·simp only [Rf_Centroid.l0, q, if_false]
   by_cases z : b = 0
   ·simp only [z, if_true]; exact Ev.some
   ·simp only [z, if_false]
    exact Ev.bind (Lowest_ev' (by omega) (by omega)) Ev.some
 | n + 1, i, a, b, h, a0, a1, b0, b1 => by
  refine Ev.succ (f := fun k => Rf_Centroid.l0 k l tt a b (i : Int)) ?_
  have hl := hg.1.2
  have hr := hg.rd (i := i) (by omega)
  have h1 : 0 ≤ (i : Int) * rd l (i : Int) := Int.mul_nonneg (by omega) hr.1
  have h2 : (i : Int) * rd l (i : Int) ≤ 16 * 10000 := Int.mul_le_mul (by omega) hr.2 hr.1 (by omega)
  simp only [Rf_Centroid.l0, show (i : Int) < (l.length : Int) by omega, show (i : Int) ≤ tt by omega, show (0 : Int) ≤ (i : Int) by omega, if_true, up (show i < 4611686018427387904 by omega), w64 (n := (i : Int) * rd l (i : Int)) (by omega), w64 (n := a + (i : Int) * rd l (i : Int)) (by omega), w64 (n := b + rd l (i : Int)) (by omega)]
  have := Centroid_l0 hg t ht tt hto n (i + 1) (a + (i : Int) * rd l (i : Int)) (b + rd l (i : Int)) (by omega) (by omega) (by omega) (by omega) (by omega)
  rw [wn, sn, ← Int.add_assoc, ← Int.add_assoc]
  exact this

def par (l : List Int) : Int × Int :=
 if fp l = 0 ∨ fp l + 1 = l.length then ((fp l : Int), 1) else
  if 2 * rd l (fp l : Int) - rd l ((fp l - 1 : Nat) : Int) - rd l ((fp l + 1 : Nat) : Int) ≤ 0 then ((fp l : Int), 1) else
   frac (2 * (2 * rd l (fp l : Int) - rd l ((fp l - 1 : Nat) : Int) - rd l ((fp l + 1 : Nat) : Int)) * (fp l : Int) + rd l ((fp l + 1 : Nat) : Int) - rd l ((fp l - 1 : Nat) : Int)) (2 * (2 * rd l (fp l : Int) - rd l ((fp l - 1 : Nat) : Int) - rd l ((fp l + 1 : Nat) : Int)))
theorem par_num {l : List Int} (hg : Good l) {p : Nat} (h0 : 1 ≤ p) (h1 : p + 1 < l.length) {d : Int} (hd : d = 2 * rd l (p : Int) - rd l ((p - 1 : Nat) : Int) - rd l ((p + 1 : Nat) : Int)) (hp : 0 < d) :
  d ≤ 20000 ∧ 0 ≤ 2 * d * (p : Int) ∧ 2 * d * (p : Int) ≤ 640000 := by
 have hl := hg.1.2
 have a := hg.rd (i := p) (by omega)
 have b := hg.rd (i := p - 1) (by omega)
 have c := hg.rd (i := p + 1) (by omega)
 have d1 : d ≤ 20000 := by omega
 exact ⟨d1, Int.mul_nonneg (by omega) (by omega), Int.le_trans (Int.mul_le_mul (show 2 * d ≤ 40000 by omega) (show (p : Int) ≤ 16 by omega) (by omega) (by omega)) (by omega)⟩
theorem parabola_ev {l : List Int} (hg : Good l) : Ev (fun k => Sp_parabola.f k l) (par l) := by
 have hl := hg.1
 obtain ⟨f1, f2, f3, _⟩ := fp_is l (by omega)
 unfold Sp_parabola.f
 refine Ev.bind (peak_ev l (by omega) (by omega)) ?_
 have hj : ∀ b : Bool, (b = true ↔ (fp l = 0 ∨ fp l + 1 = l.length)) → Ev (fun k => Sp_parabola.j0 k l (fp l : Int) b) (par l) := fun b hb => by
  refine Ev.succ (f := fun k => Sp_parabola.j0 k l (fp l : Int) b) ?_
  unfold par
  by_cases e : b = true
  ·rw [if_pos (hb.1 e)]
   simp only [Sp_parabola.j0, e, if_true]
   exact Ev.bind (fraction_one (by omega)) Ev.some
  ·have ne : ¬ (fp l = 0 ∨ fp l + 1 = l.length) := fun h => e (hb.2 h)
   rw [if_neg ne]
   have r0 := hg.rd (i := fp l) (by omega)
   have r1 := hg.rd (i := fp l - 1) (by omega)
   have r2 := hg.rd (i := fp l + 1) (by omega)
   have w1 : wrap64 ((fp l : Int) - 1) = ((fp l - 1 : Nat) : Int) := by unfold wrap64; omega
   have w2 : wrap64 ((fp l : Int) + 1) = ((fp l + 1 : Nat) : Int) := up (by omega)
   obtain ⟨d, hd⟩ : ∃ d, d = 2 * rd l (fp l : Int) - rd l ((fp l - 1 : Nat) : Int) - rd l ((fp l + 1 : Nat) : Int) := ⟨_, rfl⟩
   simp only [Sp_parabola.j0, e, w1, w2, if_false, show (0 : Int) ≤ (fp l : Int) by omega, show (fp l : Int) < (l.length : Int) by omega, show (0 : Int) ≤ ((fp l - 1 : Nat) : Int) by omega, show ((fp l - 1 : Nat) : Int) < (l.length : Int) by omega, show (0 : Int) ≤ ((fp l + 1 : Nat) : Int) by omega, show ((fp l + 1 : Nat) : Int) < (l.length : Int) by omega, if_true,
    w64 (n := 2 * rd l (fp l : Int)) (by omega), w64 (n := 2 * rd l (fp l : Int) - rd l ((fp l - 1 : Nat) : Int)) (by omega), w64 (n := 2 * rd l (fp l : Int) - rd l ((fp l - 1 : Nat) : Int) - rd l ((fp l + 1 : Nat) : Int)) (by omega), ← hd, w64 (n := d) (by omega), w64 (n := 2 * d) (by omega), Bool.false_eq_true]
   by_cases q : d ≤ 0
   ·simp only [q, if_true]
    exact Ev.bind (fraction_one (by omega)) Ev.some
   ·obtain ⟨p1, p2, p3⟩ := par_num hg (by omega) (by omega) hd (by omega)
    simp only [q, if_false, w64 (n := 2 * d * (fp l : Int)) (by omega), w64 (n := 2 * d * (fp l : Int) + rd l ((fp l + 1 : Nat) : Int)) (by omega), w64 (n := 2 * d * (fp l : Int) + rd l ((fp l + 1 : Nat) : Int) - rd l ((fp l - 1 : Nat) : Int)) (by omega)]
    exact Ev.bind (fraction_ev' (by omega) (by omega)) Ev.some
 by_cases z : fp l = 0
 ·have z' : ((fp l : Nat) : Int) = 0 := by omega
  have := hj true (by simp [z])
  simp only [z'] at this ⊢
  simpa using this
 ·have z' : ¬ ((fp l : Nat) : Int) = 0 := by omega
  simp only [z', if_false]
  refine hj _ ?_
  rw [w64 (by omega), beq_iff_eq]
  omega
theorem Estimate_par {l : List Int} (hg : Good l) : Ev (fun k => if ((fp l : Nat) : Int) = 0 then Rf_Estimate.j0 k l (fp l : Int) true else Rf_Estimate.j0 k l (fp l : Int) ((fp l : Int) == wrap64 ((l.length : Int) - 1))) (par l) := by
 have hl := hg.1
 obtain ⟨f1, f2, f3, _⟩ := fp_is l (by omega)
 have hj : ∀ b : Bool, (b = true ↔ (fp l = 0 ∨ fp l + 1 = l.length)) → Ev (fun k => Rf_Estimate.j0 k l (fp l : Int) b) (par l) := fun b hb => by
  refine Ev.succ (f := fun k => Rf_Estimate.j0 k l (fp l : Int) b) ?_
  unfold par
  by_cases e : b = true
  ·rw [if_pos (hb.1 e)]
   simp only [Rf_Estimate.j0, e, if_true, Bs_Whole.f, Option.bind_some]
   exact Ev.some
  ·have ne : ¬ (fp l = 0 ∨ fp l + 1 = l.length) := fun h => e (hb.2 h)
   rw [if_neg ne]
   have r0 := hg.rd (i := fp l) (by omega)
   have r1 := hg.rd (i := fp l - 1) (by omega)
   have r2 := hg.rd (i := fp l + 1) (by omega)
   have w1 : wrap64 ((fp l : Int) - 1) = ((fp l - 1 : Nat) : Int) := by unfold wrap64; omega
   have w2 : wrap64 ((fp l : Int) + 1) = ((fp l + 1 : Nat) : Int) := up (by omega)
   obtain ⟨d, hd⟩ : ∃ d, d = 2 * rd l (fp l : Int) - rd l ((fp l - 1 : Nat) : Int) - rd l ((fp l + 1 : Nat) : Int) := ⟨_, rfl⟩
   simp only [Rf_Estimate.j0, e, w1, w2, if_false, show (0 : Int) ≤ (fp l : Int) by omega, show (fp l : Int) < (l.length : Int) by omega, show (0 : Int) ≤ ((fp l - 1 : Nat) : Int) by omega, show ((fp l - 1 : Nat) : Int) < (l.length : Int) by omega, show (0 : Int) ≤ ((fp l + 1 : Nat) : Int) by omega, show ((fp l + 1 : Nat) : Int) < (l.length : Int) by omega, if_true,
    w64 (n := 2 * rd l (fp l : Int)) (by omega), w64 (n := 2 * rd l (fp l : Int) - rd l ((fp l - 1 : Nat) : Int)) (by omega), w64 (n := 2 * rd l (fp l : Int) - rd l ((fp l - 1 : Nat) : Int) - rd l ((fp l + 1 : Nat) : Int)) (by omega), ← hd, w64 (n := d) (by omega), w64 (n := 2 * d) (by omega), Bool.false_eq_true, Bs_Whole.f, Option.bind_some]
   by_cases q : d ≤ 0
   ·simp only [q, if_true]
    exact Ev.some
   ·obtain ⟨p1, p2, p3⟩ := par_num hg (by omega) (by omega) hd (by omega)
    simp only [q, if_false, w64 (n := 2 * d * (fp l : Int)) (by omega), w64 (n := 2 * d * (fp l : Int) + rd l ((fp l + 1 : Nat) : Int)) (by omega), w64 (n := 2 * d * (fp l : Int) + rd l ((fp l + 1 : Nat) : Int) - rd l ((fp l - 1 : Nat) : Int)) (by omega)]
    exact Ev.bind (Lowest_ev' (by omega) (by omega)) Ev.some
 by_cases z : fp l = 0
 ·have z' : ((fp l : Nat) : Int) = 0 := by omega
  have := hj true (by simp [z])
  simp only [z'] at this ⊢
  simpa using this
 ·have z' : ¬ ((fp l : Nat) : Int) = 0 := by omega
  simp only [z', if_false]
  refine hj _ ?_
  rw [w64 (by omega), beq_iff_eq]
  omega
theorem par_in {l : List Int} (hg : Good l) : (0 < (par l).2 ∧ (par l).2 ≤ 160000) ∧ (par l).1.natAbs ≤ 2560000 := by
 have hl := hg.1
 obtain ⟨f1, f2, f3, _⟩ := fp_is l (by omega)
 unfold par
 by_cases e : fp l = 0 ∨ fp l + 1 = l.length
 ·rw [if_pos e]; exact ⟨by simp, by simp only []; omega⟩
 ·rw [if_neg e]
  obtain ⟨d, hd⟩ : ∃ d, d = 2 * rd l (fp l : Int) - rd l ((fp l - 1 : Nat) : Int) - rd l ((fp l + 1 : Nat) : Int) := ⟨_, rfl⟩
  rw [← hd]
  by_cases q : d ≤ 0
  ·rw [if_pos q]; exact ⟨by simp, by simp only []; omega⟩
  ·rw [if_neg q]
   have r1 := hg.rd (i := fp l - 1) (by omega)
   have r2 := hg.rd (i := fp l + 1) (by omega)
   obtain ⟨p1, p2, p3⟩ := par_num hg (by omega) (by omega) hd (by omega)
   have a := frac_den (a := 2 * d * (fp l : Int) + rd l ((fp l + 1 : Nat) : Int) - rd l ((fp l - 1 : Nat) : Int)) (b := 2 * d) (by omega)
   have b := frac_num (a := 2 * d * (fp l : Int) + rd l ((fp l + 1 : Nat) : Int) - rd l ((fp l - 1 : Nat) : Int)) (b := 2 * d) (by omega) (by omega)
   omega

def mdF (l : List Int) : Nat → Nat → Nat
 | 0, i => i
 | n + 1, i => if sn l l.length 0 ≤ 2 * sn l (i + 1) 0 then i else mdF l n (i + 1)
def md (l : List Int) : Nat := mdF l l.length 0
theorem mdF_lt (l : List Int) (hg : Good l) : ∀ (n i : Nat), 0 < n → i + n = l.length → mdF l n i < l.length
 | n + 1, i, _, h => by
  rw [mdF]
  by_cases e : sn l l.length 0 ≤ 2 * sn l (i + 1) 0
  ·rw [if_pos e]; omega
  ·rw [if_neg e]
   have : n ≠ 0 := fun h0 => by
    subst h0
    have hs := sn_in hg l.length 0 (by omega)
    exact e (by rw [show i + 1 = l.length by omega]; omega)
   exact mdF_lt l hg n (i + 1) (by omega) (by omega)
theorem median_l0 {l : List Int} (hg : Good l) : ∀ (n i : Nat), 0 < n → i + n = l.length →
  Ev (fun k => Sp_median.l0 k (sn l l.length 0) (sn l i 0) l (l.length : Int) (i : Int)) ((mdF l n i : Int), 1)
 | n + 1, i, _, h => by
  have hl := hg.1
  refine Ev.succ (f := fun k => Sp_median.l0 k (sn l l.length 0) (sn l i 0) l (l.length : Int) (i : Int)) ?_
  have hs := sn_in hg (i + 1) 0 (by omega)
  have e1 : sn l i 0 + rd l (i : Int) = sn l (i + 1) 0 := by rw [sn_snoc, Nat.zero_add]
  simp only [Sp_median.l0, show (i : Int) < (l.length : Int) by omega, show (0 : Int) ≤ (i : Int) by omega, if_true, e1, w64 (n := sn l (i + 1) 0) (by omega), w64 (n := 2 * sn l (i + 1) 0) (by omega), up (show i < 4611686018427387904 by omega)]
  rw [mdF]
  by_cases e : sn l l.length 0 ≤ 2 * sn l (i + 1) 0
  ·simp only [show 2 * sn l (i + 1) 0 ≥ sn l l.length 0 from e, e, if_true]
   exact Ev.bind (fraction_one (by omega)) Ev.some
  ·have : n ≠ 0 := fun h0 => by
    subst h0
    have hs := sn_in hg l.length 0 (by omega)
    exact e (by rw [show i + 1 = l.length by omega]; omega)
   simp only [show ¬ 2 * sn l (i + 1) 0 ≥ sn l l.length 0 from e, e, if_false]
   exact median_l0 hg n (i + 1) (by omega) (by omega)
theorem median_ev {l : List Int} (hg : Good l) : Ev (fun k => Sp_median.f k l) ((md l : Int), 1) := by
 have hl := hg.1
 unfold Sp_median.f
 refine Ev.bind (sum_ev l (by omega) hg.2) ?_
 exact median_l0 hg l.length 0 (by omega) (by omega)
theorem Estimate_l0 {l : List Int} (hg : Good l) (p : Int) : ∀ (n i : Nat), 0 < n → i + n = l.length →
  Ev (fun k => Rf_Estimate.l0 k l p (i : Int)) ((mdF l n i : Int), 1)
 | n + 1, i, _, h => by
  have hl := hg.1
  refine Ev.succ (f := fun k => Rf_Estimate.l0 k l p (i : Int)) ?_
  have hs := sn_in hg (i + 1) 0 (by omega)
  have hS := Sum_ev (l.take (i + 1)) (by simp; omega) (fun x hx => hg.2 x (List.mem_of_mem_take hx))
  have es := sn_slice (l := l) (t := i + 1) (f := 0) (by omega) (i + 1) 0 (by omega)
  rw [List.drop_zero] at es
  rw [show (l.take (i + 1)).length = i + 1 by simp; omega, es] at hS
  simp only [Rf_Estimate.l0, show (i : Int) < (l.length : Int) by omega, if_true, up (show i < 4611686018427387904 by omega), show (0 : Int) ≤ ((i + 1 : Nat) : Int) by omega, show ((i + 1 : Nat) : Int) ≤ (l.length : Int) by omega, Int.toNat_natCast]
  refine Ev.bind hS ?_
  refine Ev.bind (Sum_ev l (by omega) hg.2) ?_
  rw [mdF]
  simp only [Nat.zero_add, w64 (n := 2 * sn l (i + 1) 0) (by omega)]
  by_cases e : sn l l.length 0 ≤ 2 * sn l (i + 1) 0
  ·simp only [show 2 * sn l (i + 1) 0 ≥ sn l l.length 0 from e, e, if_true, Bs_Whole.f, Option.bind_some]
   exact Ev.some
  ·have : n ≠ 0 := fun h0 => by
    subst h0
    have hs := sn_in hg l.length 0 (by omega)
    exact e (by rw [show i + 1 = l.length by omega]; omega)
   simp only [show ¬ 2 * sn l (i + 1) 0 ≥ sn l l.length 0 from e, e, if_false]
   exact Estimate_l0 hg p n (i + 1) (by omega) (by omega)

def est (l : List Int) (kind : Int) : Int × Int :=
 if sn l l.length 0 = 0 then (0, 1) else if kind = 1 then frac (wn l l.length 0) (sn l l.length 0) else if kind = 2 then par l else if kind = 3 then ((md l : Int), 1) else ((fp l : Int), 1)
theorem estimate_ev {l : List Int} (hg : Good l) {kind : Int} (hk : 0 ≤ kind ∧ kind ≤ 3) : Ev (fun k => Sp_estimate.f k l kind) (est l kind) := by
 have hl := hg.1
 have hs := sn_in hg l.length 0 (by omega)
 obtain ⟨f1, _⟩ := fp_is l (by omega)
 unfold Sp_estimate.f est
 refine Ev.bind (max106_ev l (by omega) (by omega)) ?_
 by_cases z : sn l l.length 0 = 0
 ·simp only [(max_zero hg).2 z, z, if_true]
  exact fraction_one (by omega)
 ·have z' : ¬ lmax l = 0 := fun h => z ((max_zero hg).1 h)
  simp only [z, z', if_false]
  by_cases k0 : kind = 0
  ·subst k0
   simp only [if_true, show ¬ (0 : Int) = 1 by decide, show ¬ (0 : Int) = 2 by decide, show ¬ (0 : Int) = 3 by decide, if_false]
   unfold Sp_highest.f
   exact Ev.bind (peak_ev l (by omega) (by omega)) (Ev.bind (fraction_one (by omega)) Ev.some)
  ·by_cases k1 : kind = 1
   ·subst k1
    simp only [if_true, show ¬ (1 : Int) = 0 by decide, if_false]
    unfold Sp_whole.f
    exact Ev.bind (centroid_ev hg 0 l.length (by omega) (by omega) (by rw [Nat.sub_zero]; omega)) Ev.some
   ·by_cases k2 : kind = 2
    ·subst k2
     simp only [if_true, show ¬ (2 : Int) = 0 by decide, show ¬ (2 : Int) = 1 by decide, if_false]
     exact parabola_ev hg
    ·obtain rfl : kind = 3 := by omega
     simp only [if_true, show ¬ (3 : Int) = 0 by decide, show ¬ (3 : Int) = 1 by decide, show ¬ (3 : Int) = 2 by decide, if_false]
     exact median_ev hg
theorem Estimate_ev {l : List Int} (hg : Good l) {kind : Int} (hk : 0 ≤ kind ∧ kind ≤ 3) : Ev (fun k => Rf_Estimate.f k l kind) (est l kind) := by
 have hl := hg.1
 have hs := sn_in hg l.length 0 (by omega)
 obtain ⟨f1, _⟩ := fp_is l (by omega)
 unfold Rf_Estimate.f est
 refine Ev.bind (Sum_ev l (by omega) hg.2) ?_
 by_cases z : sn l l.length 0 = 0
 ·simp only [z, if_true, Bs_Whole.f, Option.bind_some]
  exact Ev.some
 ·simp only [z, if_false]
  refine Ev.bind (Peak_fp l (by omega) (by omega)) ?_
  by_cases k1 : kind = 1
  ·subst k1
   simp only [if_true]
   have hw := w64 (n := (l.length : Int) - 1) (by omega)
   have := Centroid_l0 hg l.length (by omega) ((l.length : Int) - 1) (by omega) l.length 0 0 0 (by omega) (by omega) (by omega) (by omega) (by omega)
   simp only [Int.zero_add, z, if_false] at this
   rw [hw]
   refine Ev.bind (a := ((frac (wn l l.length 0) (sn l l.length 0)).1, (frac (wn l l.length 0) (sn l l.length 0)).2, true)) ?_ Ev.some
   simpa [Rf_Centroid.f, mx] using this
  ·by_cases k2 : kind = 2
   ·subst k2
    simp only [if_true, show ¬ (2 : Int) = 1 by decide, if_false]
    exact Estimate_par hg
   ·by_cases k3 : kind = 3
    ·subst k3
     simp only [if_true, show ¬ (3 : Int) = 1 by decide, show ¬ (3 : Int) = 2 by decide, if_false]
     exact Estimate_l0 hg _ l.length 0 (by omega) (by omega)
    ·simp only [k1, k2, k3, if_false, Bs_Whole.f, Option.bind_some]
     exact Ev.some
theorem est_in {l : List Int} (hg : Good l) (kind : Int) : (0 < (est l kind).2 ∧ (est l kind).2 ≤ 160000) ∧ (est l kind).1.natAbs ≤ 2560000 := by
 have hl := hg.1
 have hs := sn_in hg l.length 0 (by omega)
 have hw := wn_in hg l.length 0 (by omega)
 obtain ⟨f1, _⟩ := fp_is l (by omega)
 have hm := mdF_lt l hg l.length 0 (by omega) (by omega)
 have hp := par_in hg
 unfold est
 by_cases z : sn l l.length 0 = 0
 ·rw [if_pos z]; exact ⟨by simp, by simp⟩
 ·rw [if_neg z]
  split
  ·have a := frac_den (a := wn l l.length 0) (b := sn l l.length 0) (by omega)
   have b := frac_num (a := wn l l.length 0) (b := sn l l.length 0) (by omega) (by omega)
   omega
  ·split
   ·exact hp
   ·split
    ·exact ⟨by simp, by simp only [md]; omega⟩
    ·exact ⟨by simp, by simp only []; omega⟩
theorem awake_ev : Ev (fun k => Lw_awake.f k) true :=
 Ev.of_mono (k := 40) (fun k => Lw_awake.mono k) (by kernel_rfl)
theorem CopyInts_eq (l : List Int) (h : l.length < 17592186044416) : Bs_CopyInts.f l = some l := by
 unfold Bs_CopyInts.f
 simp [h]
theorem CopyCase_eq (l v : List Int) (num den : Int) (h : l.length < 17592186044416) (h2 : v.length < 17592186044416) : Rf_CopyCase.f l v num den = some (l, v, num, den) := by
 unfold Rf_CopyCase.f Rf_CopyNoise.f
 simp [CopyInts_eq l h, CopyInts_eq v h2]
/-- A light case. -/
def lightB (l v : List Int) (num den : Int) : Bool :=
 decide ((l.length : Int) ≤ 20) && (decide ((v.length : Int) ≤ 20) && (decide (cErr l v num den ≠ 0) || decide (v.length ^ l.length ≤ 256)))
theorem cErr_zero {l v : List Int} {num den : Int} (h : cErr l v num den = 0) : (1 ≤ l.length ∧ l.length ≤ 16) ∧ (1 ≤ v.length ∧ v.length ≤ 4) ∧ v.length ^ l.length ≤ 4096 ∧ tErr num den = 0 ∧ (lErr l 16 10000).2 = 0 ∧ (lErr v 4 1000).2 = 0 := by
 unfold cErr at h
 by_cases h1 : (lErr l 16 10000).2 = 0
 ·by_cases h2 : (lErr v 4 1000).2 = 0
  ·by_cases h3 : l.all (fun x => decide (x ≤ 9000)) = true
   ·by_cases h4 : v.length ^ l.length ≤ 4096
    ·simp only [h1, h2, h3, h4, if_true] at h
     exact ⟨lErr_len h1, lErr_len h2, h4, h, h1, h2⟩
    ·simp [h1, h2, h3, h4] at h
   ·simp only [h1, h2, h3, if_true, if_false] at h; simp at h
  ·simp only [h1, h2, if_true, if_false] at h
 ·simp only [h1, if_false] at h
theorem light_ev (l v : List Int) {num den : Int} (hx : -9223372036854775808 ≤ num ∧ num ≤ 9223372036854775807) (hy : -9223372036854775808 ≤ den ∧ den ≤ 9223372036854775807) :
  Ev (fun k => Lw_light.f k l v num den) (lightB l v num den) := by
 unfold Lw_light.f lightB
 simp only [short_eq, Option.bind_some]
 by_cases h1 : (l.length : Int) ≤ 20
 ·by_cases h2 : (v.length : Int) ≤ 20
  ·simp only [h1, h2, decide_true, if_true, Bool.true_and]
   refine Ev.bind (CaseErr_ev l v hx hy) ?_
   by_cases h3 : cErr l v num den = 0
   ·obtain ⟨⟨l1, l2⟩, ⟨v1, v2⟩, h4, _⟩ := cErr_zero h3
    simp only [h3, if_true, ne_eq, not_true, decide_false, Bool.false_or]
    refine Ev.bind (Cases_ev v v1 v2 l.length (by omega)) ?_
    simp only [h4, if_true]
    by_cases q : v.length ^ l.length ≤ 256
    ·simp only [q, show ((v.length ^ l.length : Nat) : Int) ≤ 256 by omega]; exact Ev.some
    ·simp only [q, show ¬ ((v.length ^ l.length : Nat) : Int) ≤ 256 by omega]; exact Ev.some
   ·simp only [h3, if_false, ne_eq, not_false_iff, decide_true, Bool.true_or]; exact Ev.some
  ·simp only [h1, h2, decide_true, decide_false, if_true, if_false, Bool.true_and, Bool.false_and, Bool.false_eq_true]; exact Ev.some
 ·simp only [h1, decide_false, if_false, Bool.false_and, Bool.false_eq_true]; exact Ev.some
theorem lightB_len {l v : List Int} {num den : Int} (h : lightB l v num den = true) : l.length ≤ 20 ∧ v.length ≤ 20 := by
 unfold lightB at h
 simp only [Bool.and_eq_true, decide_eq_true_eq] at h
 omega
theorem i64_in {n : Int} (h : (Lit.int .i64 n).wf = true) : -9223372036854775808 ≤ n ∧ n ≤ 9223372036854775807 := by
 simp [Lit.wf, IntKind.min, IntKind.max, IntKind.signed, IntKind.bits] at h
 omega
theorem idxF_ok (m : Int) : ∀ l : List Int, ¬ idxF (bad m) l ≥ 0 → ∀ x ∈ l, 0 ≤ x ∧ x ≤ m
  | [], _, _, hx => by cases hx
  | a :: r, h, x, hx => by
    rw [idxF_cons] at h
    cases e : bad m a with
    | true => rw [e] at h; simp at h
    | false =>
      rw [e] at h
      simp only [Bool.false_eq_true, if_false] at h
      have h' : ¬ idxF (bad m) r ≥ 0 := fun q => by rw [if_pos q] at h; exact h (by omega)
      rcases List.mem_cons.1 hx with rfl | hx
      · have := within_bad m x
        rw [e] at this
        simpa using this
      · exact idxF_ok m r h' x hx
theorem lErr_ok {l : List Int} {n : Nat} {m : Int} (h : (lErr l n m).2 = 0) : ∀ x ∈ l, 0 ≤ x ∧ x ≤ m := by
 have hlen := lErr_len h
 unfold lErr at h
 rw [if_neg (by omega), if_neg (by omega)] at h
 by_cases q : idxF (bad m) l ≥ 0
 ·rw [if_pos q] at h; simp at h
 ·exact idxF_ok m l q
theorem cErr_ok {l v : List Int} {num den : Int} (h : cErr l v num den = 0) : (∀ x ∈ l, 0 ≤ x ∧ x ≤ 9000) ∧ (∀ x ∈ v, 0 ≤ x ∧ x ≤ 1000) := by
 obtain ⟨_, _, _, _, h1, h2⟩ := cErr_zero h
 have a := lErr_ok h1
 have b := lErr_ok h2
 unfold cErr at h
 by_cases h3 : l.all (fun x => decide (x ≤ 9000)) = true
 ·refine ⟨fun x hx => ⟨(a x hx).1, ?_⟩, b⟩
  simpa using List.all_eq_true.1 h3 x hx
 ·simp only [h1, h2, h3, if_true, if_false] at h; simp at h
theorem tErr_ok {num den : Int} (h : tErr num den = 0) : (-100 ≤ num ∧ num ≤ 100) ∧ 1 ≤ den ∧ den ≤ 100 := by
 unfold tErr at h
 by_cases h0 : den ≤ 0
 ·simp [h0] at h
 ·by_cases h1 : gq num den = 1
  ·by_cases h2 : (-100 ≤ num ∧ num ≤ 100) ∧ den ≤ 100
   ·omega
   ·simp only [h0, h1, h2, if_true, if_false] at h; simp at h
  ·simp only [h0, h1, if_false] at h; simp at h
theorem rd_in {v : List Int} {j : Int} (h0 : 0 ≤ j) (h1 : j < (v.length : Int)) : rd v j ∈ v := by
 obtain ⟨n, rfl⟩ : ∃ n : Nat, j = (n : Int) := ⟨j.toNat, by omega⟩
 exact rd_mem (by omega)
theorem nzF_in (v : List Int) (v1 : 1 ≤ v.length) (hv : ∀ x ∈ v, 0 ≤ x ∧ x ≤ 1000) : ∀ (l : List Int) (j : Int), (∀ x ∈ l, 0 ≤ x ∧ x ≤ 9000) → 0 ≤ j → ∀ x ∈ nzF v l j, 0 ≤ x ∧ x ≤ 10000
 | [], _, _, _, _, hx => by cases hx
 | a :: r, j, hl, hj, x, hx => by
  obtain ⟨d1, d2, d3, d4⟩ := digit_in (m := (v.length : Int)) hj (by omega)
  rw [nzF] at hx
  rcases List.mem_cons.1 hx with rfl | hx
  ·have h1 := hl a List.mem_cons_self
   have h2 := hv _ (rd_in d1 d2)
   rw [w64 (by omega)]; omega
  ·exact nzF_in v v1 hv r _ (fun y hy => hl y (List.mem_cons_of_mem _ hy)) d3 x hx
theorem case_good {l v : List Int} {num den : Int} (h : cErr l v num den = 0) (j : Nat) : Good (nzF v l (j : Int)) := by
 obtain ⟨⟨l1, l2⟩, ⟨v1, v2⟩, _, _⟩ := cErr_zero h
 obtain ⟨a, b⟩ := cErr_ok h
 exact ⟨by rw [nzF_length]; exact ⟨l1, l2⟩, nzF_in v v1 b l _ a (by omega)⟩

def kErr (kind : Int) : Int := if 0 ≤ kind ∧ kind ≤ 3 then 0 else 14
theorem kindErr_eq (a : Int) : line_kindErr.f a = some (kErr a) := by
 unfold line_kindErr.f kErr
 simp only [within_eq, unless_eq, Option.bind_some, decide_eq_true_eq]
theorem KindErr_eq (a : Int) : Rf_KindErr.f a = some (kErr a) := by
 unfold Rf_KindErr.f kErr
 simp only [Within_eq, Option.bind_some, decide_eq_true_eq]
 split <;> rfl
theorem kErr_ok {a : Int} (h : kErr a = 0) : 0 ≤ a ∧ a ≤ 3 := by
 unfold kErr at h
 by_cases q : 0 ≤ a ∧ a ≤ 3
 ·exact q
 ·rw [if_neg q] at h; simp at h

theorem Cmp_eq (a b c d : Int) : Bs_Cmp.f a b c d = some (if wrap64 (a * d) < wrap64 (c * b) then -1 else if wrap64 (a * d) > wrap64 (c * b) then 1 else 0) := by
 unfold Bs_Cmp.f
 split
 ·rfl
 ·split <;> rfl
theorem cmp_pos {x y : Int} : (if x < y then (-1 : Int) else if x > y then 1 else 0) > 0 ↔ y < x := by
 split
 ·omega
 ·split <;> omega
def off (l : List Int) (kind tn td : Int) : Int × Int :=
 frac (mx (wrap64 (wrap64 ((est l kind).1 * td) - wrap64 (tn * (est l kind).2))) (wrap64 (-(wrap64 (wrap64 ((est l kind).1 * td) - wrap64 (tn * (est l kind).2)))))) (wrap64 ((est l kind).2 * td))
theorem wrap_in (n : Int) : -9223372036854775808 ≤ wrap64 n ∧ wrap64 n ≤ 9223372036854775807 := by unfold wrap64; omega
theorem mx_in {a b : Int} (ha : -9223372036854775808 ≤ a ∧ a ≤ 9223372036854775807) (hb : -9223372036854775808 ≤ b ∧ b ≤ 9223372036854775807) : -9223372036854775808 ≤ mx a b ∧ mx a b ≤ 9223372036854775807 := by
 rw [mx_eq]; omega
theorem den_in {b td : Int} (hb : 0 < b ∧ b ≤ 160000) (ht : 1 ≤ td ∧ td ≤ 100) : 0 < wrap64 (b * td) ∧ wrap64 (b * td) ≤ 16000000 ∧ wrap64 (b * td) = b * td := by
 have h1 : 1 * 1 ≤ b * td := Int.mul_le_mul (by omega) (by omega) (by omega) (by omega)
 have h2 : b * td ≤ 160000 * 100 := Int.mul_le_mul (by omega) (by omega) (by omega) (by omega)
 rw [w64 (by omega)]; omega
theorem miss_ev {l : List Int} (hg : Good l) {kind tn td : Int} (hk : 0 ≤ kind ∧ kind ≤ 3) (ht : 1 ≤ td ∧ td ≤ 100) : Ev (fun k => line_miss.f k l kind tn td) (off l kind tn td) := by
 have he := (est_in hg kind).1
 have hd := den_in he ht
 unfold line_miss.f off
 refine Ev.bind (estimate_ev hg hk) ?_
 refine Ev.bind (fraction_ev' (mx_in (wrap_in _) (wrap_in _)) (by omega)) Ev.some
theorem Off_ev {l v : List Int} {num den tn td : Int} (h : cErr l v num den = 0) (j : Nat) (hj : j ≤ 1000000) {kind : Int} (hk : 0 ≤ kind ∧ kind ≤ 3) (ht : 1 ≤ td ∧ td ≤ 100) : Ev (fun k => Rf_Off.f k l v tn td kind (j : Int)) (off (nzF v l (j : Int)) kind tn td) := by
 obtain ⟨⟨l1, l2⟩, ⟨v1, v2⟩, _, _⟩ := cErr_zero h
 have hg := case_good h j
 have he := (est_in hg kind).1
 have hd := den_in he ht
 unfold Rf_Off.f off
 refine Ev.bind (Noisy_ev l v v1 (by omega) (j : Int) (by omega) (by omega)) ?_
 refine Ev.bind (Estimate_ev hg hk) ?_
 simp only [Size_eq, Option.bind_some]
 refine Ev.bind (Lowest_ev' (mx_in (wrap_in _) (wrap_in _)) (by omega)) Ev.some
theorem off_in {l : List Int} (hg : Good l) (kind : Int) {tn td : Int} (hn : -100 ≤ tn ∧ tn ≤ 100) (ht : 1 ≤ td ∧ td ≤ 100) : (0 ≤ (off l kind tn td).1 ∧ (off l kind tn td).1 ≤ 272000000) ∧ 0 < (off l kind tn td).2 ∧ (off l kind tn td).2 ≤ 16000000 := by
 obtain ⟨he, hm⟩ := est_in hg kind
 have hd := den_in he ht
 have a1 : (est l kind).1 * td ≤ 2560000 * 100 := Int.le_trans (Int.mul_le_mul_of_nonneg_right (show (est l kind).1 ≤ 2560000 by omega) (by omega)) (Int.mul_le_mul_of_nonneg_left ht.2 (by omega))
 have a2 : -(est l kind).1 * td ≤ 2560000 * 100 := Int.le_trans (Int.mul_le_mul_of_nonneg_right (show -(est l kind).1 ≤ 2560000 by omega) (by omega)) (Int.mul_le_mul_of_nonneg_left ht.2 (by omega))
 have b1 : tn * (est l kind).2 ≤ 100 * 160000 := Int.le_trans (Int.mul_le_mul_of_nonneg_right hn.2 (by omega)) (Int.mul_le_mul_of_nonneg_left he.2 (by omega))
 have b2 : -tn * (est l kind).2 ≤ 100 * 160000 := Int.le_trans (Int.mul_le_mul_of_nonneg_right (show -tn ≤ 100 by omega) (by omega)) (Int.mul_le_mul_of_nonneg_left he.2 (by omega))
 rw [Int.neg_mul] at a2 b2
 unfold off
 rw [w64 (n := (est l kind).1 * td) (by omega), w64 (n := tn * (est l kind).2) (by omega), w64 (n := (est l kind).1 * td - tn * (est l kind).2) (by omega), w64 (n := -((est l kind).1 * td - tn * (est l kind).2)) (by omega), mx_eq]
 obtain ⟨m, hm⟩ : ∃ m, m = max ((est l kind).1 * td - tn * (est l kind).2) (-((est l kind).1 * td - tn * (est l kind).2)) := ⟨_, rfl⟩
 rw [← hm]
 have hm0 : 0 ≤ m ∧ m ≤ 272000000 := by omega
 have x := frac_den (a := m) (b := wrap64 ((est l kind).2 * td)) (by omega)
 have y := frac_num (a := m) (b := wrap64 ((est l kind).2 * td)) (by omega) (by omega)
 omega

def wst (l v : List Int) (tn td kind : Int) : Nat → Int × Int × Int
 | 0 => (-1, 1, 0)
 | N + 1 => if wrap64 ((wst l v tn td kind N).1 * (off (nzF v l (N : Int)) kind tn td).2) < wrap64 ((off (nzF v l (N : Int)) kind tn td).1 * (wst l v tn td kind N).2.1) then ((off (nzF v l (N : Int)) kind tn td).1, (off (nzF v l (N : Int)) kind tn td).2, (N : Int)) else wst l v tn td kind N
theorem wst_one {l v : List Int} {tn td : Int} (kind : Int) (h : cErr l v tn td = 0) : wst l v tn td kind 1 = ((off (nzF v l 0) kind tn td).1, (off (nzF v l 0) kind tn td).2, 0) := by
 obtain ⟨_, _, _, ht, _⟩ := cErr_zero h
 have ho := off_in (case_good h 0) kind (tErr_ok ht).1 (tErr_ok ht).2
 rw [Int.ofNat_zero] at ho
 rw [wst, wst]
 simp only [Int.ofNat_zero]
 rw [if_pos]
 rw [w64 (by omega), w64 (by omega)]; omega
theorem worst_iter {l v : List Int} {tn td kind : Int} (h : cErr l v tn td = 0) (hk : 0 ≤ kind ∧ kind ≤ 3) : ∀ N : Nat, N ≤ 1000000 →
  Ev (fun k => iterN (line_worst.step k l v tn td kind) N (-1, 1, 0)) (wst l v tn td kind N)
 | 0, _ => Ev.some
 | N + 1, hN => by
  obtain ⟨⟨l1, l2⟩, ⟨v1, v2⟩, _, ht, _⟩ := cErr_zero h
  have ih := worst_iter h hk N (by omega)
  show Ev (fun k => (iterN (line_worst.step k l v tn td kind) N (-1, 1, 0)).bind (line_worst.step k l v tn td kind N)) _
  refine Ev.bind ih ?_
  unfold line_worst.step
  refine Ev.bind (noisy_ev l v v1 (by omega) (N : Int) (by omega) (by omega)) ?_
  refine Ev.bind (miss_ev (case_good h N) hk (tErr_ok ht).2) ?_
  simp only [line_less.f, Option.bind_some, decide_eq_true_eq]
  rw [wst]
  exact Ev.some
theorem worst_ev {l v : List Int} {tn td kind : Int} (h : cErr l v tn td = 0) (hk : 0 ≤ kind ∧ kind ≤ 3) : Ev (fun k => line_worst.f k l v tn td kind) (wst l v tn td kind (v.length ^ l.length)) := by
 obtain ⟨⟨l1, l2⟩, ⟨v1, v2⟩, hc, ht, _⟩ := cErr_zero h
 unfold line_worst.f
 refine Ev.bind (cases_ev v v1 v2 l.length (by omega)) ?_
 simp only [hc, if_true, show (0 : Int) ≤ ((v.length ^ l.length : Nat) : Int) by omega, show ((v.length ^ l.length : Nat) : Int) ≤ 1000000 by omega, Int.toNat_natCast]
 exact worst_iter h hk _ (by omega)
theorem Worst_l0 {l v : List Int} {tn td kind : Int} (h : cErr l v tn td = 0) (hk : 0 ≤ kind ∧ kind ≤ 3) : ∀ (d j : Nat), 1 ≤ j → j + d = v.length ^ l.length →
  Ev (fun k => Rf_Worst.l0 k kind (j : Int) l v tn td (wst l v tn td kind j).1 (wst l v tn td kind j).2.1 (wst l v tn td kind j).2.2) (wst l v tn td kind (v.length ^ l.length))
 | 0, j, _, hj => by
  obtain ⟨⟨l1, l2⟩, ⟨v1, v2⟩, hc, ht, _⟩ := cErr_zero h
  refine Ev.succ (f := fun k => Rf_Worst.l0 k kind (j : Int) l v tn td (wst l v tn td kind j).1 (wst l v tn td kind j).2.1 (wst l v tn td kind j).2.2) ?_
  obtain rfl : j = v.length ^ l.length := by omega
  simp only [Rf_Worst.l0]
  refine Ev.bind (Cases_ev v v1 v2 l.length (by omega)) ?_
  simp only [hc, if_true, Int.lt_irrefl, if_false]
  exact Ev.some
 | d + 1, j, j1, hj => by
  obtain ⟨⟨l1, l2⟩, ⟨v1, v2⟩, hc, ht, _⟩ := cErr_zero h
  refine Ev.succ (f := fun k => Rf_Worst.l0 k kind (j : Int) l v tn td (wst l v tn td kind j).1 (wst l v tn td kind j).2.1 (wst l v tn td kind j).2.2) ?_
  simp only [Rf_Worst.l0]
  refine Ev.bind (Cases_ev v v1 v2 l.length (by omega)) ?_
  simp only [hc, if_true, show (j : Int) < ((v.length ^ l.length : Nat) : Int) by omega]
  refine Ev.bind (Off_ev h j (by omega) hk (tErr_ok ht).2) ?_
  rw [Cmp_eq]
  simp only [Option.bind_some, cmp_pos, up (show j < 4611686018427387904 by omega)]
  have ih := Worst_l0 h hk d (j + 1) (by omega) (by omega)
  by_cases q : wrap64 ((wst l v tn td kind j).1 * (off (nzF v l (j : Int)) kind tn td).2) < wrap64 ((off (nzF v l (j : Int)) kind tn td).1 * (wst l v tn td kind j).2.1)
  ·have e : wst l v tn td kind (j + 1) = ((off (nzF v l (j : Int)) kind tn td).1, (off (nzF v l (j : Int)) kind tn td).2, (j : Int)) := by rw [wst, if_pos q]
   simp only [q, if_true]
   generalize wst l v tn td kind (v.length ^ l.length) = R at ih ⊢
   rw [e] at ih
   exact ih
  ·have e : wst l v tn td kind (j + 1) = wst l v tn td kind j := by rw [wst, if_neg q]
   simp only [q, if_false]
   generalize wst l v tn td kind (v.length ^ l.length) = R at ih ⊢
   rw [e] at ih
   exact ih
theorem Worst_ev {l v : List Int} {tn td kind : Int} (h : cErr l v tn td = 0) (hk : 0 ≤ kind ∧ kind ≤ 3) : Ev (fun k => Rf_Worst.f k l v tn td kind) (wst l v tn td kind (v.length ^ l.length)) := by
 obtain ⟨⟨l1, l2⟩, ⟨v1, v2⟩, hc, ht, _⟩ := cErr_zero h
 have h0 : 0 < v.length ^ l.length := Nat.pow_pos (by omega)
 unfold Rf_Worst.f
 refine Ev.bind (Off_ev h 0 (by omega) hk (tErr_ok ht).2) ?_
 refine Ev.succ (f := fun k => Rf_Worst.l0 k kind 0 l v tn td (off (nzF v l ((0 : Nat) : Int)) kind tn td).1 (off (nzF v l ((0 : Nat) : Int)) kind tn td).2 0) ?_
 simp only [Rf_Worst.l0]
 refine Ev.bind (Cases_ev v v1 v2 l.length (by omega)) ?_
 simp only [hc, if_true, show (0 : Int) < ((v.length ^ l.length : Nat) : Int) by omega]
 refine Ev.bind (Off_ev h 0 (by omega) hk (tErr_ok ht).2) ?_
 rw [Cmp_eq]
 simp only [Option.bind_some, cmp_pos, Int.lt_irrefl, if_false]
 have := Worst_l0 h hk (v.length ^ l.length - 1) 1 (by omega) (by omega)
 generalize wst l v tn td kind (v.length ^ l.length) = R at this ⊢
 rw [wst_one kind h] at this
 rw [show wrap64 (0 + 1) = ((1 : Nat) : Int) by unfold wrap64; rfl]
 exact this

theorem WorstOf_ev (l v : List Int) {tn td kind : Int} (hx : -9223372036854775808 ≤ tn ∧ tn ≤ 9223372036854775807) (hy : -9223372036854775808 ≤ td ∧ td ≤ 9223372036854775807) :
  Ev (fun k => line_WorstOf.f k l v tn td kind) (if cErr l v tn td = 0 then (if kErr kind = 0 then ((wst l v tn td kind (v.length ^ l.length)).1, (wst l v tn td kind (v.length ^ l.length)).2.1, (wst l v tn td kind (v.length ^ l.length)).2.2, 0) else (0, 0, 0, kErr kind)) else (0, 0, 0, cErr l v tn td)) := by
 unfold line_WorstOf.f
 refine Ev.bind (CheckCase_ev l v hx hy) ?_
 simp only [kindErr_eq, Option.bind_some]
 refine Ev.bind (first_ev _ (by simp)) ?_
 by_cases h3 : cErr l v tn td = 0
 ·by_cases hk : kErr kind = 0
  ·simp only [fnz, h3, hk, if_true]
   exact Ev.bind (worst_ev h3 (kErr_ok hk)) Ev.some
  ·simp only [fnz, h3, hk, if_true, if_false]; exact Ev.some
 ·simp only [fnz, h3, if_false]; exact Ev.some
theorem frac_spec {a b : Int} (hb : 0 < b ∧ b ≤ 4611686018427387904) (ha : -4611686018427387904 ≤ a ∧ a ≤ 4611686018427387904) : ∃ g : Int, 0 < g ∧ a = (frac a b).1 * g ∧ b = (frac a b).2 * g ∧ Int.gcd (frac a b).1 (frac a b).2 = 1 := by
 obtain ⟨h1, h2, h3⟩ := gq_pos' (a := a) hb
 have n1 := frac_num hb ha
 have n2 := frac_den (a := a) hb
 have da : gq a b ∣ a := by rw [h3]; exact Int.gcd_dvd_left _ _
 have db : gq a b ∣ b := by rw [h3]; exact Int.gcd_dvd_right _ _
 have ea : Int.tdiv a (gq a b) = (frac a b).1 := by
  show _ = wrap64 _
  have : (Int.tdiv a (gq a b)).natAbs ≤ a.natAbs := by rw [Int.natAbs_tdiv]; exact Nat.div_le_self _ _
  rw [w64 (by omega)]
 have eb : Int.tdiv b (gq a b) = (frac a b).2 := by
  show _ = wrap64 _
  have : (Int.tdiv b (gq a b)).natAbs ≤ b.natAbs := by rw [Int.natAbs_tdiv]; exact Nat.div_le_self _ _
  rw [w64 (by omega)]
 refine ⟨gq a b, h1, ?_, ?_, ?_⟩
 ·rw [← ea, Int.tdiv_mul_cancel da]
 ·rw [← eb, Int.tdiv_mul_cancel db]
 ·rw [← ea, ← eb, h3]
  rw [h3] at da db h1
  obtain ⟨x, hx⟩ := da
  obtain ⟨y, hy⟩ := db
  have hg : (Int.gcd a b : Int) ≠ 0 := by omega
  have e1 : Int.tdiv a (Int.gcd a b : Int) = x := by
   have : Int.tdiv ((Int.gcd a b : Int) * x) (Int.gcd a b : Int) = x := Int.mul_tdiv_cancel_left x hg
   rw [← hx] at this; exact this
  have e2 : Int.tdiv b (Int.gcd a b : Int) = y := by
   have : Int.tdiv ((Int.gcd a b : Int) * y) (Int.gcd a b : Int) = y := Int.mul_tdiv_cancel_left y hg
   rw [← hy] at this; exact this
  rw [e1, e2]
  have h : Int.gcd a b = (Int.gcd a b) * Int.gcd x y := by
   have q : Int.gcd a b = Int.gcd ((Int.gcd a b : Int) * x) ((Int.gcd a b : Int) * y) := by rw [← hx, ← hy]
   rw [Int.gcd_mul_left, Int.natAbs_natCast] at q
   exact q
  have p : 0 < Int.gcd a b := by omega
  have : Int.gcd a b * 1 = Int.gcd a b * Int.gcd x y := by rw [Nat.mul_one]; exact h
  exact (Nat.eq_of_mul_eq_mul_left p this).symm
theorem IsLowest_ev {a b : Int} (ha : -9223372036854775808 ≤ a ∧ a ≤ 9223372036854775807) (hb : 0 < b ∧ b ≤ 4611686018427387904) (hg : Int.gcd a b = 1) : Ev (fun k => Bs_IsLowest.f k a b) true := by
 unfold Bs_IsLowest.f
 simp only [show b > 0 by omega, if_true]
 refine Ev.bind (gcd_ev ha (by omega)) ?_
 have : gq a b = 1 := by rw [(gq_pos' (a := a) hb).2.2, hg]; rfl
 simp only [this, beq_self_eq_true]
 exact Ev.some
theorem IsSmall_eq {a b : Int} (ha : -1000000000 ≤ a ∧ a ≤ 1000000000) (hb : 1 ≤ b ∧ b ≤ 1000000000) : Bs_IsSmall.f a b = some true := by
 simp only [Bs_IsSmall.f, Within_eq, Option.bind_some, ha, hb, and_self, decide_true, if_true]
theorem off_low {l : List Int} (hg : Good l) (kind : Int) {tn td : Int} (hn : -100 ≤ tn ∧ tn ≤ 100) (ht : 1 ≤ td ∧ td ≤ 100) : Int.gcd (off l kind tn td).1 (off l kind tn td).2 = 1 := by
 obtain ⟨he, hm⟩ := est_in hg kind
 have hd := den_in he ht
 have a1 : (est l kind).1 * td ≤ 2560000 * 100 := Int.le_trans (Int.mul_le_mul_of_nonneg_right (show (est l kind).1 ≤ 2560000 by omega) (by omega)) (Int.mul_le_mul_of_nonneg_left ht.2 (by omega))
 have a2 : -(est l kind).1 * td ≤ 2560000 * 100 := Int.le_trans (Int.mul_le_mul_of_nonneg_right (show -(est l kind).1 ≤ 2560000 by omega) (by omega)) (Int.mul_le_mul_of_nonneg_left ht.2 (by omega))
 have b1 : tn * (est l kind).2 ≤ 100 * 160000 := Int.le_trans (Int.mul_le_mul_of_nonneg_right hn.2 (by omega)) (Int.mul_le_mul_of_nonneg_left he.2 (by omega))
 have b2 : -tn * (est l kind).2 ≤ 100 * 160000 := Int.le_trans (Int.mul_le_mul_of_nonneg_right (show -tn ≤ 100 by omega) (by omega)) (Int.mul_le_mul_of_nonneg_left he.2 (by omega))
 rw [Int.neg_mul] at a2 b2
 unfold off
 rw [w64 (n := (est l kind).1 * td) (by omega), w64 (n := tn * (est l kind).2) (by omega), w64 (n := (est l kind).1 * td - tn * (est l kind).2) (by omega), w64 (n := -((est l kind).1 * td - tn * (est l kind).2)) (by omega), mx_eq]
 obtain ⟨m, hm⟩ : ∃ m, m = max ((est l kind).1 * td - tn * (est l kind).2) (-((est l kind).1 * td - tn * (est l kind).2)) := ⟨_, rfl⟩
 rw [← hm]
 obtain ⟨g, _, _, _, h⟩ := frac_spec (a := m) (b := wrap64 ((est l kind).2 * td)) (by omega) (by omega)
 exact h
theorem wst_off {l v : List Int} {tn td : Int} (kind : Int) (h : cErr l v tn td = 0) : ∀ N : Nat, 1 ≤ N → ∃ j : Nat, (wst l v tn td kind N).1 = (off (nzF v l (j : Int)) kind tn td).1 ∧ (wst l v tn td kind N).2.1 = (off (nzF v l (j : Int)) kind tn td).2
 | 0, h0 => by omega
 | 1, _ => ⟨0, by rw [wst_one kind h]; exact ⟨rfl, rfl⟩⟩
 | N + 2, _ => by
  rw [wst]
  split
  ·exact ⟨N + 1, rfl, rfl⟩
  ·exact wst_off kind h (N + 1) (by omega)
/-- The worst of a kind, over all cases. -/
def wk (l v : List Int) (tn td kind : Int) : Int × Int × Int := wst l v tn td kind (v.length ^ l.length)
theorem wk_in {l v : List Int} {tn td : Int} (kind : Int) (h : cErr l v tn td = 0) : (0 ≤ (wk l v tn td kind).1 ∧ (wk l v tn td kind).1 ≤ 272000000) ∧ (0 < (wk l v tn td kind).2.1 ∧ (wk l v tn td kind).2.1 ≤ 16000000) ∧ Int.gcd (wk l v tn td kind).1 (wk l v tn td kind).2.1 = 1 := by
 obtain ⟨⟨l1, l2⟩, ⟨v1, v2⟩, hc, ht, _⟩ := cErr_zero h
 have h0 : 0 < v.length ^ l.length := Nat.pow_pos (by omega)
 obtain ⟨j, e1, e2⟩ := wst_off kind h (v.length ^ l.length) (by omega)
 have ho := off_in (case_good h j) kind (tErr_ok ht).1 (tErr_ok ht).2
 have hg := off_low (case_good h j) kind (tErr_ok ht).1 (tErr_ok ht).2
 unfold wk
 rw [e1, e2]
 exact ⟨ho.1, ho.2, hg⟩
/-- A kind has a smaller worst error than another one. -/
def kl (l v : List Int) (tn td a b : Int) : Prop := (wk l v tn td a).1 * (wk l v tn td b).2.1 < (wk l v tn td b).1 * (wk l v tn td a).2.1
instance (l v : List Int) (tn td a b : Int) : Decidable (kl l v tn td a b) := by unfold kl; infer_instance
theorem kl_trans {l v : List Int} {tn td : Int} (h : cErr l v tn td = 0) {a b c : Int} (h1 : kl l v tn td a b) (h2 : ¬ kl l v tn td c b) : kl l v tn td a c := by
 have pa := (wk_in a h).2.1.1
 have pb := (wk_in b h).2.1.1
 have pc := (wk_in c h).2.1.1
 unfold kl at *
 have e1 := Int.mul_lt_mul_of_pos_right h1 pc
 have e2 := Int.mul_le_mul_of_nonneg_right (Int.not_lt.1 h2) (show 0 ≤ (wk l v tn td a).2.1 by omega)
 have e3 : ((wk l v tn td a).1 * (wk l v tn td c).2.1) * (wk l v tn td b).2.1 < ((wk l v tn td c).1 * (wk l v tn td a).2.1) * (wk l v tn td b).2.1 := by
  have t1 : ((wk l v tn td a).1 * (wk l v tn td c).2.1) * (wk l v tn td b).2.1 = (wk l v tn td a).1 * (wk l v tn td b).2.1 * (wk l v tn td c).2.1 := Int.mul_right_comm _ _ _
  have t2 : ((wk l v tn td c).1 * (wk l v tn td a).2.1) * (wk l v tn td b).2.1 = (wk l v tn td c).1 * (wk l v tn td b).2.1 * (wk l v tn td a).2.1 := Int.mul_right_comm _ _ _
  have t3 : (wk l v tn td b).1 * (wk l v tn td a).2.1 * (wk l v tn td c).2.1 = (wk l v tn td b).1 * (wk l v tn td c).2.1 * (wk l v tn td a).2.1 := Int.mul_right_comm _ _ _
  omega
 exact Int.lt_of_mul_lt_mul_right e3 (by omega)
theorem kl_asymm {l v : List Int} {tn td a b : Int} (h1 : kl l v tn td a b) : ¬ kl l v tn td b a := by unfold kl at *; omega
theorem kl_irrefl {l v : List Int} {tn td a : Int} : ¬ kl l v tn td a a := by unfold kl; omega
theorem less_kl {l v : List Int} {tn td : Int} (h : cErr l v tn td = 0) (a b : Int) : (wrap64 ((wk l v tn td a).1 * (wk l v tn td b).2.1) < wrap64 ((wk l v tn td b).1 * (wk l v tn td a).2.1)) ↔ kl l v tn td a b := by
 obtain ⟨a1, a2, _⟩ := wk_in a h
 obtain ⟨b1, b2, _⟩ := wk_in b h
 have m1 : 0 ≤ (wk l v tn td a).1 * (wk l v tn td b).2.1 := Int.mul_nonneg a1.1 (by omega)
 have m2 : (wk l v tn td a).1 * (wk l v tn td b).2.1 ≤ 272000000 * 16000000 := Int.mul_le_mul a1.2 b2.2 (by omega) (by omega)
 have m3 : 0 ≤ (wk l v tn td b).1 * (wk l v tn td a).2.1 := Int.mul_nonneg b1.1 (by omega)
 have m4 : (wk l v tn td b).1 * (wk l v tn td a).2.1 ≤ 272000000 * 16000000 := Int.mul_le_mul b1.2 a2.2 (by omega) (by omega)
 rw [w64 (by omega), w64 (by omega)]
 rfl
theorem cmp_kl {l v : List Int} {tn td : Int} (h : cErr l v tn td = 0) (a b : Int) : Bs_Cmp.f (wk l v tn td a).1 (wk l v tn td a).2.1 (wk l v tn td b).1 (wk l v tn td b).2.1 = some (if kl l v tn td a b then -1 else if kl l v tn td b a then 1 else 0) := by
 rw [Cmp_eq]
 have e1 := less_kl h a b
 have e2 := less_kl h b a
 have g : (wrap64 ((wk l v tn td a).1 * (wk l v tn td b).2.1) > wrap64 ((wk l v tn td b).1 * (wk l v tn td a).2.1)) ↔ kl l v tn td b a := e2
 by_cases q : kl l v tn td a b
 ·rw [if_pos q, if_pos (e1.2 q)]
 ·rw [if_neg q, if_neg (fun x => q (e1.1 x))]
  by_cases r : kl l v tn td b a
  ·rw [if_pos r, if_pos (g.2 r)]
  ·rw [if_neg r, if_neg (fun x => r (g.1 x))]

def bestF (l v : List Int) (tn td : Int) : Int → List Int → Int
 | c, [] => c
 | c, x :: r => if kl l v tn td x c then bestF l v tn td x r else bestF l v tn td c r
theorem bestF_mem (l v : List Int) (tn td : Int) : ∀ (r : List Int) (c : Int), bestF l v tn td c r = c ∨ bestF l v tn td c r ∈ r
 | [], c => .inl rfl
 | x :: r, c => by
  rw [bestF]
  split
  ·rcases bestF_mem l v tn td r x with h | h
   ·rw [h]; exact .inr List.mem_cons_self
   ·exact .inr (List.mem_cons_of_mem _ h)
  ·rcases bestF_mem l v tn td r c with h | h
   ·exact .inl h
   ·exact .inr (List.mem_cons_of_mem _ h)
theorem bestF_cur {l v : List Int} {tn td : Int} (h : cErr l v tn td = 0) : ∀ (r : List Int) (c : Int), bestF l v tn td c r = c ∨ kl l v tn td (bestF l v tn td c r) c
 | [], c => .inl rfl
 | x :: r, c => by
  rw [bestF]
  split
  ·rename_i q
   rcases bestF_cur h r x with e | e
   ·rw [e]; exact .inr q
   ·exact .inr (kl_trans h e (kl_asymm q))
  ·exact bestF_cur h r c
theorem bestF_least {l v : List Int} {tn td : Int} (h : cErr l v tn td = 0) : ∀ (r : List Int) (c x : Int), (x = c ∨ x ∈ r) → ¬ kl l v tn td x (bestF l v tn td c r)
 | r, c, _, .inl rfl => by
  rcases bestF_cur h r c with e | e
  ·rw [e]; exact kl_irrefl
  ·exact kl_asymm e
 | y :: r, c, x, .inr hx => by
  rw [bestF]
  split
  ·rename_i q
   rcases List.mem_cons.1 hx with rfl | hx
   ·exact bestF_least h r x x (.inl rfl)
   ·exact bestF_least h r y x (.inr hx)
  ·rename_i q
   rcases List.mem_cons.1 hx with rfl | hx
   ·intro z
    exact q (kl_trans h z (bestF_least h r c c (.inl rfl)))
   ·exact bestF_least h r c x (.inr hx)
/-- Ahead of the best one, all are worse. -/
theorem bestF_first {l v : List Int} {tn td : Int} (h : cErr l v tn td = 0) : ∀ (r : List Int) (c : Int) (n : Nat), bestF l v tn td c r ≠ c → n < r.length → (∀ j : Nat, j ≤ n → rd r (j : Int) ≠ bestF l v tn td c r) → kl l v tn td (bestF l v tn td c r) (rd r (n : Int))
 | [], c, n, _, hn, _ => by simp at hn
 | x :: r, c, n, hc, hn, hb => by
  have h0 := hb 0 (by omega)
  rw [rd_nat] at h0
  have hx : bestF l v tn td c (x :: r) ≠ x := fun e => h0 (by rw [e]; rfl)
  rw [bestF] at hc hb hx ⊢
  by_cases q : kl l v tn td x c
  ·rw [if_pos q] at hc hb hx ⊢
   cases n with
   | zero =>
    rcases bestF_cur h r x with e | e
    ·exact absurd e hx
    ·rw [rd_nat]; exact e
   | succ n =>
    have ih := bestF_first h r x n hx (by simpa using hn) (fun j hj => by
     have := hb (j + 1) (by omega)
     rw [rd_nat] at this ⊢; exact this)
    rw [rd_nat] at ih ⊢; exact ih
  ·rw [if_neg q] at hc hb hx ⊢
   cases n with
   | zero =>
    rcases bestF_cur h r c with e | e
    ·exact absurd e hc
    ·rw [rd_nat]; exact kl_trans h e q
   | succ n =>
    have ih := bestF_first h r c n hc (by simpa using hn) (fun j hj => by
     have := hb (j + 1) (by omega)
     rw [rd_nat] at this ⊢; exact this)
    rw [rd_nat] at ih ⊢; exact ih

def kF : List Int → Int → Int
 | [], e => e
 | x :: r, e => kF r (fnz [e, kErr x])
theorem kF_ne : ∀ (r : List Int) (e : Int), e ≠ 0 → kF r e = e
 | [], e, _ => rfl
 | x :: r, e, h => by
  rw [kF]
  simp only [fnz, h, if_false]
  exact kF_ne r e h
theorem kF_cons (x : Int) (r : List Int) : kF (x :: r) 0 = if kErr x = 0 then kF r 0 else kErr x := by
 rw [kF]
 by_cases h : kErr x = 0
 ·simp only [fnz, h, if_true]
 ·simp only [fnz, h, if_true, if_false]
  exact kF_ne r _ h
theorem kF_zero : ∀ (r : List Int), kF r 0 = 0 → ∀ x ∈ r, 0 ≤ x ∧ x ≤ 3
 | [], _, _, hx => by cases hx
 | y :: r, h, x, hx => by
  rw [kF_cons] at h
  by_cases e : kErr y = 0
  ·rw [if_pos e] at h
   rcases List.mem_cons.1 hx with rfl | hx
   ·exact kErr_ok e
   ·exact kF_zero r h x hx
  ·rw [if_neg e] at h; exact absurd h e
def ksErr (ks : List Int) : Int := if ks.length = 0 then 10 else if 4 < ks.length then 8 else kF ks 0
theorem KindsErr_l0 (ks : List Int) (hl : ks.length < 1000) : ∀ (n i : Nat), i + n = ks.length → Ev (fun k => Rf_KindsErr.l0 k ks (i : Int)) (kF (ks.drop i) 0)
 | 0, i, h => by
  refine Ev.succ (f := fun k => Rf_KindsErr.l0 k ks (i : Int)) ?_
  simp only [Rf_KindsErr.l0, show ¬ (i : Int) < (ks.length : Int) by omega, if_false]
  rw [show ks.drop i = [] from List.drop_eq_nil_of_le (by omega)]
  exact Ev.some
 | n + 1, i, h => by
  refine Ev.succ (f := fun k => Rf_KindsErr.l0 k ks (i : Int)) ?_
  simp only [Rf_KindsErr.l0, show (i : Int) < (ks.length : Int) by omega, show (0 : Int) ≤ (i : Int) by omega, if_true, KindErr_eq, Option.bind_some, up (show i < 4611686018427387904 by omega)]
  rw [drop_rd (show i < ks.length by omega), kF_cons]
  by_cases e : kErr (rd ks (i : Int)) = 0
  ·simp only [e, if_true]
   exact KindsErr_l0 ks hl n (i + 1) (by omega)
  ·simp only [e, if_false]; exact Ev.some
theorem KindsErr_ev (ks : List Int) : Ev (fun k => Rf_KindsErr.f k ks) (ksErr ks) := by
 unfold Rf_KindsErr.f ksErr
 by_cases a : ks.length = 0
 ·simp only [a, show (ks.length : Int) = 0 by omega, if_true]; exact Ev.some
 ·by_cases b : 4 < ks.length
  ·simp only [a, b, show ¬ (ks.length : Int) = 0 by omega, show (ks.length : Int) > 4 by omega, if_true, if_false]; exact Ev.some
  ·simp only [a, b, show ¬ (ks.length : Int) = 0 by omega, show ¬ (ks.length : Int) > 4 by omega, if_false]
   have := KindsErr_l0 ks (by omega) ks.length 0 (by omega)
   simpa using this

theorem BestOf_l1 {l v : List Int} {tn td : Int} (h : cErr l v tn td = 0) (r : List Int) (hr : r.length < 1000) (hk : ∀ x ∈ r, 0 ≤ x ∧ x ≤ 3) : ∀ (n i : Nat) (c : Int), i + n = r.length →
  Ev (fun k => line_BestOf.l1 k c r (r.length : Int) (i : Int) l v tn td (wk l v tn td c).1 (wk l v tn td c).2.1 (wk l v tn td c).2.2) (bestF l v tn td c (r.drop i), (wk l v tn td (bestF l v tn td c (r.drop i))).1, (wk l v tn td (bestF l v tn td c (r.drop i))).2.1, (wk l v tn td (bestF l v tn td c (r.drop i))).2.2, 0)
 | 0, i, c, hi => by
  refine Ev.succ (f := fun k => line_BestOf.l1 k c r (r.length : Int) (i : Int) l v tn td (wk l v tn td c).1 (wk l v tn td c).2.1 (wk l v tn td c).2.2) ?_
  simp only [line_BestOf.l1, show ¬ (i : Int) < (r.length : Int) by omega, if_false]
  rw [show r.drop i = [] from List.drop_eq_nil_of_le (by omega), bestF]
  exact Ev.some
 | n + 1, i, c, hi => by
  refine Ev.succ (f := fun k => line_BestOf.l1 k c r (r.length : Int) (i : Int) l v tn td (wk l v tn td c).1 (wk l v tn td c).2.1 (wk l v tn td c).2.2) ?_
  simp only [line_BestOf.l1, show (i : Int) < (r.length : Int) by omega, show (0 : Int) ≤ (i : Int) by omega, if_true, up (show i < 4611686018427387904 by omega)]
  refine Ev.bind (a := wk l v tn td (rd r (i : Int))) (worst_ev h (hk _ (rd_mem (by omega)))) ?_
  simp only [line_less.f, Option.bind_some, decide_eq_true_eq, less_kl h]
  rw [drop_rd (show i < r.length by omega), bestF]
  by_cases q : kl l v tn td (rd r (i : Int)) c
  ·simp only [q, if_true]
   exact BestOf_l1 h r hr hk n (i + 1) (rd r (i : Int)) (by omega)
  ·simp only [q, if_false]
   exact BestOf_l1 h r hr hk n (i + 1) c (by omega)
theorem Best_l0 {l v : List Int} {tn td : Int} (h : cErr l v tn td = 0) (r : List Int) (hr : r.length < 1000) (hk : ∀ x ∈ r, 0 ≤ x ∧ x ≤ 3) : ∀ (n i : Nat) (c : Int), i + n = r.length →
  Ev (fun k => Rf_Best.l0 k r c (i : Int) l v tn td (wk l v tn td c).1 (wk l v tn td c).2.1 (wk l v tn td c).2.2) (bestF l v tn td c (r.drop i), (wk l v tn td (bestF l v tn td c (r.drop i))).1, (wk l v tn td (bestF l v tn td c (r.drop i))).2.1, (wk l v tn td (bestF l v tn td c (r.drop i))).2.2)
 | 0, i, c, hi => by
  refine Ev.succ (f := fun k => Rf_Best.l0 k r c (i : Int) l v tn td (wk l v tn td c).1 (wk l v tn td c).2.1 (wk l v tn td c).2.2) ?_
  simp only [Rf_Best.l0, show ¬ (i : Int) < (r.length : Int) by omega, if_false]
  rw [show r.drop i = [] from List.drop_eq_nil_of_le (by omega), bestF]
  exact Ev.some
 | n + 1, i, c, hi => by
  refine Ev.succ (f := fun k => Rf_Best.l0 k r c (i : Int) l v tn td (wk l v tn td c).1 (wk l v tn td c).2.1 (wk l v tn td c).2.2) ?_
  simp only [Rf_Best.l0, show (i : Int) < (r.length : Int) by omega, show (0 : Int) ≤ (i : Int) by omega, if_true, up (show i < 4611686018427387904 by omega)]
  refine Ev.bind (a := wk l v tn td (rd r (i : Int))) (Worst_ev h (hk _ (rd_mem (by omega)))) ?_
  rw [cmp_kl h]
  simp only [Option.bind_some]
  rw [drop_rd (show i < r.length by omega), bestF]
  by_cases q : kl l v tn td (rd r (i : Int)) c
  ·simp only [q, if_true, show (-1 : Int) < 0 by decide]
   exact Best_l0 h r hr hk n (i + 1) (rd r (i : Int)) (by omega)
  ·have q2 : ¬ (if kl l v tn td c (rd r (i : Int)) then (1 : Int) else 0) < 0 := by split <;> omega
   simp only [q, if_false, q2]
   exact Best_l0 h r hr hk n (i + 1) c (by omega)
/-- The best one of kinds. -/
def bst (l v : List Int) (tn td : Int) (ks : List Int) : Int := bestF l v tn td (rd ks 0) (ks.drop 1)
theorem BestOf_l0 {l v : List Int} {tn td : Int} (ks : List Int) (hl : ks.length < 1000) (R : Int × Int × Int × Int × Int) (hnext : ∀ e, e = kF ks (if ks.length = 0 then fnz [cErr l v tn td, 10] else if 4 < ks.length then fnz [cErr l v tn td, 8] else cErr l v tn td) → Ev (fun k => if e = 0 then (if 0 < (ks.length : Int) then ((line_worst.f k l v tn td (rd ks 0)).bind fun bt1220 => (if 1 ≤ (ks.length : Int) then (line_BestOf.l1 k (rd ks 0) (ks.drop 1) ((ks.drop 1).length : Int) 0 l v tn td bt1220.1 bt1220.2.1 bt1220.2.2) else (none))) else (none)) else (some (0, 0, 0, 0, e))) R) : ∀ (n i : Nat) (e : Int), i + n = ks.length → kF (ks.drop i) e = kF ks (if ks.length = 0 then fnz [cErr l v tn td, 10] else if 4 < ks.length then fnz [cErr l v tn td, 8] else cErr l v tn td) →
  Ev (fun k => line_BestOf.l0 k ks e ks (ks.length : Int) (i : Int) l v tn td) R
 | 0, i, e, hi, he => by
  refine Ev.succ (f := fun k => line_BestOf.l0 k ks e ks (ks.length : Int) (i : Int) l v tn td) ?_
  simp only [line_BestOf.l0, show ¬ (i : Int) < (ks.length : Int) by omega, if_false]
  rw [show ks.drop i = [] from List.drop_eq_nil_of_le (by omega), kF] at he
  exact hnext e he
 | n + 1, i, e, hi, he => by
  refine Ev.succ (f := fun k => line_BestOf.l0 k ks e ks (ks.length : Int) (i : Int) l v tn td) ?_
  simp only [line_BestOf.l0, show (i : Int) < (ks.length : Int) by omega, show (0 : Int) ≤ (i : Int) by omega, if_true, kindErr_eq, Option.bind_some, up (show i < 4611686018427387904 by omega)]
  refine Ev.bind (first_ev _ (by simp)) ?_
  rw [drop_rd (show i < ks.length by omega), kF] at he
  exact BestOf_l0 ks hl R hnext n (i + 1) _ (by omega) he
def beErr (l v : List Int) (tn td : Int) (ks : List Int) : Int := if cErr l v tn td = 0 then ksErr ks else cErr l v tn td
theorem BestOf_ev (l v : List Int) {tn td : Int} (ks : List Int) (hl : ks.length < 1000) (hx : -9223372036854775808 ≤ tn ∧ tn ≤ 9223372036854775807) (hy : -9223372036854775808 ≤ td ∧ td ≤ 9223372036854775807) :
  Ev (fun k => line_BestOf.f k l v tn td ks) (if beErr l v tn td ks = 0 then (bst l v tn td ks, (wk l v tn td (bst l v tn td ks)).1, (wk l v tn td (bst l v tn td ks)).2.1, (wk l v tn td (bst l v tn td ks)).2.2, 0) else (0, 0, 0, 0, beErr l v tn td ks)) := by
 unfold line_BestOf.f
 refine Ev.bind (CheckCase_ev l v hx hy) ?_
 simp only [unless_eq, Option.bind_some, decide_eq_true_eq]
 refine Ev.bind (first_ev _ (by simp)) ?_
 have he : fnz [cErr l v tn td, if (ks.length : Int) > 0 then 0 else 10, if (ks.length : Int) ≤ 4 then 0 else 8] = (if ks.length = 0 then fnz [cErr l v tn td, 10] else if 4 < ks.length then fnz [cErr l v tn td, 8] else cErr l v tn td) := by
  by_cases a : ks.length = 0
  ·rw [if_pos a, if_neg (by omega), if_pos (by omega)]
   by_cases z : cErr l v tn td = 0
   ·simp [fnz, z]
   ·simp [fnz, z]
  ·rw [if_neg a, if_pos (by omega)]
   by_cases b : 4 < ks.length
   ·rw [if_pos b, if_neg (by omega)]
    by_cases z : cErr l v tn td = 0
    ·simp [fnz, z]
    ·simp [fnz, z]
   ·rw [if_neg b, if_pos (by omega)]
    by_cases z : cErr l v tn td = 0
    ·simp [fnz, z]
    ·simp [fnz, z]
 rw [he]
 have hb : kF ks (if ks.length = 0 then fnz [cErr l v tn td, 10] else if 4 < ks.length then fnz [cErr l v tn td, 8] else cErr l v tn td) = beErr l v tn td ks := by
  unfold beErr ksErr
  by_cases z : cErr l v tn td = 0
  ·rw [if_pos z, z]
   by_cases a : ks.length = 0
   ·rw [if_pos a, if_pos a]; exact kF_ne ks _ (by simp [fnz])
   ·rw [if_neg a, if_neg a]
    by_cases b : 4 < ks.length
    ·rw [if_pos b, if_pos b]; exact kF_ne ks _ (by simp [fnz])
    ·rw [if_neg b, if_neg b]
  ·rw [if_neg z]
   have : (if ks.length = 0 then fnz [cErr l v tn td, 10] else if 4 < ks.length then fnz [cErr l v tn td, 8] else cErr l v tn td) = cErr l v tn td := by
    simp [fnz, z]
   rw [this]; exact kF_ne ks _ z
 refine BestOf_l0 ks hl _ (fun e h => ?_) ks.length 0 _ (by omega) (by rw [List.drop_zero])
 rw [hb] at h
 subst h
 by_cases z : beErr l v tn td ks = 0
 ·have hc : cErr l v tn td = 0 := by
   unfold beErr at z
   by_cases c : cErr l v tn td = 0
   ·exact c
   ·rw [if_neg c] at z; exact absurd z c
  have hk : (1 ≤ ks.length ∧ ks.length ≤ 4) ∧ ∀ x ∈ ks, 0 ≤ x ∧ x ≤ 3 := by
   unfold beErr at z
   rw [if_pos hc] at z
   unfold ksErr at z
   by_cases a : ks.length = 0
   ·rw [if_pos a] at z; simp at z
   ·rw [if_neg a] at z
    by_cases b : 4 < ks.length
    ·rw [if_pos b] at z; simp at z
    ·rw [if_neg b] at z; exact ⟨by omega, kF_zero ks z⟩
  simp only [z, if_true, show 0 < (ks.length : Int) by omega, show 1 ≤ (ks.length : Int) by omega]
  refine Ev.bind (a := wk l v tn td (rd ks 0)) (worst_ev hc (hk.2 _ (rd_mem (l := ks) (i := 0) (by omega)))) ?_
  have := BestOf_l1 hc (ks.drop 1) (by simp; omega) (fun x hx => hk.2 x (List.mem_of_mem_drop hx)) (ks.drop 1).length 0 (rd ks 0) (by omega)
  rw [List.drop_zero] at this
  exact this
 ·simp only [z, if_false]; exact Ev.some
theorem beErr_ok {l v : List Int} {tn td : Int} {ks : List Int} (z : beErr l v tn td ks = 0) : cErr l v tn td = 0 ∧ (1 ≤ ks.length ∧ ks.length ≤ 4) ∧ ∀ x ∈ ks, 0 ≤ x ∧ x ≤ 3 := by
 unfold beErr at z
 by_cases hc : cErr l v tn td = 0
 ·rw [if_pos hc] at z
  unfold ksErr at z
  by_cases a : ks.length = 0
  ·rw [if_pos a] at z; simp at z
  ·rw [if_neg a] at z
   by_cases b : 4 < ks.length
   ·rw [if_pos b] at z; simp at z
   ·rw [if_neg b] at z; exact ⟨hc, by omega, kF_zero ks z⟩
 ·rw [if_neg hc] at z; exact absurd z hc
theorem Best_ev {l v : List Int} {tn td : Int} {ks : List Int} (h : cErr l v tn td = 0) (h1 : 1 ≤ ks.length ∧ ks.length ≤ 4) (hk : ∀ x ∈ ks, 0 ≤ x ∧ x ≤ 3) :
  Ev (fun k => Rf_Best.f k l v tn td ks) (bst l v tn td ks, (wk l v tn td (bst l v tn td ks)).1, (wk l v tn td (bst l v tn td ks)).2.1, (wk l v tn td (bst l v tn td ks)).2.2) := by
 unfold Rf_Best.f
 simp only [show 0 < (ks.length : Int) by omega, if_true]
 refine Ev.bind (a := wk l v tn td (rd ks 0)) (Worst_ev h (hk _ (rd_mem (l := ks) (i := 0) (by omega)))) ?_
 exact Best_l0 h ks (by omega) hk (ks.length - 1) 1 (rd ks 0) (by omega)

theorem best_l0 {l v : List Int} {tn td : Int} {ks : List Int} (h : cErr l v tn td = 0) (h1 : 1 ≤ ks.length ∧ ks.length ≤ 4) (hk : ∀ x ∈ ks, 0 ≤ x ∧ x ≤ 3) (hx : -9223372036854775808 ≤ tn ∧ tn ≤ 9223372036854775807) (hy : -9223372036854775808 ≤ td ∧ td ≤ 9223372036854775807) (hlen : l.length < 1000 ∧ v.length < 1000) (B : Int) (hB : B = bst l v tn td ks) : ∀ (n i : Nat) (b : Bool), i + n = ks.length → (b = true ↔ ∃ j : Nat, j < i ∧ rd ks (j : Int) = B) →
  Ev (fun k => Lw_LineBest.l0 k ks B b (i : Int) l v tn td (wk l v tn td B).1 (wk l v tn td B).2.1 (wk l v tn td B).2.2) true
 | 0, i, b, hi, hb => by
  refine Ev.succ (f := fun k => Lw_LineBest.l0 k ks B b (i : Int) l v tn td (wk l v tn td B).1 (wk l v tn td B).2.1 (wk l v tn td B).2.2) ?_
  simp only [Lw_LineBest.l0, show ¬ (i : Int) < (ks.length : Int) by omega, if_false]
  have : b = true := hb.2 (by
   rw [hB]; unfold bst
   rcases bestF_mem l v tn td (ks.drop 1) (rd ks 0) with e | e
   ·exact ⟨0, by omega, by rw [e]; rfl⟩
   ·obtain ⟨j, hj, e2⟩ := mem_rd (List.mem_of_mem_drop e)
    exact ⟨j, by omega, e2⟩)
  rw [this]
  exact Ev.some
 | n + 1, i, b, hi, hb => by
  have hki := hk _ (rd_mem (l := ks) (i := i) (by omega))
  obtain ⟨w1, w2, w3⟩ := wk_in (rd ks (i : Int)) h
  have hmem : rd ks (i : Int) = rd ks 0 ∨ rd ks (i : Int) ∈ ks.drop 1 := by
   by_cases e : i = 0
   ·subst e; exact .inl rfl
   ·right
    have : rd (ks.drop 1) ((i - 1 : Nat) : Int) ∈ ks.drop 1 := rd_mem (by simp; omega)
    rw [rd_nat, List.getD_eq_getElem?_getD, List.getElem?_drop, show 1 + (i - 1) = i by omega, ← List.getD_eq_getElem?_getD, ← rd_nat] at this
    exact this
  have hle : ¬ kl l v tn td (rd ks (i : Int)) B := by rw [hB]; exact bestF_least h _ _ _ hmem
  -- not seen before, and not the best one itself: worse
  have hlt : b = false → rd ks (i : Int) ≠ B → kl l v tn td B (rd ks (i : Int)) := fun hbf hne => by
   have hall : ∀ j : Nat, j ≤ i → rd ks (j : Int) ≠ B := fun j hj e => by
    by_cases q : j = i
    ·subst q; exact hne e
    ·have := hb.2 ⟨j, by omega, e⟩
     rw [hbf] at this; cases this
   have h00 : B ≠ rd ks 0 := fun e => hall 0 (by omega) e.symm
   by_cases e : i = 0
   ·subst e
    rcases bestF_cur h (ks.drop 1) (rd ks 0) with q | q
    ·exact absurd (hB.trans q) h00
    ·rw [hB]; exact q
   ·have hrd : ∀ j : Nat, rd (ks.drop 1) (j : Int) = rd ks ((j + 1 : Nat) : Int) := fun j => by
     rw [rd_nat, rd_nat, List.getD_eq_getElem?_getD, List.getD_eq_getElem?_getD, List.getElem?_drop, show 1 + j = j + 1 by omega]
    have := bestF_first h (ks.drop 1) (rd ks 0) (i - 1) (fun e => h00 (hB.trans e)) (by simp; omega) (fun j hj => by
     rw [hrd j]
     have := hall (j + 1) (by omega)
     rw [hB] at this; exact this)
    rw [hrd (i - 1), show i - 1 + 1 = i by omega] at this
    rw [hB]; exact this
  have ih := fun b' hb' => best_l0 h h1 hk hx hy hlen B hB n (i + 1) b' (by omega) hb'
  refine Ev.succ (f := fun k => Lw_LineBest.l0 k ks B b (i : Int) l v tn td (wk l v tn td B).1 (wk l v tn td B).2.1 (wk l v tn td B).2.2) ?_
  simp only [Lw_LineBest.l0, show (i : Int) < (ks.length : Int) by omega, show (0 : Int) ≤ (i : Int) by omega, if_true]
  rw [CopyCase_eq l v tn td (by omega) (by omega)]
  simp only [Option.bind_some]
  have hW : Ev (fun k => line_WorstOf.f k l v tn td (rd ks (i : Int))) ((wk l v tn td (rd ks (i : Int))).1, (wk l v tn td (rd ks (i : Int))).2.1, (wk l v tn td (rd ks (i : Int))).2.2, 0) := by
   have := WorstOf_ev l v (kind := rd ks (i : Int)) hx hy
   have k0 : kErr (rd ks (i : Int)) = 0 := by unfold kErr; rw [if_pos hki]
   simp only [h, k0, if_true] at this
   exact this
  refine Ev.bind hW ?_
  simp only [if_true]
  refine Ev.bind (IsLowest_ev (by omega) (by omega) w3) ?_
  rw [IsSmall_eq (by omega) (by omega)]
  simp only [if_true, Option.bind_some, Bool.not_true]
  refine Ev.succ (f := fun k => Lw_LineBest.j4 k ks B b (i : Int) false l v tn td _ _ _ _ _ _) ?_
  simp only [Lw_LineBest.j4, Bool.false_eq_true, if_false, up (show i < 4611686018427387904 by omega), cmp_kl h, hle, Option.bind_some]
  cases b with
  | true =>
   have hs : ∃ j : Nat, j < i + 1 ∧ rd ks (j : Int) = B := by
    obtain ⟨j, a, c⟩ := hb.1 rfl
    exact ⟨j, by omega, c⟩
   have := ih true (by simp [hs])
   by_cases q : kl l v tn td B (rd ks (i : Int))
   ·simp only [q, if_true, show ¬ (1 : Int) < 0 by decide, show ¬ (1 : Int) = 0 by decide, if_false]
    exact this
   ·simp only [q, if_false, if_true, show ¬ (0 : Int) < 0 by decide]
    exact this
  | false =>
   simp only [Bool.false_eq_true, if_false, show (0 : Int) ≤ (i : Int) by omega, show (i : Int) < (ks.length : Int) by omega, if_true]
   have hs : ((rd ks (i : Int) == B) = true ↔ ∃ j : Nat, j < i + 1 ∧ rd ks (j : Int) = B) := by
    rw [beq_iff_eq]
    constructor
    ·intro e; exact ⟨i, by omega, e⟩
    ·rintro ⟨j, a, c⟩
     by_cases q : j = i
     ·subst q; exact c
     ·have := hb.2 ⟨j, by omega, c⟩
      cases this
   have := ih _ hs
   by_cases q : kl l v tn td B (rd ks (i : Int))
   ·simp only [q, if_true, show ¬ (1 : Int) < 0 by decide, show ¬ (1 : Int) = 0 by decide, if_false]
    exact this
   ·have e : rd ks (i : Int) = B := by
     by_cases e : rd ks (i : Int) = B
     ·exact e
     ·exact absurd (hlt rfl e) q
    rw [e, beq_self_eq_true] at this
    simp only [show ¬ kl l v tn td B B from kl_irrefl, if_false, if_true, show ¬ (0 : Int) < 0 by decide, e, beq_self_eq_true]
    exact this
theorem LineBest_ev (l v : List Int) {tn td : Int} (ks : List Int) (hx : -9223372036854775808 ≤ tn ∧ tn ≤ 9223372036854775807) (hy : -9223372036854775808 ≤ td ∧ td ≤ 9223372036854775807) :
    Ev (fun k => Lw_LineBest.f k l v tn td ks) true := by
  unfold Lw_LineBest.f
  refine Ev.bind awake_ev ?_
  simp only [if_true]
  refine Ev.bind (light_ev l v hx hy) ?_
  have hj : ∀ c : Bool, (c = false → (l.length ≤ 20 ∧ v.length ≤ 20) ∧ ks.length ≤ 6) → Ev (fun k => Lw_LineBest.j0 k ks c l v tn td) true := fun c hc => by
    refine Ev.succ (f := fun k => Lw_LineBest.j0 k ks c l v tn td) ?_
    cases c with
    | true => simp only [Lw_LineBest.j0, if_true]; exact Ev.some
    | false =>
      obtain ⟨⟨a1, a2⟩, a3⟩ := hc rfl
      simp only [Lw_LineBest.j0, Bool.false_eq_true, if_false]
      rw [CopyCase_eq l v tn td (by omega) (by omega), CopyInts_eq ks (by omega)]
      simp only [Option.bind_some]
      refine Ev.bind (BestOf_ev l v ks (by omega) hx hy) ?_
      refine Ev.bind (CaseErr_ev l v hx hy) ?_
      by_cases z : beErr l v tn td ks = 0
      · obtain ⟨h, h1, hk⟩ := beErr_ok z
        have hz : ksErr ks = 0 := by unfold beErr at z; rw [if_pos h] at z; exact z
        simp only [z, h, if_true]
        refine Ev.bind (KindsErr_ev ks) ?_
        refine Ev.succ (f := fun k => Lw_LineBest.j1 k ks _ _ _ l v tn td _ _ _) ?_
        simp only [Lw_LineBest.j1, hz, if_true]
        refine Ev.bind (Best_ev h h1 hk) ?_
        simp only [if_true, beq_self_eq_true, Bool.not_true, Bool.or_self]
        refine Ev.succ (f := fun k => Lw_LineBest.j2 k ks _ _ l v tn td _ _ _) ?_
        simp only [Lw_LineBest.j2, Bool.false_eq_true, if_false]
        exact best_l0 h h1 hk hx hy (by omega) (bst l v tn td ks) rfl ks.length 0 false (by omega) (by simp)
      · by_cases h : cErr l v tn td = 0
        · have hz : ksErr ks = beErr l v tn td ks := by unfold beErr; rw [if_pos h]
          have hz' : ¬ ksErr ks = 0 := by rw [hz]; exact z
          simp only [← hz, hz', h, if_true, if_false]
          refine Ev.bind (KindsErr_ev ks) ?_
          refine Ev.succ (f := fun k => Lw_LineBest.j1 k ks _ _ _ l v tn td _ _ _) ?_
          simp only [Lw_LineBest.j1, hz', if_true, if_false, beq_self_eq_true, Bool.and_self]; exact Ev.some
        · have hz : beErr l v tn td ks = cErr l v tn td := by unfold beErr; rw [if_neg h]
          simp only [hz, h, if_false]
          refine Ev.succ (f := fun k => Lw_LineBest.j1 k ks _ _ _ l v tn td _ _ _) ?_
          simp only [Lw_LineBest.j1, h, if_true, if_false, beq_self_eq_true, Bool.and_self]; exact Ev.some
  by_cases hl : lightB l v tn td = true
  · simp only [hl, if_true]
    refine hj _ (fun hb => ⟨lightB_len hl, ?_⟩)
    simp only [decide_eq_false_iff_not] at hb
    omega
  · simp only [hl, if_false, Bool.false_eq_true]
    exact hj true (by simp)
theorem LineBest_pure (l : List Int) (_ : l.length ≤ maxLen) (_ : ∀ x ∈ l, (Lit.int .i64 x).wf = true) (v : List Int) (_ : v.length ≤ maxLen) (_ : ∀ x ∈ v, (Lit.int .i64 x).wf = true) (num : Int) (hx : (Lit.int .i64 num).wf = true) (den : Int) (hy : (Lit.int .i64 den).wf = true) (ks : List Int) (_ : ks.length ≤ maxLen) (_ : ∀ x ∈ ks, (Lit.int .i64 x).wf = true) :
  ∃ k, Lw_LineBest.f k l v num den ks = some true := (LineBest_ev l v ks (i64_in hx) (i64_in hy)).ex
end Go.Proofs.YtjnkphmcndaijaaDoor.P
