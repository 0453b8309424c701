/-
PLAIN LAW: what the walks compute answers as the statement says (no program in sight; Ev: from some number of rounds on).
-/
import Derived.Test.YtjnkphmcndaijaaDoorKep14
import Derived.Test.YtjnkphmcndaijaaDoorKep04
import Derived.Test.YtjnkphmcndaijaaDoorKep13
import Derived.Test.YtjnkphmcndaijaaDoorKep17
import Derived.Test.YtjnkphmcndaijaaDoorKep16
import Derived.Test.YtjnkphmcndaijaaDoorKep18
import Derived.Test.YtjnkphmcndaijaaDoorKep07
import Derived.Test.YtjnkphmcndaijaaDoorKep06
namespace Go.Proofs.YtjnkphmcndaijaaDoor.P
open Go Go.RowKit Go.Proofs.YtjnkphmcndaijaaDoor.A Go.Proofs.YtjnkphmcndaijaaDoorW.PrintWords Go.Proofs.YtjnkphmcndaijaaDoorW.PrintLast Go.Proofs.YtjnkphmcndaijaaDoorW.PrintMore
set_option linter.unusedSimpArgs false
set_option linter.unusedVariables false
/-- From some number of rounds on, f says r. -/
def Ev {α : Type} (f : Nat → Option α) (r : α) : Prop := ∃ k, ∀ j, k ≤ j → f j = some r

theorem Ev.some {α : Type} {r : α} : Ev (fun _ => Option.some r) r := ⟨0, fun _ _ => rfl⟩
theorem Ev.bind {α β : Type} {f : Nat → Option α} {g : Nat → α → Option β} {a : α} {b : β} (h : Ev f a) (h2 : Ev (fun k => g k a) b) : Ev (fun k => (f k).bind (g k)) b := by
 obtain ⟨k, hk⟩ := h
 obtain ⟨m, hm⟩ := h2
 exact ⟨max k m, fun j hj => by show (f j).bind (g j) = _; rw [hk j (by omega)]; exact hm j (by omega)⟩
theorem Ev.succ {α : Type} {f : Nat → Option α} {r : α} (h : Ev (fun k => f (k + 1)) r) : Ev f r := by
 obtain ⟨k, hk⟩ := h
 exact ⟨k + 1, fun j hj => by obtain ⟨m, rfl⟩ : ∃ m, j = m + 1 := ⟨j - 1, by omega⟩; exact hk m (by omega)⟩
theorem Ev.congr {α : Type} {f g : Nat → Option α} {r : α} (e : ∀ k, f k = g k) (h : Ev f r) : Ev g r := by
 obtain ⟨k, hk⟩ := h
 exact ⟨k, fun j hj => by rw [← e j]; exact hk j hj⟩
theorem Ev.ex {α : Type} {f : Nat → Option α} {r : α} (h : Ev f r) : ∃ k, f k = Option.some r := let ⟨k, hk⟩ := h; ⟨k, hk k (Nat.le_refl _)⟩
theorem Ev.of_mono {α : Type} {f : Nat → Option α} {r : α} (hm : ∀ k, LeO (f k) (f (k + 1))) {k : Nat} (h : f k = Option.some r) : Ev f r := by
  refine ⟨k, fun j hj => ?_⟩
  induction j with
  | zero => obtain rfl : k = 0 := by omega
            exact h
  | succ j ih =>
    by_cases e : k = j + 1
    · subst e; exact h
    · exact hm j r (ih (by omega))
theorem up {i : Nat} (h : i < 4611686018427387904) : wrap64 ((i : Int) + 1) = ((i + 1 : Nat) : Int) := by
 unfold wrap64; omega
theorem w64 {n : Int} (h : -9223372036854775808 ≤ n ∧ n ≤ 9223372036854775807) : wrap64 n = n := by unfold wrap64; omega
theorem rd_nat (l : List Int) (i : Nat) : rd l (i : Int) = l.getD i 0 := by unfold rd; simp
theorem drop_rd {l : List Int} {i : Nat} (h : i < l.length) : l.drop i = rd l (i : Int) :: l.drop (i + 1) := by
 rw [rd_nat, List.drop_eq_getElem_cons h]
 simp [List.getD_eq_getElem?_getD, h]

theorem mx_eq (a b : Int) : mx a b = max a b := by unfold mx; split <;> omega

theorem within_eq (a b c : Int) : line_within.f a b c = some (decide (b ≤ a ∧ a ≤ c)) := by
 unfold line_within.f
 by_cases h : b ≤ a <;> simp [h]
theorem Within_eq (a b c : Int) : Bs_Within.f a b c = some (decide (b ≤ a ∧ a ≤ c)) := by
 unfold Bs_Within.f
 by_cases h : b ≤ a <;> simp [h]
theorem unless_eq (b : Bool) (e : Int) : line_unless.f b e = some (if b = true then 0 else e) := by
 unfold line_unless.f
 cases b <;> simp
theorem Size_eq (a : Int) : Bs_Size.f a = some (mx a (wrap64 (-a))) := rfl
theorem short_eq (l : List Int) : Lw_short.f l = some (decide ((l.length : Int) ≤ 20)) := rfl

/-- The first number that is not 0. -/
def fnz : List Int → Int
 | [] => 0
 | x :: r => if x = 0 then fnz r else x

theorem first_l0 (l : List Int) (hl : l.length < 4611686018427387904) : ∀ (n i : Nat), i + n = l.length → Ev (fun k => line_first.l0 k l (l.length : Int) (i : Int)) (fnz (l.drop i))
 | 0, i, h => by
  refine Ev.succ (f := fun k => line_first.l0 k l (l.length : Int) (i : Int)) ?_
  have h1 : ¬ (i : Int) < (l.length : Int) := by omega
  simp only [line_first.l0, h1, if_false]
  rw [show l.drop i = [] from List.drop_eq_nil_of_le (by omega)]
  exact Ev.some
 | n + 1, i, h => by
  refine Ev.succ (f := fun k => line_first.l0 k l (l.length : Int) (i : Int)) ?_
  have h1 : (i : Int) < (l.length : Int) := by omega
  have h2 : (0 : Int) ≤ (i : Int) := by omega
  simp only [line_first.l0, h1, h2, if_true, up (show i < 4611686018427387904 by omega)]
  rw [drop_rd (show i < l.length by omega)]
  unfold fnz
  by_cases e : rd l (i : Int) = 0
  ·simp only [e, if_true]
   exact first_l0 l hl n (i + 1) (by omega)
  ·simp only [e, if_false]
   exact Ev.some
theorem first_ev (l : List Int) (hl : l.length < 4611686018427387904) : Ev (fun k => line_first.f k l) (fnz l) := first_l0 l hl l.length 0 (by omega)

/-- Not from 0 to m. -/
def bad (m x : Int) : Bool := !(decide (0 ≤ x) && decide (x ≤ m))
theorem within_bad (m x : Int) : decide (0 ≤ x ∧ x ≤ m) = !bad m x := by
 unfold bad; by_cases h : 0 ≤ x <;> by_cases h2 : x ≤ m <;> simp [h, h2]
/-- The index of the first one that is not within, or none; the number of the error. -/
def lErr (l : List Int) (n : Nat) (m : Int) : Int × Int :=
 if l.length = 0 then (0, 10) else if n < l.length then (0, 8) else
  if idxF (bad m) l ≥ 0 then (idxF (bad m) l, 2) else (0, 0)

theorem listErr_eq (l : List Int) (n : Nat) (m : Int) : line_listErr.f l (n : Int) m = some (lErr l n m) := by
 have hb : (fun x : Int => !(decide (0 ≤ x) && decide (x ≤ m))) = bad m := rfl
 unfold line_listErr.f lErr
 rw [hb]
 by_cases h0 : l.length = 0
 ·simp only [h0, if_true]
 ·by_cases h1 : n < l.length
  ·have h2 : (n : Int) < (l.length : Int) := by omega
   simp only [h0, h1, h2, if_true, if_false]
  ·have h2 : ¬ (n : Int) < (l.length : Int) := by omega
   simp only [h0, h1, h2, if_false]
   split <;> rfl
theorem lineCheckSpectrum_eq (l : List Int) : line_CheckSpectrum.f l = some (lErr l 16 10000) := by
 have h : line_listErr.f l 16 10000 = some (lErr l 16 10000) := listErr_eq l 16 10000
 unfold line_CheckSpectrum.f; rw [h]; rfl
theorem lineCheckNoise_eq (l : List Int) : line_CheckNoise.f l = some (lErr l 4 1000) := by
 have h : line_listErr.f l 4 1000 = some (lErr l 4 1000) := listErr_eq l 4 1000
 unfold line_CheckNoise.f; rw [h]; rfl

theorem idxF_nil (p : Int → Bool) : idxF p [] = -1 := rfl
theorem idxF_ge (p : Int → Bool) (l : List Int) : -1 ≤ idxF p l := by
 unfold idxF
 cases l.findIdx? p <;> simp <;> omega
theorem idxF_cons (p : Int → Bool) (a : Int) (r : List Int) : idxF p (a :: r) = if p a = true then 0 else if idxF p r ≥ 0 then idxF p r + 1 else -1 := by
  unfold idxF
  rw [List.findIdx?_cons]
  by_cases h : p a = true
  · simp [h]
  · simp only [h, if_false, Bool.false_eq_true]
    cases r.findIdx? p with
    | none => simp
    | some i => simp <;> omega

theorem refSpectrum_l0 (l : List Int) (hl : l.length < 4611686018427387904) : ∀ (n i : Nat), i + n = l.length →
  Ev (fun k => Rf_CheckSpectrum.l0 k l (i : Int)) (if idxF (bad 10000) (l.drop i) ≥ 0 then (idxF (bad 10000) (l.drop i) + i, 2) else (0, 0))
 | 0, i, h => by
  refine Ev.succ (f := fun k => Rf_CheckSpectrum.l0 k l (i : Int)) ?_
  have h1 : ¬ (i : Int) < (l.length : Int) := by omega
  simp only [Rf_CheckSpectrum.l0, h1, if_false]
  rw [show l.drop i = [] from List.drop_eq_nil_of_le (by omega), idxF_nil]
  exact Ev.some
 | n + 1, i, h => by
  refine Ev.succ (f := fun k => Rf_CheckSpectrum.l0 k l (i : Int)) ?_
  have h1 : (i : Int) < (l.length : Int) := by omega
  have h2 : (0 : Int) ≤ (i : Int) := by omega
  simp only [Rf_CheckSpectrum.l0, h1, h2, if_true, up (show i < 4611686018427387904 by omega), Within_eq, within_bad, Option.bind_some]
  rw [drop_rd (show i < l.length by omega), idxF_cons]
  cases e : bad 10000 (rd l (i : Int)) with
  | false =>
   simp only [e, Bool.not_false, if_true, Bool.false_eq_true, if_false]
   have ih := refSpectrum_l0 l hl n (i + 1) (by omega)
   have hg := idxF_ge (bad 10000) (l.drop (i + 1))
   by_cases q : idxF (bad 10000) (l.drop (i + 1)) ≥ 0
   ·simp only [q, if_true] at ih ⊢
    rw [if_pos (by omega), show idxF (bad 10000) (l.drop (i + 1)) + 1 + (i : Int) = idxF (bad 10000) (l.drop (i + 1)) + ((i + 1 : Nat) : Int) by omega]
    exact ih
   ·simp only [q, if_false] at ih ⊢
    exact ih
  | true =>
   simp only [e, Bool.not_true, Bool.false_eq_true, if_false, if_true]
   rw [if_pos (by omega), Int.zero_add]
   exact Ev.some
theorem refCheckSpectrum_ev (l : List Int) : Ev (fun k => Rf_CheckSpectrum.f k l) (lErr l 16 10000) := by
 unfold Rf_CheckSpectrum.f lErr
 by_cases h0 : l.length = 0
 ·have : (l.length : Int) = 0 := by omega
  simp only [h0, if_true]
  exact Ev.some
 ·have h0' : ¬ (l.length : Int) = 0 := by omega
  by_cases h1 : 16 < l.length
  ·have h2 : (l.length : Int) > 16 := by omega
   simp only [h0, h0', h1, h2, if_true, if_false]
   exact Ev.some
  ·have h2 : ¬ (l.length : Int) > 16 := by omega
   simp only [h0, h0', h1, h2, if_false]
   have := refSpectrum_l0 l (by omega) l.length 0 (by omega)
   simpa using this
theorem refNoise_l0 (l : List Int) (hl : l.length < 4611686018427387904) : ∀ (n i : Nat), i + n = l.length →
  Ev (fun k => Rf_CheckNoise.l0 k (i : Int) l) (if idxF (bad 1000) (l.drop i) ≥ 0 then (idxF (bad 1000) (l.drop i) + i, 2) else (0, 0))
 | 0, i, h => by
  refine Ev.succ (f := fun k => Rf_CheckNoise.l0 k (i : Int) l) ?_
  have h1 : ¬ (i : Int) < (l.length : Int) := by omega
  simp only [Rf_CheckNoise.l0, h1, if_false]
  rw [show l.drop i = [] from List.drop_eq_nil_of_le (by omega), idxF_nil]
  exact Ev.some
 | n + 1, i, h => by
  refine Ev.succ (f := fun k => Rf_CheckNoise.l0 k (i : Int) l) ?_
  have h1 : (i : Int) < (l.length : Int) := by omega
  have h2 : (0 : Int) ≤ (i : Int) := by omega
  simp only [Rf_CheckNoise.l0, h1, h2, if_true, up (show i < 4611686018427387904 by omega), Within_eq, within_bad, Option.bind_some]
  rw [drop_rd (show i < l.length by omega), idxF_cons]
  cases e : bad 1000 (rd l (i : Int)) with
  | false =>
   simp only [e, Bool.not_false, if_true, Bool.false_eq_true, if_false]
   have ih := refNoise_l0 l hl n (i + 1) (by omega)
   have hg := idxF_ge (bad 1000) (l.drop (i + 1))
   by_cases q : idxF (bad 1000) (l.drop (i + 1)) ≥ 0
   ·simp only [q, if_true] at ih ⊢
    rw [if_pos (by omega), show idxF (bad 1000) (l.drop (i + 1)) + 1 + (i : Int) = idxF (bad 1000) (l.drop (i + 1)) + ((i + 1 : Nat) : Int) by omega]
    exact ih
   ·simp only [q, if_false] at ih ⊢
    exact ih
  | true =>
   simp only [e, Bool.not_true, Bool.false_eq_true, if_false, if_true]
   rw [if_pos (by omega), Int.zero_add]
   exact Ev.some
theorem refCheckNoise_ev (l : List Int) : Ev (fun k => Rf_CheckNoise.f k l) (lErr l 4 1000) := by
 unfold Rf_CheckNoise.f lErr
 by_cases h0 : l.length = 0
 ·have : (l.length : Int) = 0 := by omega
  simp only [h0, if_true]
  exact Ev.some
 ·have h0' : ¬ (l.length : Int) = 0 := by omega
  by_cases h1 : 4 < l.length
  ·have h2 : (l.length : Int) > 4 := by omega
   simp only [h0, h0', h1, h2, if_true, if_false]
   exact Ev.some
  ·have h2 : ¬ (l.length : Int) > 4 := by omega
   simp only [h0, h0', h1, h2, if_false]
   have := refNoise_l0 l (by omega) l.length 0 (by omega)
   simpa using this
/-- What the program says for it (the one number without a positive twin stays as it is). -/
def gq (x y : Int) : Int := if Int.gcd x y = 9223372036854775808 then -9223372036854775808 else (Int.gcd x y : Int)

theorem size_abs {x : Int} (h : -9223372036854775808 ≤ x ∧ x ≤ 9223372036854775807) : mx x (wrap64 (-x)) = gq x 0 := by
 unfold gq
 rw [Int.gcd_zero_right]
 unfold mx wrap64
 by_cases e : x = -9223372036854775808
 ·subst e; rfl
 ·rw [if_neg (show ¬ x.natAbs = 9223372036854775808 by omega)]
  split <;> omega

theorem gcd_step (x y : Int) : gq y (x.tmod y) = gq x y := by
 have : Int.gcd y (x.tmod y) = Int.gcd x y := by
  show Nat.gcd y.natAbs (x.tmod y).natAbs = Nat.gcd x.natAbs y.natAbs
  rw [Int.natAbs_tmod, Nat.gcd_comm, ← Nat.gcd_rec, Nat.gcd_comm]
 unfold gq
 rw [this]

theorem tmod_in {x y : Int} (hx : -9223372036854775808 ≤ x ∧ x ≤ 9223372036854775807) (hy : -9223372036854775808 ≤ y ∧ y ≤ 9223372036854775807) (h0 : y ≠ 0) : (x.tmod y).natAbs < y.natAbs ∧ -9223372036854775808 ≤ x.tmod y ∧ x.tmod y ≤ 9223372036854775807 := by
 have h : (x.tmod y).natAbs < y.natAbs := by
  rw [Int.natAbs_tmod]
  exact Nat.mod_lt _ (by omega)
 omega

theorem gcd_l0 : ∀ (m : Nat) (x y : Int), y.natAbs ≤ m → (-9223372036854775808 ≤ x ∧ x ≤ 9223372036854775807) → (-9223372036854775808 ≤ y ∧ y ≤ 9223372036854775807) → Ev (fun k => Bs_Gcd.l0 k x y) (gq x y)
 | 0, x, y, h, hx, _ => by
  refine Ev.succ (f := fun k => Bs_Gcd.l0 k x y) ?_
  obtain rfl : y = 0 := by omega
  simp only [Bs_Gcd.l0, if_true, Size_eq, Option.bind_some, size_abs hx]
  exact Ev.some
 | m + 1, x, y, h, hx, hy => by
  refine Ev.succ (f := fun k => Bs_Gcd.l0 k x y) ?_
  by_cases h0 : y = 0
  ·subst h0
   simp only [Bs_Gcd.l0, if_true, Size_eq, Option.bind_some, size_abs hx]
   exact Ev.some
  ·simp only [Bs_Gcd.l0, h0, if_false]
   have ht := tmod_in hx hy h0
   rw [← gcd_step x y]
   exact gcd_l0 m y (x.tmod y) (by omega) hy ht.2
theorem gcd_ev {x y : Int} (hx : -9223372036854775808 ≤ x ∧ x ≤ 9223372036854775807) (hy : -9223372036854775808 ≤ y ∧ y ≤ 9223372036854775807) : Ev (fun k => Bs_Gcd.f k x y) (gq x y) := gcd_l0 _ x y (Nat.le_refl _) hx hy
theorem divisor_eq : ∀ (k : Nat) (x y : Int), line_divisor.l0 k x y = Bs_Gcd.l0 k x y
 | 0, _, _ => rfl
 | k + 1, x, y => by
  simp only [line_divisor.l0, Bs_Gcd.l0, divisor_eq k, Size_eq, Option.bind_some]
theorem divisor_ev {x y : Int} (hx : -9223372036854775808 ≤ x ∧ x ≤ 9223372036854775807) (hy : -9223372036854775808 ≤ y ∧ y ≤ 9223372036854775807) : Ev (fun k => line_divisor.f k x y) (gq x y) :=
 Ev.congr (f := fun k => Bs_Gcd.f k x y) (fun k => (divisor_eq k x y).symm) (gcd_ev hx hy)

def tErr (num den : Int) : Int := if den ≤ 0 then 3 else if gq num den = 1 then (if (-100 ≤ num ∧ num ≤ 100) ∧ den ≤ 100 then 0 else 2) else 3

theorem lowestErr_ev {num den : Int} (hx : -9223372036854775808 ≤ num ∧ num ≤ 9223372036854775807) (hy : -9223372036854775808 ≤ den ∧ den ≤ 9223372036854775807) :
    Ev (fun k => line_lowestErr.f k num den 100) (tErr num den) := by
  unfold line_lowestErr.f tErr
  have hj : ∀ b : Bool, Ev (fun k => line_lowestErr.j0 k 100 b num den) (if b = true then 3 else if (-100 ≤ num ∧ num ≤ 100) ∧ den ≤ 100 then 0 else 2) := fun b => by
    refine Ev.succ (f := fun k => line_lowestErr.j0 k 100 b num den) ?_
    cases b with
    | true => simp only [line_lowestErr.j0, if_true]; exact Ev.some
    | false =>
      simp only [line_lowestErr.j0, Bool.false_eq_true, if_false, within_eq, unless_eq, Option.bind_some, show wrap64 (-100) = -100 by unfold wrap64; omega]
      by_cases h1 : -100 ≤ num ∧ num ≤ 100
      · by_cases h2 : den ≤ 100
        · simp only [h1, h2, and_self, decide_true, if_true]; exact Ev.some
        · simp only [h1, h2, and_self, and_false, decide_true, decide_false, if_true, if_false, Bool.false_eq_true]; exact Ev.some
      · simp only [h1, decide_false, false_and, if_false, Bool.false_eq_true]; exact Ev.some
  by_cases h0 : den ≤ 0
  · simp only [h0, if_true]
    have := hj true
    simpa using this
  · simp only [h0, if_false]
    refine Ev.bind (divisor_ev hx hy) ?_
    refine cast ?_ (hj (gq num den != 1))
    congr 1
    by_cases h1 : gq num den = 1 <;> simp [h1]

theorem TruthErr_ev {num den : Int} (hx : -9223372036854775808 ≤ num ∧ num ≤ 9223372036854775807) (hy : -9223372036854775808 ≤ den ∧ den ≤ 9223372036854775807) :
  Ev (fun k => Rf_TruthErr.f k num den) (tErr num den) := by
 have h1 : Ev (fun k => Bs_IsLowest.f k num den) (decide (¬ den ≤ 0 ∧ gq num den = 1)) := by
  unfold Bs_IsLowest.f
  by_cases h0 : den ≤ 0
  ·simp only [show ¬ den > 0 by omega, if_false, h0, not_true, false_and, decide_false]
   exact Ev.some
  ·simp only [show den > 0 by omega, if_true, h0, not_false_iff, true_and]
   refine Ev.bind (gcd_ev hx hy) ?_
   by_cases e : gq num den = 1
   ·simp only [e]; exact Ev.some
   ·simp only [e, decide_false, show (gq num den == 1) = false from beq_eq_false_iff_ne.mpr e]; exact Ev.some
 have h2 : ∃ s : Int, Ev (fun k => Rf_FracErr.f k num den) s ∧ ((¬ den ≤ 0 ∧ gq num den = 1) → s = (if (-1000000000 ≤ num ∧ num ≤ 1000000000) ∧ 1 ≤ den ∧ den ≤ 1000000000 then 0 else 2)) ∧ (¬ (¬ den ≤ 0 ∧ gq num den = 1) → s = 3) := by
  unfold Rf_FracErr.f
  by_cases e : ¬ den ≤ 0 ∧ gq num den = 1
  ·refine ⟨if (-1000000000 ≤ num ∧ num ≤ 1000000000) ∧ 1 ≤ den ∧ den ≤ 1000000000 then 0 else 2, Ev.bind h1 ?_, fun _ => rfl, fun h => absurd e h⟩
   simp only [e, not_false_iff, and_self, decide_true, if_true, Bs_IsSmall.f, Within_eq, Option.bind_some]
   by_cases q : -1000000000 ≤ num ∧ num ≤ 1000000000
   ·by_cases r : 1 ≤ den ∧ den ≤ 1000000000
    ·simp only [q, r, and_self, decide_true, if_true, Option.bind_some]; exact Ev.some
    ·simp only [q, r, and_self, and_false, decide_true, decide_false, if_true, if_false, Bool.false_eq_true, Option.bind_some]; exact Ev.some
   ·simp only [q, false_and, decide_false, if_false, Bool.false_eq_true, Option.bind_some]; exact Ev.some
  ·refine ⟨3, Ev.bind h1 ?_, fun h => absurd h e, fun _ => rfl⟩
   simp only [e, decide_false, Bool.false_eq_true, if_false]; exact Ev.some
 obtain ⟨s, hs, ht, hf⟩ := h2
 unfold Rf_TruthErr.f
 refine Ev.bind hs ?_
 unfold tErr
 by_cases h0 : den ≤ 0
 ·rw [hf (fun h => h.1 h0)]
  simp only [h0, if_true, show ¬ (3 : Int) = 0 by decide, if_false]; exact Ev.some
 ·by_cases e : gq num den = 1
  ·rw [ht ⟨h0, e⟩]
   by_cases q : -100 ≤ num ∧ num ≤ 100
   ·by_cases r : den ≤ 100
    ·have : (-1000000000 ≤ num ∧ num ≤ 1000000000) ∧ 1 ≤ den ∧ den ≤ 1000000000 := by omega
     simp only [this, h0, e, q, r, show ¬ den > 100 by omega, and_self, if_true, if_false, Within_eq, Option.bind_some, decide_true]; exact Ev.some
    ·by_cases big : (-1000000000 ≤ num ∧ num ≤ 1000000000) ∧ 1 ≤ den ∧ den ≤ 1000000000
     ·simp only [big, h0, e, q, r, show den > 100 by omega, and_self, and_false, if_true, if_false, Within_eq, Option.bind_some, decide_true]; exact Ev.some
     ·simp only [big, h0, e, q, r, and_false, if_false, if_true, show ¬ (2 : Int) = 0 by decide]; exact Ev.some
   ·by_cases big : (-1000000000 ≤ num ∧ num ≤ 1000000000) ∧ 1 ≤ den ∧ den ≤ 1000000000
    ·simp only [big, h0, e, q, false_and, and_self, if_true, if_false, Within_eq, Option.bind_some, decide_false, Bool.false_eq_true]; exact Ev.some
    ·simp only [big, h0, e, q, false_and, if_false, if_true, show ¬ (2 : Int) = 0 by decide]; exact Ev.some
  ·rw [hf (fun h => e h.2)]
   simp only [h0, e, if_false, show ¬ (3 : Int) = 0 by decide]; exact Ev.some

theorem cases_l0 (v : List Int) (h1 : 1 ≤ v.length) (h4 : v.length ≤ 4) (n : Nat) (hn : n < 4611686018427387904) : ∀ (d i : Nat), i + d = n → v.length ^ i ≤ 4096 →
  Ev (fun k => line_cases.l0 k ((v.length ^ i : Nat) : Int) (n : Int) (i : Int) v) (if v.length ^ n ≤ 4096 then (((v.length ^ n : Nat) : Int), true) else (0, false))
 | 0, i, h, hp => by
  refine Ev.succ (f := fun k => line_cases.l0 k ((v.length ^ i : Nat) : Int) (n : Int) (i : Int) v) ?_
  obtain rfl : i = n := by omega
  simp only [line_cases.l0, show ¬ (i : Int) < (i : Int) by omega, if_false, hp, if_true]
  exact Ev.some
 | d + 1, i, h, hp => by
  refine Ev.succ (f := fun k => line_cases.l0 k ((v.length ^ i : Nat) : Int) (n : Int) (i : Int) v) ?_
  have e : ((v.length ^ i : Nat) : Int) * (v.length : Int) = ((v.length ^ (i + 1) : Nat) : Int) := by rw [Nat.pow_succ]; push_cast; rfl
  have hle : v.length ^ (i + 1) ≤ 4096 * 4 := by rw [Nat.pow_succ]; exact Nat.mul_le_mul hp h4
  simp only [line_cases.l0, show (i : Int) < (n : Int) by omega, if_true, e, w64 (n := ((v.length ^ (i + 1) : Nat) : Int)) (by omega), up (show i < 4611686018427387904 by omega)]
  by_cases q : v.length ^ (i + 1) ≤ 4096
  ·simp only [show ¬ ((v.length ^ (i + 1) : Nat) : Int) > 4096 by omega, if_false]
   exact cases_l0 v h1 h4 n hn d (i + 1) (by omega) q
  ·have : v.length ^ (i + 1) ≤ v.length ^ n := Nat.pow_le_pow_right h1 (by omega)
   rw [if_neg (show ¬ v.length ^ n ≤ 4096 by omega)]
   simp only [show ((v.length ^ (i + 1) : Nat) : Int) > 4096 by omega, if_true]
   exact Ev.some
theorem cases_ev (v : List Int) (h1 : 1 ≤ v.length) (h4 : v.length ≤ 4) (n : Nat) (hn : n < 4611686018427387904) :
  Ev (fun k => line_cases.f k v (n : Int)) (if v.length ^ n ≤ 4096 then (((v.length ^ n : Nat) : Int), true) else (0, false)) := by
 have := cases_l0 v h1 h4 n hn n 0 (by omega) (by simp)
 simpa [line_cases.f] using this
theorem Cases_l0 (v : List Int) (h1 : 1 ≤ v.length) (h4 : v.length ≤ 4) (n : Nat) (hn : n < 4611686018427387904) : ∀ (d i : Nat), i + d = n → v.length ^ i ≤ 4096 →
  Ev (fun k => Rf_Cases.l0 k (n : Int) ((v.length ^ i : Nat) : Int) (i : Int) v) (if v.length ^ n ≤ 4096 then ((v.length ^ n : Nat) : Int) else 4097)
 | 0, i, h, hp => by
  refine Ev.succ (f := fun k => Rf_Cases.l0 k (n : Int) ((v.length ^ i : Nat) : Int) (i : Int) v) ?_
  obtain rfl : i = n := by omega
  simp only [Rf_Cases.l0, show ¬ (i : Int) < (i : Int) by omega, if_false, hp, if_true]
  exact Ev.some
 | d + 1, i, h, hp => by
  refine Ev.succ (f := fun k => Rf_Cases.l0 k (n : Int) ((v.length ^ i : Nat) : Int) (i : Int) v) ?_
  have e : ((v.length ^ i : Nat) : Int) * (v.length : Int) = ((v.length ^ (i + 1) : Nat) : Int) := by rw [Nat.pow_succ]; push_cast; rfl
  have hle : v.length ^ (i + 1) ≤ 4096 * 4 := by rw [Nat.pow_succ]; exact Nat.mul_le_mul hp h4
  simp only [Rf_Cases.l0, show (i : Int) < (n : Int) by omega, if_true, e, w64 (n := ((v.length ^ (i + 1) : Nat) : Int)) (by omega), up (show i < 4611686018427387904 by omega)]
  by_cases q : v.length ^ (i + 1) ≤ 4096
  ·simp only [show ¬ ((v.length ^ (i + 1) : Nat) : Int) > 4096 by omega, if_false]
   exact Cases_l0 v h1 h4 n hn d (i + 1) (by omega) q
  ·have : v.length ^ (i + 1) ≤ v.length ^ n := Nat.pow_le_pow_right h1 (by omega)
   rw [if_neg (show ¬ v.length ^ n ≤ 4096 by omega)]
   simp only [show ((v.length ^ (i + 1) : Nat) : Int) > 4096 by omega, if_true]
   exact Ev.some
theorem Cases_ev (v : List Int) (h1 : 1 ≤ v.length) (h4 : v.length ≤ 4) (n : Nat) (hn : n < 4611686018427387904) :
  Ev (fun k => Rf_Cases.f k v (n : Int)) (if v.length ^ n ≤ 4096 then ((v.length ^ n : Nat) : Int) else 4097) := by
 have := Cases_l0 v h1 h4 n hn n 0 (by omega) (by simp)
 simpa [Rf_Cases.f] using this

def lmx : List Int → Int → Int
 | [], a => a
 | x :: r, a => lmx r (mx a x)
theorem max_l0 (l : List Int) (hl : l.length < 4611686018427387904) : ∀ (n i : Nat) (a : Int), i + n = l.length → Ev (fun k => slices_Max_int_int.l0 k l a (i : Int)) (lmx (l.drop i) a)
 | 0, i, a, h => by
  refine Ev.succ (f := fun k => slices_Max_int_int.l0 k l a (i : Int)) ?_
  simp only [slices_Max_int_int.l0, show ¬ (i : Int) < (l.length : Int) by omega, if_false]
  rw [show l.drop i = [] from List.drop_eq_nil_of_le (by omega)]
  exact Ev.some
 | n + 1, i, a, h => by
  refine Ev.succ (f := fun k => slices_Max_int_int.l0 k l a (i : Int)) ?_
  simp only [slices_Max_int_int.l0, show (i : Int) < (l.length : Int) by omega, show (0 : Int) ≤ (i : Int) by omega, if_true, up (show i < 4611686018427387904 by omega)]
  rw [drop_rd (show i < l.length by omega)]
  exact max_l0 l hl n (i + 1) _ (by omega)
theorem max_ev (l : List Int) (h0 : 0 < l.length) (hl : l.length < 4611686018427387904) : Ev (fun k => slices_Max_int_int.f k l) (lmx (l.drop 1) (rd l 0)) := by
 unfold slices_Max_int_int.f
 simp only [show ¬ (l.length : Int) < 1 by omega, show (0 : Int) < (l.length : Int) by omega, if_true, if_false]
 exact max_l0 l hl (l.length - 1) 1 _ (by omega)
theorem lmx_le : ∀ (l : List Int) (a b : Int), lmx l a ≤ b ↔ a ≤ b ∧ ∀ x ∈ l, x ≤ b
 | [], a, b => by simp [lmx]
 | x :: r, a, b => by
  rw [lmx, lmx_le r, mx_eq]
  simp only [List.mem_cons, forall_eq_or_imp]
  constructor
  ·rintro ⟨h, h2⟩; exact ⟨by omega, by omega, h2⟩
  ·rintro ⟨h, h2, h3⟩; exact ⟨by omega, h3⟩
theorem max_le (l : List Int) (h0 : 0 < l.length) (b : Int) : lmx (l.drop 1) (rd l 0) ≤ b ↔ ∀ x ∈ l, x ≤ b := by
 rw [lmx_le]
 have e := drop_rd (l := l) (i := 0) h0
 simp only [List.drop_zero, Nat.zero_add] at e
 constructor
 ·rintro ⟨h1, h2⟩ x hx
  rw [e] at hx
  rcases List.mem_cons.1 hx with rfl | hx
  ·exact h1
  ·exact h2 x hx
 ·intro h
  exact ⟨h _ (by rw [e]; exact List.mem_cons_self), fun x hx => h x (List.mem_of_mem_drop hx)⟩

def cErr (l v : List Int) (num den : Int) : Int :=
 if (lErr l 16 10000).2 = 0 then (if (lErr v 4 1000).2 = 0 then (if l.all (fun x => decide (x ≤ 9000)) = true then (if v.length ^ l.length ≤ 4096 then tErr num den else 8) else 2) else (lErr v 4 1000).2) else (lErr l 16 10000).2

theorem lErr_len {l : List Int} {n : Nat} {m : Int} (h : (lErr l n m).2 = 0) : 1 ≤ l.length ∧ l.length ≤ n := by
 unfold lErr at h
 by_cases h0 : l.length = 0
 ·simp [h0] at h
 ·by_cases h1 : n < l.length
  ·simp [h0, h1] at h
  ·omega
theorem CheckCase_ev (l v : List Int) {num den : Int} (hx : -9223372036854775808 ≤ num ∧ num ≤ 9223372036854775807) (hy : -9223372036854775808 ≤ den ∧ den ≤ 9223372036854775807) :
  Ev (fun k => line_CheckCase.f k l v num den) (cErr l v num den) := by
 unfold line_CheckCase.f cErr
 rw [lineCheckSpectrum_eq, lineCheckNoise_eq]
 simp only [Option.bind_some]
 refine Ev.bind (first_ev _ (by simp)) ?_
 by_cases h1 : (lErr l 16 10000).2 = 0
 ·by_cases h2 : (lErr v 4 1000).2 = 0
  ·obtain ⟨l1, l2⟩ := lErr_len h1
   obtain ⟨v1, v2⟩ := lErr_len h2
   simp only [h1, h2, fnz, if_true]
   refine Ev.bind (cases_ev v v1 v2 l.length (by omega)) ?_
   refine Ev.bind (max_ev l (by omega) (by omega)) ?_
   simp only [unless_eq, Option.bind_some]
   refine Ev.bind (lowestErr_ev hx hy) ?_
   refine Ev.bind (first_ev _ (by simp)) ?_
   have hm := max_le l (by omega) 9000
   by_cases a : l.all (fun x => decide (x ≤ 9000)) = true
   ·have a' : lmx (l.drop 1) (rd l 0) ≤ 9000 := hm.2 (by simpa using a)
    by_cases c : v.length ^ l.length ≤ 4096
    ·simp only [a, a', c, fnz, decide_true, if_true]
     by_cases t : tErr num den = 0
     ·simp only [t, if_true]; exact Ev.some
     ·simp only [t, if_false]; exact Ev.some
    ·simp only [a, a', c, fnz, decide_true, if_true, if_false, Bool.false_eq_true, show ¬ (8 : Int) = 0 by decide]; exact Ev.some
   ·have a' : ¬ lmx (l.drop 1) (rd l 0) ≤ 9000 := fun h => a (by simpa using hm.1 h)
    simp only [a, a', fnz, decide_false, if_false, Bool.false_eq_true, show ¬ (2 : Int) = 0 by decide]; exact Ev.some
  ·simp only [h1, h2, fnz, if_true, if_false]; exact Ev.some
 ·simp only [h1, fnz, if_false]; exact Ev.some

theorem CaseErr_l0 (l v : List Int) (v1 : 1 ≤ v.length) (v4 : v.length ≤ 4) (hl : l.length < 4611686018427387904) {num den : Int} (hx : -9223372036854775808 ≤ num ∧ num ≤ 9223372036854775807) (hy : -9223372036854775808 ≤ den ∧ den ≤ 9223372036854775807) :
  ∀ (n i : Nat), i + n = l.length → Ev (fun k => Rf_CaseErr.l0 k (i : Int) l v num den) (if (l.drop i).all (fun x => decide (x ≤ 9000)) = true then (if v.length ^ l.length ≤ 4096 then tErr num den else 8) else 2)
 | 0, i, h => by
  refine Ev.succ (f := fun k => Rf_CaseErr.l0 k (i : Int) l v num den) ?_
  simp only [Rf_CaseErr.l0, show ¬ (i : Int) < (l.length : Int) by omega, if_false]
  rw [show l.drop i = [] from List.drop_eq_nil_of_le (by omega)]
  refine Ev.bind (Cases_ev v v1 v4 l.length hl) ?_
  by_cases c : v.length ^ l.length ≤ 4096
  ·simp only [c, if_true, List.all_nil, show ¬ ((v.length ^ l.length : Nat) : Int) > 4096 by omega, if_false]
   exact Ev.bind (TruthErr_ev hx hy) Ev.some
  ·simp only [c, if_true, if_false, List.all_nil, show (4097 : Int) > 4096 by decide]; exact Ev.some
 | n + 1, i, h => by
  refine Ev.succ (f := fun k => Rf_CaseErr.l0 k (i : Int) l v num den) ?_
  simp only [Rf_CaseErr.l0, show (i : Int) < (l.length : Int) by omega, show (0 : Int) ≤ (i : Int) by omega, if_true, up (show i < 4611686018427387904 by omega)]
  rw [drop_rd (show i < l.length by omega), List.all_cons]
  by_cases e : rd l (i : Int) ≤ 9000
  ·simp only [e, decide_true, Bool.true_and, show ¬ rd l (i : Int) > 9000 by omega, if_false]
   exact CaseErr_l0 l v v1 v4 hl hx hy n (i + 1) (by omega)
  ·simp only [e, decide_false, Bool.false_and, show rd l (i : Int) > 9000 by omega, if_true, Bool.false_eq_true, if_false]; exact Ev.some
theorem CaseErr_ev (l v : List Int) {num den : Int} (hx : -9223372036854775808 ≤ num ∧ num ≤ 9223372036854775807) (hy : -9223372036854775808 ≤ den ∧ den ≤ 9223372036854775807) :
  Ev (fun k => Rf_CaseErr.f k l v num den) (cErr l v num den) := by
 have hS : Ev (fun k => Rf_SpectrumErr.f k l) (lErr l 16 10000).2 := Ev.bind (refCheckSpectrum_ev l) Ev.some
 have hN : Ev (fun k => Rf_NoiseErr.f k v) (lErr v 4 1000).2 := Ev.bind (refCheckNoise_ev v) Ev.some
 unfold Rf_CaseErr.f cErr
 refine Ev.bind hS ?_
 by_cases h1 : (lErr l 16 10000).2 = 0
 ·simp only [h1, if_true]
  refine Ev.bind hN ?_
  by_cases h2 : (lErr v 4 1000).2 = 0
  ·obtain ⟨l1, l2⟩ := lErr_len h1
   obtain ⟨v1, v2⟩ := lErr_len h2
   simp only [h2, if_true]
   have := CaseErr_l0 l v v1 v2 (by omega) hx hy l.length 0 (by omega)
   simpa using this
  ·simp only [h2, if_false]; exact Ev.some
 ·simp only [h1, if_false]; exact Ev.some
def nzF (v : List Int) : List Int → Int → List Int
 | [], _ => []
 | x :: r, j => wrap64 (x + rd v (Int.tmod j (v.length : Int))) :: nzF v r (Int.tdiv j (v.length : Int))
theorem nzF_length (v : List Int) : ∀ (l : List Int) (j : Int), (nzF v l j).length = l.length
 | [], _ => rfl
 | _ :: r, j => by simp [nzF, nzF_length v r]

theorem digit_in {j m : Int} (h0 : 0 ≤ j) (h1 : 1 ≤ m) : 0 ≤ Int.tmod j m ∧ Int.tmod j m < m ∧ 0 ≤ Int.tdiv j m ∧ Int.tdiv j m ≤ j := by
 rw [Int.tmod_eq_emod_of_nonneg h0, Int.tdiv_eq_ediv_of_nonneg h0]
 exact ⟨Int.emod_nonneg _ (by omega), Int.emod_lt_of_pos _ (by omega), Int.ediv_nonneg h0 (by omega), Int.ediv_le_self _ h0⟩

theorem noisy_l0 (l v : List Int) (v1 : 1 ≤ v.length) (hl : l.length < 17592186044416) : ∀ (n i : Nat) (j : Int) (acc : List Int), i + n = l.length → 0 ≤ j → j < 9223372036854775808 → acc.length = i →
  Ev (fun k => line_noisy.l0 k j acc l (l.length : Int) (i : Int) v) (acc ++ nzF v (l.drop i) j)
 | 0, i, j, acc, h, _, _, _ => by
  refine Ev.succ (f := fun k => line_noisy.l0 k j acc l (l.length : Int) (i : Int) v) ?_
  simp only [line_noisy.l0, show ¬ (i : Int) < (l.length : Int) by omega, if_false]
  rw [show l.drop i = [] from List.drop_eq_nil_of_le (by omega), nzF, List.append_nil]
  exact Ev.some
 | n + 1, i, j, acc, h, h0, hj, ha => by
  refine Ev.succ (f := fun k => line_noisy.l0 k j acc l (l.length : Int) (i : Int) v) ?_
  obtain ⟨d1, d2, d3, d4⟩ := digit_in (m := (v.length : Int)) h0 (by omega)
  simp only [line_noisy.l0, show (i : Int) < (l.length : Int) by omega, show (0 : Int) ≤ (i : Int) by omega, show ¬ (v.length : Int) = 0 by omega, d1, d2, show acc.length < 17592186044416 by omega, if_true, if_false, up (show i < 4611686018427387904 by omega), w64 (n := Int.tdiv j (v.length : Int)) (by omega)]
  rw [drop_rd (show i < l.length by omega), nzF, List.append_cons acc _ (nzF v (l.drop (i + 1)) _)]
  exact noisy_l0 l v v1 hl n (i + 1) _ (acc ++ [wrap64 (rd l (i : Int) + rd v (Int.tmod j (v.length : Int)))]) (by omega) d3 (by omega) (by rw [List.length_append, ha]; rfl)
theorem noisy_ev (l v : List Int) (v1 : 1 ≤ v.length) (hl : l.length < 17592186044416) (j : Int) (h0 : 0 ≤ j) (hj : j < 9223372036854775808) : Ev (fun k => line_noisy.f k l v j) (nzF v l j) := by
 have := noisy_l0 l v v1 hl l.length 0 j [] (by omega) h0 hj rfl
 simpa [line_noisy.f] using this
theorem Noisy_l0 (l v : List Int) (v1 : 1 ≤ v.length) (hl : l.length < 17592186044416) : ∀ (n i : Nat) (j : Int) (acc : List Int), i + n = l.length → 0 ≤ j → j < 9223372036854775808 → acc.length = i →
  Ev (fun k => Rf_Noisy.l0 k l j acc (i : Int) v) (acc ++ nzF v (l.drop i) j)
 | 0, i, j, acc, h, _, _, _ => by
  refine Ev.succ (f := fun k => Rf_Noisy.l0 k l j acc (i : Int) v) ?_
  simp only [Rf_Noisy.l0, show ¬ (i : Int) < (l.length : Int) by omega, if_false]
  rw [show l.drop i = [] from List.drop_eq_nil_of_le (by omega), nzF, List.append_nil]
  exact Ev.some
 | n + 1, i, j, acc, h, h0, hj, ha => by
  refine Ev.succ (f := fun k => Rf_Noisy.l0 k l j acc (i : Int) v) ?_
  obtain ⟨d1, d2, d3, d4⟩ := digit_in (m := (v.length : Int)) h0 (by omega)
  simp only [Rf_Noisy.l0, show (i : Int) < (l.length : Int) by omega, show (0 : Int) ≤ (i : Int) by omega, show ¬ (v.length : Int) = 0 by omega, d1, d2, show acc.length < 17592186044416 by omega, if_true, if_false, up (show i < 4611686018427387904 by omega), w64 (n := Int.tdiv j (v.length : Int)) (by omega)]
  rw [drop_rd (show i < l.length by omega), nzF, List.append_cons acc _ (nzF v (l.drop (i + 1)) _)]
  exact Noisy_l0 l v v1 hl n (i + 1) _ (acc ++ [wrap64 (rd l (i : Int) + rd v (Int.tmod j (v.length : Int)))]) (by omega) d3 (by omega) (by rw [List.length_append, ha]; rfl)
theorem Noisy_ev (l v : List Int) (v1 : 1 ≤ v.length) (hl : l.length < 17592186044416) (j : Int) (h0 : 0 ≤ j) (hj : j < 9223372036854775808) : Ev (fun k => Rf_Noisy.f k l v j) (nzF v l j) := by
 have := Noisy_l0 l v v1 hl l.length 0 j [] (by omega) h0 hj rfl
 simpa [Rf_Noisy.f] using this

theorem max106_l0 (l : List Int) (hl : l.length < 4611686018427387904) : ∀ (n i : Nat) (a : Int), i + n = l.length → Ev (fun k => Sp_int_106.l0 k l a (i : Int)) (lmx (l.drop i) a)
 | 0, i, a, h => by
  refine Ev.succ (f := fun k => Sp_int_106.l0 k l a (i : Int)) ?_
  simp only [Sp_int_106.l0, show ¬ (i : Int) < (l.length : Int) by omega, if_false]
  rw [show l.drop i = [] from List.drop_eq_nil_of_le (by omega)]
  exact Ev.some
 | n + 1, i, a, h => by
  refine Ev.succ (f := fun k => Sp_int_106.l0 k l a (i : Int)) ?_
  simp only [Sp_int_106.l0, show (i : Int) < (l.length : Int) by omega, show (0 : Int) ≤ (i : Int) by omega, if_true, up (show i < 4611686018427387904 by omega)]
  rw [drop_rd (show i < l.length by omega)]
  exact max106_l0 l hl n (i + 1) _ (by omega)
/-- The greatest number of a list. -/
def lmax (l : List Int) : Int := lmx (l.drop 1) (rd l 0)
theorem max106_ev (l : List Int) (h0 : 0 < l.length) (hl : l.length < 4611686018427387904) : Ev (fun k => Sp_int_106.f k l) (lmax l) := by
 unfold Sp_int_106.f
 simp only [show ¬ (l.length : Int) < 1 by omega, show (0 : Int) < (l.length : Int) by omega, if_true, if_false]
 exact max106_l0 l hl (l.length - 1) 1 _ (by omega)
theorem lmax_le (l : List Int) (h0 : 0 < l.length) (b : Int) : lmax l ≤ b ↔ ∀ x ∈ l, x ≤ b := max_le l h0 b
theorem lmx_mem : ∀ (l : List Int) (a : Int), lmx l a = a ∨ lmx l a ∈ l
 | [], a => .inl rfl
 | x :: r, a => by
  rw [lmx]
  rcases lmx_mem r (mx a x) with h | h
  ·rw [h]
   unfold mx
   split
   ·exact .inr List.mem_cons_self
   ·exact .inl rfl
  ·exact .inr (List.mem_cons_of_mem _ h)
theorem lmax_mem (l : List Int) (h0 : 0 < l.length) : lmax l ∈ l := by
 have e := drop_rd (l := l) (i := 0) h0
 simp only [List.drop_zero, Nat.zero_add] at e
 rcases lmx_mem (l.drop 1) (rd l 0) with h | h
 ·unfold lmax; rw [h]; rw [e]; exact List.mem_cons_self
 ·exact List.mem_of_mem_drop h
theorem rd_mem {l : List Int} {i : Nat} (h : i < l.length) : rd l (i : Int) ∈ l := by
 rw [rd_nat, List.getD_eq_getElem?_getD, List.getElem?_eq_getElem h]; exact List.getElem_mem h
theorem mem_rd {l : List Int} {x : Int} (h : x ∈ l) : ∃ i : Nat, i < l.length ∧ rd l (i : Int) = x := by
 obtain ⟨i, hi, e⟩ := List.getElem_of_mem h
 exact ⟨i, hi, by rw [rd_nat, List.getD_eq_getElem?_getD, List.getElem?_eq_getElem hi]; exact e⟩

/-- Line i is as great as any. -/
def pk (l : List Int) (i : Nat) : Bool := l.all fun x => decide (x ≤ rd l (i : Int))
def peaksFrom (l : List Int) : Nat → Nat → List Int
 | 0, _ => []
 | n + 1, i => if pk l i = true then (i : Int) :: peaksFrom l n (i + 1) else peaksFrom l n (i + 1)
theorem mem_peaksFrom (l : List Int) : ∀ (n i : Nat) (p : Int), p ∈ peaksFrom l n i ↔ ∃ q : Nat, p = (q : Int) ∧ i ≤ q ∧ q < i + n ∧ pk l q = true
  | 0, i, p => by simp [peaksFrom]; omega
  | n + 1, i, p => by
    rw [peaksFrom]
    by_cases h : pk l i = true
    · rw [if_pos h, List.mem_cons, mem_peaksFrom l n (i + 1)]
      constructor
      · rintro (rfl | ⟨q, rfl, a, b, c⟩)
        · exact ⟨i, rfl, by omega, by omega, h⟩
        · exact ⟨q, rfl, by omega, by omega, c⟩
      · rintro ⟨q, rfl, a, b, c⟩
        by_cases e : q = i
        · subst e; exact .inl rfl
        · exact .inr ⟨q, rfl, by omega, by omega, c⟩
    · rw [if_neg h, mem_peaksFrom l n (i + 1)]
      constructor
      · rintro ⟨q, rfl, a, b, c⟩; exact ⟨q, rfl, by omega, by omega, c⟩
      · rintro ⟨q, rfl, a, b, c⟩
        exact ⟨q, rfl, by rcases Nat.lt_or_ge i q with h' | h'; exact h'; obtain rfl : q = i := by omega
                          exact absurd c h, by omega, c⟩

theorem Peaks_l1 (l : List Int) (hl : l.length < 17592186044416) (acc : List Int) (i : Nat) (hi : i < l.length) (ha : acc.length ≤ i) (R : List Int → List Int)
    (hnext : ∀ acc' : List Int, acc'.length ≤ i + 1 → Ev (fun k => Rf_Peaks.l0 k l acc' ((i + 1 : Nat) : Int)) (R acc')) : ∀ (n j : Nat) (b : Bool), j + n = l.length →
    Ev (fun k => Rf_Peaks.l1 k l acc (i : Int) b (j : Int)) (R (if (b && (l.drop j).all fun x => decide (x ≤ rd l (i : Int))) = true then acc ++ [(i : Int)] else acc))
  | 0, j, b, h => by
    refine Ev.succ (f := fun k => Rf_Peaks.l1 k l acc (i : Int) b (j : Int)) ?_
    simp only [Rf_Peaks.l1, show ¬ (j : Int) < (l.length : Int) by omega, if_false, up (show i < 4611686018427387904 by omega), show acc.length < 17592186044416 by omega, if_true]
    rw [show l.drop j = [] from List.drop_eq_nil_of_le (by omega), List.all_nil, Bool.and_true]
    cases b with
    | true => simp only [if_true]; exact hnext _ (by simp; omega)
    | false => simp only [Bool.false_eq_true, if_false]; exact hnext _ (by omega)
  | n + 1, j, b, h => by
    refine Ev.succ (f := fun k => Rf_Peaks.l1 k l acc (i : Int) b (j : Int)) ?_
    simp only [Rf_Peaks.l1, show (j : Int) < (l.length : Int) by omega, show (0 : Int) ≤ (j : Int) by omega, show (0 : Int) ≤ (i : Int) by omega, show (i : Int) < (l.length : Int) by omega, if_true, up (show j < 4611686018427387904 by omega)]
    rw [drop_rd (show j < l.length by omega), List.all_cons]
    cases b with
    | true =>
      simp only [if_true, Bool.true_and]
      exact Peaks_l1 l hl acc i hi ha R hnext n (j + 1) _ (by omega)
    | false =>
      simp only [Bool.false_eq_true, if_false, Bool.false_and]
      have := Peaks_l1 l hl acc i hi ha R hnext n (j + 1) false (by omega)
      simpa using this
theorem Peaks_l0 (l : List Int) (hl : l.length < 17592186044416) : ∀ (n i : Nat) (acc : List Int), i + n = l.length → acc.length ≤ i →
  Ev (fun k => Rf_Peaks.l0 k l acc (i : Int)) (acc ++ peaksFrom l n i)
 | 0, i, acc, h, ha => by
  refine Ev.succ (f := fun k => Rf_Peaks.l0 k l acc (i : Int)) ?_
  simp only [Rf_Peaks.l0, show ¬ (i : Int) < (l.length : Int) by omega, if_false, peaksFrom, List.append_nil]
  exact Ev.some
 | n + 1, i, acc, h, ha => by
  refine Ev.succ (f := fun k => Rf_Peaks.l0 k l acc (i : Int)) ?_
  simp only [Rf_Peaks.l0, show (i : Int) < (l.length : Int) by omega, if_true]
  have := Peaks_l1 l hl acc i (by omega) ha (fun a => a ++ peaksFrom l n (i + 1)) (fun acc' h' => Peaks_l0 l hl n (i + 1) acc' (by omega) h') l.length 0 true (by omega)
  rw [peaksFrom]
  simp only [Bool.true_and, List.drop_zero] at this
  by_cases q : pk l i = true
  ·have q' : (l.all fun x => decide (x ≤ rd l (i : Int))) = true := q
   rw [if_pos q]
   rw [if_pos q'] at this
   simpa using this
  ·have q' : ¬ (l.all fun x => decide (x ≤ rd l (i : Int))) = true := q
   rw [if_neg q]
   rw [if_neg q'] at this
   simpa using this
/-- All peaks. -/
def peaks (l : List Int) : List Int := peaksFrom l l.length 0
theorem Peaks_ev (l : List Int) (hl : l.length < 17592186044416) : Ev (fun k => Rf_Peaks.f k l) (peaks l) := by
 have := Peaks_l0 l hl l.length 0 [] (by omega) (by simp)
 simpa [Rf_Peaks.f, peaks] using this
theorem peaks_cons (l : List Int) (h0 : 0 < l.length) : ∃ (p : Nat) (r : List Int), peaks l = (p : Int) :: r ∧ p < l.length ∧ rd l (p : Int) = lmax l := by
  obtain ⟨i, hi, e⟩ := mem_rd (lmax_mem l h0)
  have hmem : (i : Int) ∈ peaks l := (mem_peaksFrom l _ _ _).2 ⟨i, rfl, by omega, by omega, by unfold pk; rw [e]; simpa using (lmax_le l h0 _).1 (Int.le_refl _)⟩
  cases hp : peaks l with
  | nil => rw [hp] at hmem; cases hmem
  | cons p r =>
    obtain ⟨q, rfl, _, hq, hk⟩ := (mem_peaksFrom l _ _ p).1 (by show p ∈ peaks l; rw [hp]; exact List.mem_cons_self)
    refine ⟨q, r, rfl, by omega, ?_⟩
    have h1 : lmax l ≤ rd l (q : Int) := (lmax_le l h0 _).2 (by simpa [pk] using hk)
    have h2 : rd l (q : Int) ≤ lmax l := (lmax_le l h0 _).1 (Int.le_refl _) _ (rd_mem (by omega))
    omega
theorem Peak_ev (l : List Int) (h0 : 0 < l.length) (hl : l.length < 17592186044416) : ∃ p : Nat, p < l.length ∧ rd l (p : Int) = lmax l ∧ Ev (fun k => Rf_Peak.f k l) (p : Int) := by
 obtain ⟨p, r, e, hp, hr⟩ := peaks_cons l h0
 refine ⟨p, hp, hr, ?_⟩
 unfold Rf_Peak.f
 refine Ev.bind (Peaks_ev l hl) ?_
 rw [e]
 simp only [List.length_cons, show (0 : Int) < ((r.length + 1 : Nat) : Int) by omega, if_true]
 exact Ev.some

/-- How many of the first N meet P. -/
def cntUp (P : Nat → Bool) : Nat → Nat
 | 0 => 0
 | N + 1 => cntUp P N + (if P N = true then 1 else 0)
theorem cntUp_le (P : Nat → Bool) : ∀ N, cntUp P N ≤ N
 | 0 => Nat.le_refl _
 | N + 1 => by have := cntUp_le P N; unfold cntUp; split <;> omega
/-- Case j has a power of at least t. -/
def hit (l v : List Int) (t : Int) (j : Nat) : Bool := decide (t ≤ lmax (nzF v l (j : Int)))
/-- A fraction in lowest terms, as both say it. -/
def frac (a b : Int) : Int × Int := (wrap64 (Int.tdiv a (gq a b)), wrap64 (Int.tdiv b (gq a b)))
theorem gq_pos {a b : Int} (ha : 0 ≤ a ∧ a ≤ 1000000) (hb : 0 < b ∧ b ≤ 1000000) : 0 < gq a b := by
 have h1 : Int.gcd a b ≤ b.natAbs := Nat.le_of_dvd (by omega) (Nat.gcd_dvd_right _ _)
 have h2 : 0 < Int.gcd a b := Int.gcd_pos_of_ne_zero_right _ (by omega)
 unfold gq
 rw [if_neg (by omega)]
 omega
theorem fraction_ev {a b : Int} (ha : -9223372036854775808 ≤ a ∧ a ≤ 9223372036854775807) (hb : -9223372036854775808 ≤ b ∧ b ≤ 9223372036854775807) (h0 : gq a b ≠ 0) : Ev (fun k => line_fraction.f k a b) (frac a b) := by
 unfold line_fraction.f
 refine Ev.bind (divisor_ev ha hb) ?_
 simp only [h0, if_false]
 exact Ev.some
theorem Lowest_ev {a b : Int} (ha : -9223372036854775808 ≤ a ∧ a ≤ 9223372036854775807) (hb : 0 ≤ b ∧ b ≤ 9223372036854775807) (h0 : gq a b ≠ 0) : Ev (fun k => Bs_Lowest.f k a b) (frac a b) := by
 unfold Bs_Lowest.f
 refine Ev.bind (gcd_ev ha (by omega)) ?_
 simp only [show ¬ b < 0 by omega, h0, if_false]
 exact Ev.some

theorem rate_iter (l v : List Int) (t : Int) (l1 : 1 ≤ l.length) (hl : l.length < 17592186044416) (v1 : 1 ≤ v.length) : ∀ N : Nat, N ≤ 1000000 →
  Ev (fun k => iterN (line_rate.step k l v t) N (0, 0)) (((cntUp (hit l v t) N : Nat) : Int), (N : Int))
 | 0, _ => Ev.some
 | N + 1, h => by
  have ih := rate_iter l v t l1 hl v1 N (by omega)
  have hc := cntUp_le (hit l v t) N
  have hn := nzF_length v l (N : Int)
  show Ev (fun k => (iterN (line_rate.step k l v t) N (0, 0)).bind (line_rate.step k l v t N)) _
  refine Ev.bind ih ?_
  unfold line_rate.step
  refine Ev.bind (noisy_ev l v v1 hl (N : Int) (by omega) (by omega)) ?_
  refine Ev.bind (max106_ev (nzF v l (N : Int)) (by omega) (by omega)) ?_
  rw [cntUp]
  have e1 : wrap64 ((N : Int) + 1) = ((N + 1 : Nat) : Int) := up (by omega)
  by_cases q : t ≤ lmax (nzF v l (N : Int))
  ·have q' : hit l v t N = true := by simpa [hit] using q
   simp only [q, q', if_true, e1, up (show cntUp (hit l v t) N < 4611686018427387904 by omega)]
   exact Ev.some
  ·have q' : ¬ hit l v t N = true := by simpa [hit] using q
   simp only [q, q', if_false, e1, Nat.add_zero]
   exact Ev.some
theorem rate_ev (l v : List Int) (t : Int) (l1 : 1 ≤ l.length) (hl : l.length < 17592186044416) (v1 : 1 ≤ v.length) (v4 : v.length ≤ 4) (hc : v.length ^ l.length ≤ 4096) :
  Ev (fun k => line_rate.f k l v t) (frac ((cntUp (hit l v t) (v.length ^ l.length) : Nat) : Int) ((v.length ^ l.length : Nat) : Int)) := by
 have h0 : 0 < v.length ^ l.length := Nat.pow_pos (by omega)
 have hu := cntUp_le (hit l v t) (v.length ^ l.length)
 unfold line_rate.f
 refine Ev.bind (cases_ev v v1 v4 l.length (by omega)) ?_
 simp only [hc, if_true, show (0 : Int) ≤ ((v.length ^ l.length : Nat) : Int) by omega, show ((v.length ^ l.length : Nat) : Int) ≤ 1000000 by omega, Int.toNat_natCast]
 refine Ev.bind (rate_iter l v t l1 hl v1 _ (by omega)) ?_
 exact fraction_ev (by omega) (by omega) (Int.ne_of_gt (gq_pos (by omega) (by omega)))
theorem Rate_l0 (l v : List Int) (t : Int) (l1 : 1 ≤ l.length) (hl : l.length < 17592186044416) (v1 : 1 ≤ v.length) (N : Nat) (h1 : 1 ≤ N) (hN : N ≤ 1000000) : ∀ (d j : Nat), j + d = N →
  Ev (fun k => Rf_Rate.l0 k l t (N : Int) ((cntUp (hit l v t) j : Nat) : Int) (j : Int) v) (frac ((cntUp (hit l v t) N : Nat) : Int) (N : Int))
 | 0, j, h => by
  refine Ev.succ (f := fun k => Rf_Rate.l0 k l t (N : Int) ((cntUp (hit l v t) j : Nat) : Int) (j : Int) v) ?_
  obtain rfl : j = N := by omega
  have hu := cntUp_le (hit l v t) j
  simp only [Rf_Rate.l0, show ¬ (j : Int) < (j : Int) by omega, if_false]
  refine Ev.bind (Lowest_ev (by omega) (by omega) (Int.ne_of_gt (gq_pos (by omega) (by omega)))) ?_
  exact Ev.some
 | d + 1, j, h => by
  refine Ev.succ (f := fun k => Rf_Rate.l0 k l t (N : Int) ((cntUp (hit l v t) j : Nat) : Int) (j : Int) v) ?_
  have hu := cntUp_le (hit l v t) j
  have hn := nzF_length v l (j : Int)
  simp only [Rf_Rate.l0, show (j : Int) < (N : Int) by omega, if_true]
  refine Ev.bind (Noisy_ev l v v1 hl (j : Int) (by omega) (by omega)) ?_
  obtain ⟨p, hp, hr, he⟩ := Peak_ev (nzF v l (j : Int)) (by omega) (by omega)
  refine Ev.bind he ?_
  have ih := Rate_l0 l v t l1 hl v1 N h1 hN d (j + 1) (by omega)
  rw [cntUp] at ih
  simp only [show (0 : Int) ≤ (p : Int) by omega, show (p : Int) < ((nzF v l (j : Int)).length : Int) by omega, if_true, hr, up (show j < 4611686018427387904 by omega), up (show cntUp (hit l v t) j < 4611686018427387904 by omega)]
  by_cases q : t ≤ lmax (nzF v l (j : Int))
  ·have q' : hit l v t j = true := by simpa [hit] using q
   simp only [q', if_true] at ih
   simp only [show lmax (nzF v l (j : Int)) ≥ t from q, if_true]
   exact ih
  ·have q' : ¬ hit l v t j = true := by simpa [hit] using q
   simp only [q', if_false, Nat.add_zero] at ih
   simp only [show ¬ lmax (nzF v l (j : Int)) ≥ t from q, if_false]
   exact ih
theorem Rate_ev (l v : List Int) (t : Int) (l1 : 1 ≤ l.length) (hl : l.length < 17592186044416) (v1 : 1 ≤ v.length) (v4 : v.length ≤ 4) (hc : v.length ^ l.length ≤ 4096) :
  Ev (fun k => Rf_Rate.f k l v t) (frac ((cntUp (hit l v t) (v.length ^ l.length) : Nat) : Int) ((v.length ^ l.length : Nat) : Int)) := by
 have h0 : 0 < v.length ^ l.length := Nat.pow_pos (by omega)
 unfold Rf_Rate.f
 refine Ev.bind (Cases_ev v v1 v4 l.length (by omega)) ?_
 simp only [hc, if_true]
 exact Rate_l0 l v t l1 hl v1 _ (by omega) (by omega) (v.length ^ l.length) 0 (by omega)
theorem awake_ev : Ev (fun k => Lw_awake.f k) true :=
 Ev.of_mono (k := 40) (fun k => Lw_awake.mono k) (by kernel_rfl)
theorem CopyInts_eq (l : List Int) (h : l.length < 17592186044416) : Bs_CopyInts.f l = some l := by
 unfold Bs_CopyInts.f
 simp [h]
theorem CopyCase_eq (l v : List Int) (num den : Int) (h : l.length < 17592186044416) (h2 : v.length < 17592186044416) : Rf_CopyCase.f l v num den = some (l, v, num, den) := by
 unfold Rf_CopyCase.f Rf_CopyNoise.f
 simp [CopyInts_eq l h, CopyInts_eq v h2]
/-- A light case. -/
def lightB (l v : List Int) (num den : Int) : Bool :=
 decide ((l.length : Int) ≤ 20) && (decide ((v.length : Int) ≤ 20) && (decide (cErr l v num den ≠ 0) || decide (v.length ^ l.length ≤ 256)))
theorem cErr_zero {l v : List Int} {num den : Int} (h : cErr l v num den = 0) : (1 ≤ l.length ∧ l.length ≤ 16) ∧ (1 ≤ v.length ∧ v.length ≤ 4) ∧ v.length ^ l.length ≤ 4096 ∧ tErr num den = 0 ∧ (lErr l 16 10000).2 = 0 ∧ (lErr v 4 1000).2 = 0 := by
 unfold cErr at h
 by_cases h1 : (lErr l 16 10000).2 = 0
 ·by_cases h2 : (lErr v 4 1000).2 = 0
  ·by_cases h3 : l.all (fun x => decide (x ≤ 9000)) = true
   ·by_cases h4 : v.length ^ l.length ≤ 4096
    ·simp only [h1, h2, h3, h4, if_true] at h
     exact ⟨lErr_len h1, lErr_len h2, h4, h, h1, h2⟩
    ·simp [h1, h2, h3, h4] at h
   ·simp only [h1, h2, h3, if_true, if_false] at h; simp at h
  ·simp only [h1, h2, if_true, if_false] at h
 ·simp only [h1, if_false] at h
theorem light_ev (l v : List Int) {num den : Int} (hx : -9223372036854775808 ≤ num ∧ num ≤ 9223372036854775807) (hy : -9223372036854775808 ≤ den ∧ den ≤ 9223372036854775807) :
  Ev (fun k => Lw_light.f k l v num den) (lightB l v num den) := by
 unfold Lw_light.f lightB
 simp only [short_eq, Option.bind_some]
 by_cases h1 : (l.length : Int) ≤ 20
 ·by_cases h2 : (v.length : Int) ≤ 20
  ·simp only [h1, h2, decide_true, if_true, Bool.true_and]
   refine Ev.bind (CaseErr_ev l v hx hy) ?_
   by_cases h3 : cErr l v num den = 0
   ·obtain ⟨⟨l1, l2⟩, ⟨v1, v2⟩, h4, _⟩ := cErr_zero h3
    simp only [h3, if_true, ne_eq, not_true, decide_false, Bool.false_or]
    refine Ev.bind (Cases_ev v v1 v2 l.length (by omega)) ?_
    simp only [h4, if_true]
    by_cases q : v.length ^ l.length ≤ 256
    ·simp only [q, show ((v.length ^ l.length : Nat) : Int) ≤ 256 by omega]; exact Ev.some
    ·simp only [q, show ¬ ((v.length ^ l.length : Nat) : Int) ≤ 256 by omega]; exact Ev.some
   ·simp only [h3, if_false, ne_eq, not_false_iff, decide_true, Bool.true_or]; exact Ev.some
  ·simp only [h1, h2, decide_true, decide_false, if_true, if_false, Bool.true_and, Bool.false_and, Bool.false_eq_true]; exact Ev.some
 ·simp only [h1, decide_false, if_false, Bool.false_and, Bool.false_eq_true]; exact Ev.some
theorem i64_in {n : Int} (h : (Lit.int .i64 n).wf = true) : -9223372036854775808 ≤ n ∧ n ≤ 9223372036854775807 := by
 simp [Lit.wf, IntKind.min, IntKind.max, IntKind.signed, IntKind.bits] at h
 omega
def thErr (t : Int) : Int := if 0 ≤ t ∧ t ≤ 11000 then 0 else 2
theorem thresholdErr_eq (t : Int) : line_thresholdErr.f t = some (thErr t) := by
 unfold line_thresholdErr.f thErr
 simp only [within_eq, unless_eq, Option.bind_some, decide_eq_true_eq]
theorem ThresholdErr_eq (t : Int) : Rf_ThresholdErr.f t = some (thErr t) := by
 unfold Rf_ThresholdErr.f thErr
 simp only [Within_eq, Option.bind_some, decide_eq_true_eq]
 split <;> rfl
theorem DetectedRate_ev (l v : List Int) {num den t : Int} (hx : -9223372036854775808 ≤ num ∧ num ≤ 9223372036854775807) (hy : -9223372036854775808 ≤ den ∧ den ≤ 9223372036854775807) :
  ∃ q : Int × Int, Ev (fun k => line_DetectedRate.f k l v num den t) (if cErr l v num den = 0 then (if thErr t = 0 then (q.1, q.2, 0) else (0, 0, thErr t)) else (0, 0, cErr l v num den)) ∧ (cErr l v num den = 0 → q = frac ((cntUp (hit l v t) (v.length ^ l.length) : Nat) : Int) ((v.length ^ l.length : Nat) : Int)) := by
 refine ⟨frac ((cntUp (hit l v t) (v.length ^ l.length) : Nat) : Int) ((v.length ^ l.length : Nat) : Int), ?_, fun _ => rfl⟩
 unfold line_DetectedRate.f
 refine Ev.bind (CheckCase_ev l v hx hy) ?_
 simp only [thresholdErr_eq, Option.bind_some]
 refine Ev.bind (first_ev _ (by simp)) ?_
 by_cases h3 : cErr l v num den = 0
 ·obtain ⟨⟨l1, l2⟩, ⟨v1, v2⟩, h4, _⟩ := cErr_zero h3
  by_cases h5 : thErr t = 0
  ·simp only [fnz, h3, h5, if_true]
   exact Ev.bind (rate_ev l v t l1 (by omega) v1 v2 h4) Ev.some
  ·simp only [fnz, h3, h5, if_true, if_false]; exact Ev.some
 ·simp only [fnz, h3, if_false]; exact Ev.some
theorem gq_pos' {a b : Int} (hb : 0 < b ∧ b ≤ 4611686018427387904) : 0 < gq a b ∧ gq a b ≤ b ∧ gq a b = (Int.gcd a b : Int) := by
 have h1 : Int.gcd a b ≤ b.natAbs := Nat.le_of_dvd (by omega) (Nat.gcd_dvd_right _ _)
 have h2 : 0 < Int.gcd a b := Int.gcd_pos_of_ne_zero_right _ (by omega)
 unfold gq
 rw [if_neg (by omega)]
 omega
theorem frac_den {a b : Int} (hb : 0 < b ∧ b ≤ 4611686018427387904) : 0 < (frac a b).2 ∧ (frac a b).2 ≤ b := by
 obtain ⟨h1, h2, h3⟩ := gq_pos' (a := a) hb
 have hd : gq a b ∣ b := by rw [h3]; exact Int.gcd_dvd_right _ _
 obtain ⟨c, hc⟩ := hd
 have e : Int.tdiv b (gq a b) = c := by
  rw [Int.tdiv_eq_ediv_of_nonneg (by omega)]
  exact Int.ediv_eq_of_eq_mul_right (by omega) hc
 have c0 : 0 < c := by
  by_cases h : 0 < c
  ·exact h
  ·have := Int.mul_nonneg (show (0 : Int) ≤ gq a b by omega) (show (0 : Int) ≤ -c by omega)
   rw [Int.mul_neg] at this; omega
 have c1 : c ≤ b := by
  have : 1 * c ≤ gq a b * c := Int.mul_le_mul_of_nonneg_right (by omega) (by omega)
  omega
 show 0 < wrap64 _ ∧ wrap64 _ ≤ b
 rw [e, w64 (by omega)]
 exact ⟨c0, c1⟩
theorem frac_num {a b : Int} (hb : 0 < b ∧ b ≤ 4611686018427387904) (ha : -4611686018427387904 ≤ a ∧ a ≤ 4611686018427387904) : (frac a b).1.natAbs ≤ a.natAbs ∧ (0 ≤ a → 0 ≤ (frac a b).1) := by
 obtain ⟨h1, h2, h3⟩ := gq_pos' (a := a) hb
 have h : (Int.tdiv a (gq a b)).natAbs ≤ a.natAbs := by
  rw [Int.natAbs_tdiv]
  exact Nat.div_le_self _ _
 show (wrap64 _).natAbs ≤ _ ∧ (_ → 0 ≤ wrap64 _)
 rw [w64 (by omega)]
 exact ⟨h, fun h0 => Int.tdiv_nonneg h0 (by omega)⟩
/-- The sum of n powers from line i on, and their sum with the lines' numbers. -/
def sn (l : List Int) : Nat → Nat → Int
 | 0, _ => 0
 | n + 1, i => rd l (i : Int) + sn l n (i + 1)
def wn (l : List Int) : Nat → Nat → Int
 | 0, _ => 0
 | n + 1, i => (i : Int) * rd l (i : Int) + wn l n (i + 1)
/-- The first line with the maximum power. -/
def fp (l : List Int) : Nat := ((peaks l).headD 0).toNat
def par (l : List Int) : Int × Int :=
 if fp l = 0 ∨ fp l + 1 = l.length then ((fp l : Int), 1) else
  if 2 * rd l (fp l : Int) - rd l ((fp l - 1 : Nat) : Int) - rd l ((fp l + 1 : Nat) : Int) ≤ 0 then ((fp l : Int), 1) else
   frac (2 * (2 * rd l (fp l : Int) - rd l ((fp l - 1 : Nat) : Int) - rd l ((fp l + 1 : Nat) : Int)) * (fp l : Int) + rd l ((fp l + 1 : Nat) : Int) - rd l ((fp l - 1 : Nat) : Int)) (2 * (2 * rd l (fp l : Int) - rd l ((fp l - 1 : Nat) : Int) - rd l ((fp l + 1 : Nat) : Int)))
def mdF (l : List Int) : Nat → Nat → Nat
 | 0, i => i
 | n + 1, i => if sn l l.length 0 ≤ 2 * sn l (i + 1) 0 then i else mdF l n (i + 1)
def md (l : List Int) : Nat := mdF l l.length 0
def est (l : List Int) (kind : Int) : Int × Int :=
 if sn l l.length 0 = 0 then (0, 1) else if kind = 1 then frac (wn l l.length 0) (sn l l.length 0) else if kind = 2 then par l else if kind = 3 then ((md l : Int), 1) else ((fp l : Int), 1)
theorem idxF_ok (m : Int) : ∀ l : List Int, ¬ idxF (bad m) l ≥ 0 → ∀ x ∈ l, 0 ≤ x ∧ x ≤ m
  | [], _, _, hx => by cases hx
  | a :: r, h, x, hx => by
    rw [idxF_cons] at h
    cases e : bad m a with
    | true => rw [e] at h; simp at h
    | false =>
      rw [e] at h
      simp only [Bool.false_eq_true, if_false] at h
      have h' : ¬ idxF (bad m) r ≥ 0 := fun q => by rw [if_pos q] at h; exact h (by omega)
      rcases List.mem_cons.1 hx with rfl | hx
      · have := within_bad m x
        rw [e] at this
        simpa using this
      · exact idxF_ok m r h' x hx
theorem lErr_ok {l : List Int} {n : Nat} {m : Int} (h : (lErr l n m).2 = 0) : ∀ x ∈ l, 0 ≤ x ∧ x ≤ m := by
 have hlen := lErr_len h
 unfold lErr at h
 rw [if_neg (by omega), if_neg (by omega)] at h
 by_cases q : idxF (bad m) l ≥ 0
 ·rw [if_pos q] at h; simp at h
 ·exact idxF_ok m l q
theorem Cmp_eq (a b c d : Int) : Bs_Cmp.f a b c d = some (if wrap64 (a * d) < wrap64 (c * b) then -1 else if wrap64 (a * d) > wrap64 (c * b) then 1 else 0) := by
 unfold Bs_Cmp.f
 split
 ·rfl
 ·split <;> rfl
theorem frac_spec {a b : Int} (hb : 0 < b ∧ b ≤ 4611686018427387904) (ha : -4611686018427387904 ≤ a ∧ a ≤ 4611686018427387904) : ∃ g : Int, 0 < g ∧ a = (frac a b).1 * g ∧ b = (frac a b).2 * g ∧ Int.gcd (frac a b).1 (frac a b).2 = 1 := by
 obtain ⟨h1, h2, h3⟩ := gq_pos' (a := a) hb
 have n1 := frac_num hb ha
 have n2 := frac_den (a := a) hb
 have da : gq a b ∣ a := by rw [h3]; exact Int.gcd_dvd_left _ _
 have db : gq a b ∣ b := by rw [h3]; exact Int.gcd_dvd_right _ _
 have ea : Int.tdiv a (gq a b) = (frac a b).1 := by
  show _ = wrap64 _
  have : (Int.tdiv a (gq a b)).natAbs ≤ a.natAbs := by rw [Int.natAbs_tdiv]; exact Nat.div_le_self _ _
  rw [w64 (by omega)]
 have eb : Int.tdiv b (gq a b) = (frac a b).2 := by
  show _ = wrap64 _
  have : (Int.tdiv b (gq a b)).natAbs ≤ b.natAbs := by rw [Int.natAbs_tdiv]; exact Nat.div_le_self _ _
  rw [w64 (by omega)]
 refine ⟨gq a b, h1, ?_, ?_, ?_⟩
 ·rw [← ea, Int.tdiv_mul_cancel da]
 ·rw [← eb, Int.tdiv_mul_cancel db]
 ·rw [← ea, ← eb, h3]
  rw [h3] at da db h1
  obtain ⟨x, hx⟩ := da
  obtain ⟨y, hy⟩ := db
  have hg : (Int.gcd a b : Int) ≠ 0 := by omega
  have e1 : Int.tdiv a (Int.gcd a b : Int) = x := by
   have : Int.tdiv ((Int.gcd a b : Int) * x) (Int.gcd a b : Int) = x := Int.mul_tdiv_cancel_left x hg
   rw [← hx] at this; exact this
  have e2 : Int.tdiv b (Int.gcd a b : Int) = y := by
   have : Int.tdiv ((Int.gcd a b : Int) * y) (Int.gcd a b : Int) = y := Int.mul_tdiv_cancel_left y hg
   rw [← hy] at this; exact this
  rw [e1, e2]
  have h : Int.gcd a b = (Int.gcd a b) * Int.gcd x y := by
   have q : Int.gcd a b = Int.gcd ((Int.gcd a b : Int) * x) ((Int.gcd a b : Int) * y) := by rw [← hx, ← hy]
   rw [Int.gcd_mul_left, Int.natAbs_natCast] at q
   exact q
  have p : 0 < Int.gcd a b := by omega
  have : Int.gcd a b * 1 = Int.gcd a b * Int.gcd x y := by rw [Nat.mul_one]; exact h
  exact (Nat.eq_of_mul_eq_mul_left p this).symm
theorem IsLowest_ev {a b : Int} (ha : -9223372036854775808 ≤ a ∧ a ≤ 9223372036854775807) (hb : 0 < b ∧ b ≤ 4611686018427387904) (hg : Int.gcd a b = 1) : Ev (fun k => Bs_IsLowest.f k a b) true := by
 unfold Bs_IsLowest.f
 simp only [show b > 0 by omega, if_true]
 refine Ev.bind (gcd_ev ha (by omega)) ?_
 have : gq a b = 1 := by rw [(gq_pos' (a := a) hb).2.2, hg]; rfl
 simp only [this, beq_self_eq_true]
 exact Ev.some
theorem IsSmall_eq {a b : Int} (ha : -1000000000 ≤ a ∧ a ≤ 1000000000) (hb : 1 ≤ b ∧ b ≤ 1000000000) : Bs_IsSmall.f a b = some true := by
 simp only [Bs_IsSmall.f, Within_eq, Option.bind_some, ha, hb, and_self, decide_true, if_true]
theorem CopyNoise_eq (v : List Int) (h : v.length < 17592186044416) : Rf_CopyNoise.f v = some v := by
 unfold Rf_CopyNoise.f
 simp [CopyInts_eq v h]
/-- The error of a noise on so many lines. -/
def nErr (v : List Int) (n : Int) : Int := if (lErr v 4 1000).2 = 0 then (if 1 ≤ n ∧ n ≤ 16 then (if v.length ^ n.toNat ≤ 4096 then 0 else 8) else 2) else (lErr v 4 1000).2
theorem nErr_zero {v : List Int} {n : Int} (h : nErr v n = 0) : (lErr v 4 1000).2 = 0 ∧ (1 ≤ n ∧ n ≤ 16) ∧ v.length ^ n.toNat ≤ 4096 := by
 unfold nErr at h
 by_cases h1 : (lErr v 4 1000).2 = 0
 ·by_cases h2 : 1 ≤ n ∧ n ≤ 16
  ·by_cases h3 : v.length ^ n.toNat ≤ 4096
   ·exact ⟨h1, h2, h3⟩
   ·simp [h1, h2, h3] at h
  ·simp [h1, h2] at h
 ·simp [h1] at h
/-- A signal without power. -/
def qrow (n : Int) : List Int := List.replicate n.toNat 0
theorem qrow_length (n : Int) : (qrow n).length = n.toNat := by simp [qrow]
def R (v : List Int) (n t : Int) : Int × Int := frac ((cntUp (hit (qrow n) v t) (v.length ^ n.toNat) : Nat) : Int) ((v.length ^ n.toNat : Nat) : Int)

theorem openNoise_ev (v : List Int) (n : Int) : ∃ q : List Int, Ev (fun k => line_openNoise.f k v n) (q, nErr v n) ∧ (nErr v n = 0 → q = qrow n) := by
 unfold line_openNoise.f nErr
 rw [lineCheckNoise_eq]
 simp only [Option.bind_some, within_eq, unless_eq, decide_eq_true_eq]
 have hb : ∀ (a b : Int) (r : List Int × Int) (g : Nat → Int → Option (List Int × Int)), Ev (fun k => g k (fnz [a, b])) r → Ev (fun k => (line_first.f k [a, b]).bind (g k)) r := fun a b r g hg => Ev.bind (first_ev _ (by simp)) hg
 by_cases h1 : (lErr v 4 1000).2 = 0
 ·obtain ⟨v1, v4⟩ := lErr_len h1
  by_cases h2 : 1 ≤ n ∧ n ≤ 16
  ·refine ⟨qrow n, ?_, fun _ => rfl⟩
   refine hb _ _ _ _ ?_
   simp only [fnz, h1, h2, and_self, if_true]
   have hn : ((n.toNat : Nat) : Int) = n := by omega
   have hc := cases_ev v v1 v4 n.toNat (by omega)
   rw [hn] at hc
   refine Ev.bind hc ?_
   simp only [show 0 ≤ n by omega, show n.toNat ≤ 35184372088832 by omega, if_true, Option.bind_some, qrow]
   by_cases h3 : v.length ^ n.toNat ≤ 4096
   ·simp only [h3, if_true]; exact Ev.some
   ·simp only [h3, if_false, Bool.false_eq_true]; exact Ev.some
  ·refine ⟨[], ?_, fun h => by simp [h1, h2] at h⟩
   refine hb _ _ _ _ ?_
   simp only [fnz, h1, h2, if_true, if_false, show ¬ (2 : Int) = 0 by decide]; exact Ev.some
 ·refine ⟨[], ?_, fun h => by simp [h1] at h⟩
  refine hb _ _ _ _ ?_
  simp only [fnz, h1, if_true, if_false]; exact Ev.some
theorem rateQ_ev {v : List Int} {n : Int} (h : nErr v n = 0) (t : Int) : Ev (fun k => line_rate.f k (qrow n) v t) (R v n t) := by
 obtain ⟨h1, h2, h3⟩ := nErr_zero h
 obtain ⟨v1, v4⟩ := lErr_len h1
 have := rate_ev (qrow n) v t (by rw [qrow_length]; omega) (by rw [qrow_length]; omega) v1 v4 (by rw [qrow_length]; exact h3)
 rw [qrow_length] at this
 exact this
theorem FalseRate_ev (v : List Int) (n t : Int) : Ev (fun k => line_FalseRate.f k v n t) (if nErr v n = 0 then (if thErr t = 0 then ((R v n t).1, (R v n t).2, 0) else (0, 0, thErr t)) else (0, 0, nErr v n)) := by
 unfold line_FalseRate.f
 obtain ⟨q, hq, e⟩ := openNoise_ev v n
 refine Ev.bind hq ?_
 simp only [thresholdErr_eq, Option.bind_some]
 refine Ev.bind (first_ev _ (by simp)) ?_
 by_cases h : nErr v n = 0
 ·rw [e h]
  by_cases h5 : thErr t = 0
  ·simp only [fnz, h, h5, if_true]
   exact Ev.bind (rateQ_ev h t) Ev.some
  ·simp only [fnz, h, h5, if_true, if_false]; exact Ev.some
 ·simp only [fnz, h, if_false]; exact Ev.some
theorem refFalseRate_ev {v : List Int} {n : Int} (h : nErr v n = 0) (t : Int) : Ev (fun k => Rf_FalseRate.f k v n t) (R v n t) := by
 obtain ⟨h1, h2, h3⟩ := nErr_zero h
 obtain ⟨v1, v4⟩ := lErr_len h1
 have := Rate_ev (qrow n) v t (by rw [qrow_length]; omega) (by rw [qrow_length]; omega) v1 v4 (by rw [qrow_length]; exact h3)
 rw [qrow_length] at this
 unfold Rf_FalseRate.f
 simp only [show 0 ≤ n by omega, show n.toNat ≤ 35184372088832 by omega, if_true]
 exact Ev.bind this Ev.some
def sat (v : List Int) (n risk t : Int) : Bool := decide (wrap64 (1000 * (R v n t).1) ≤ wrap64 (risk * (R v n t).2))
def cands (v : List Int) : List Int := 0 :: v.map fun x => wrap64 (x + 1)
def scan (S : Int → Bool) : List Int → Int × Int
 | [] => (0, 12)
 | t :: r => if S t = true then (t, 0) else scan S r
def upd (S : Int → Bool) (b c : Int) : Int := if S c = true then (if b < 0 then c else if c < b then c else b) else b
theorem scan_spec (S : Int → Bool) : ∀ ys : List Int, ys.Pairwise (· ≤ ·) → (∃ c, c ∈ ys ∧ S c = true) → ∃ t, t ∈ ys ∧ scan S ys = (t, 0) ∧ S t = true ∧ ∀ c ∈ ys, S c = true → t ≤ c
 | [], _, ⟨c, hc, _⟩ => by simp at hc
 | t :: r, hp, ⟨c, hc, hs⟩ => by
  rw [List.pairwise_cons] at hp
  by_cases ht : S t = true
  ·refine ⟨t, List.mem_cons_self, by simp [scan, ht], ht, fun d hd _ => ?_⟩
   rcases List.mem_cons.1 hd with rfl | hd
   ·exact Int.le_refl _
   ·exact hp.1 d hd
  ·have hc' : c ∈ r := by
    rcases List.mem_cons.1 hc with rfl | hc
    ·exact absurd hs ht
    ·exact hc
   obtain ⟨u, hu, e, su, hm⟩ := scan_spec S r hp.2 ⟨c, hc', hs⟩
   refine ⟨u, List.mem_cons_of_mem _ hu, by simp [scan, ht, e], su, fun d hd sd => ?_⟩
   rcases List.mem_cons.1 hd with rfl | hd
   ·exact absurd sd ht
   ·exact hm d hd sd
theorem upd_spec (S : Int → Bool) : ∀ (cs : List Int) (b : Int), (∀ c ∈ cs, 0 ≤ c) → (b = -1 ∨ 0 ≤ b) →
  (cs.foldl (upd S) b = b ∨ (cs.foldl (upd S) b ∈ cs ∧ S (cs.foldl (upd S) b) = true)) ∧ (0 ≤ b → 0 ≤ cs.foldl (upd S) b ∧ cs.foldl (upd S) b ≤ b) ∧ ∀ c ∈ cs, S c = true → 0 ≤ cs.foldl (upd S) b ∧ cs.foldl (upd S) b ≤ c
 | [], b, _, hb => ⟨.inl rfl, fun h => ⟨h, Int.le_refl _⟩, fun c hc => by simp at hc⟩
 | c :: r, b, hc, hb => by
  have hc0 := hc c List.mem_cons_self
  have hu : upd S b c = -1 ∨ 0 ≤ upd S b c := by unfold upd; split <;> (try split) <;> (try split) <;> omega
  obtain ⟨i1, i2, i3⟩ := upd_spec S r (upd S b c) (fun d hd => hc d (List.mem_cons_of_mem _ hd)) hu
  rw [List.foldl_cons]
  refine ⟨?_, fun h0 => ?_, fun d hd sd => ?_⟩
  ·rcases i1 with i1 | ⟨i1, j1⟩
   ·rw [i1]
    unfold upd
    by_cases hs : S c = true
    ·rw [if_pos hs]
     by_cases h1 : b < 0
     ·rw [if_pos h1]; exact .inr ⟨List.mem_cons_self, hs⟩
     ·rw [if_neg h1]
      by_cases h2 : c < b
      ·rw [if_pos h2]; exact .inr ⟨List.mem_cons_self, hs⟩
      ·rw [if_neg h2]; exact .inl rfl
    ·rw [if_neg hs]; exact .inl rfl
   ·exact .inr ⟨List.mem_cons_of_mem _ i1, j1⟩
  ·have : 0 ≤ upd S b c ∧ upd S b c ≤ b := by unfold upd; split <;> (try split) <;> (try split) <;> omega
   have := i2 this.1
   omega
  ·rcases List.mem_cons.1 hd with rfl | hd
   ·have : 0 ≤ upd S b d ∧ upd S b d ≤ d := by unfold upd; rw [if_pos sd]; split <;> (try split) <;> omega
    have := i2 this.1
    omega
   ·exact i3 d hd sd
theorem cands_ge {v : List Int} (hv : ∀ x ∈ v, 0 ≤ x ∧ x ≤ 1000) : ∀ c ∈ cands v, c = 0 ∨ ∃ x, x ∈ v ∧ c = x + 1 := by
 intro c hc
 rcases List.mem_cons.1 hc with rfl | hc
 ·exact .inl rfl
 ·obtain ⟨x, hx, rfl⟩ := List.mem_map.1 hc
  have := hv x hx
  exact .inr ⟨x, hx, w64 (by omega)⟩
theorem cands_mem {v : List Int} (hv : ∀ x ∈ v, 0 ≤ x ∧ x ≤ 1000) {x : Int} (hx : x ∈ v) : x + 1 ∈ cands v := by
 have := hv x hx
 refine List.mem_cons_of_mem _ (List.mem_map.2 ⟨x, hx, w64 (by omega)⟩)

theorem cntUp_mono {P Q : Nat → Bool} : ∀ N, (∀ j, j < N → P j = true → Q j = true) → cntUp P N ≤ cntUp Q N
 | 0, _ => Nat.le_refl _
 | N + 1, h => by
  have i := cntUp_mono N (fun j hj => h j (by omega))
  have := h N (by omega)
  unfold cntUp
  by_cases hp : P N = true
  ·rw [if_pos hp, if_pos (this hp)]; omega
  ·rw [if_neg hp]; omega
theorem cntUp_same {P Q : Nat → Bool} {N : Nat} (h : ∀ j, j < N → (P j = true ↔ Q j = true)) : cntUp P N = cntUp Q N :=
 Nat.le_antisymm (cntUp_mono N (fun j hj => (h j hj).1)) (cntUp_mono N (fun j hj => (h j hj).2))
theorem cntUp_none {P : Nat → Bool} {N : Nat} (h : ∀ j, j < N → P j = false) : cntUp P N = 0 := by
 induction N with
 | zero => rfl
 | succ N ih => unfold cntUp; rw [ih (fun j hj => h j (by omega)), h N (by omega)]; rfl
theorem nzF_quiet {v : List Int} (v1 : 1 ≤ v.length) (hv : ∀ x ∈ v, 0 ≤ x ∧ x ≤ 1000) : ∀ (m : Nat) (j : Int), 0 ≤ j → ∀ x ∈ nzF v (List.replicate m 0) j, x ∈ v
 | 0, j, _, x, hx => by simp [nzF] at hx
 | m + 1, j, hj, x, hx => by
  obtain ⟨d1, d2, d3, d4⟩ := digit_in (m := (v.length : Int)) hj (by omega)
  rw [List.replicate_succ, nzF] at hx
  rcases List.mem_cons.1 hx with rfl | hx
  ·obtain ⟨i, hi⟩ : ∃ i : Nat, Int.tmod j (v.length : Int) = (i : Int) := ⟨(Int.tmod j (v.length : Int)).toNat, by omega⟩
   rw [hi]
   have hm := rd_mem (l := v) (i := i) (by omega)
   have := hv _ hm
   rw [w64 (by omega), Int.zero_add]
   exact hm
  ·exact nzF_quiet v1 hv m _ d3 x hx
theorem top_quiet {v : List Int} {n : Int} (h : nErr v n = 0) (j : Nat) : lmax (nzF v (qrow n) (j : Int)) ∈ v := by
 obtain ⟨h1, h2, h3⟩ := nErr_zero h
 obtain ⟨v1, v4⟩ := lErr_len h1
 exact nzF_quiet v1 (lErr_ok h1) n.toNat j (by omega) _ (lmax_mem _ (by rw [nzF_length, List.length_replicate]; omega))
theorem R_in {v : List Int} {n : Int} (h : nErr v n = 0) (t : Int) : (0 ≤ (R v n t).1 ∧ (R v n t).1 ≤ 4096) ∧ 0 < (R v n t).2 ∧ (R v n t).2 ≤ 4096 := by
 obtain ⟨h1, h2, h3⟩ := nErr_zero h
 obtain ⟨v1, v4⟩ := lErr_len h1
 have h0 : 0 < v.length ^ n.toNat := Nat.pow_pos (by omega)
 have hu := cntUp_le (hit (qrow n) v t) (v.length ^ n.toNat)
 have a := frac_num (a := ((cntUp (hit (qrow n) v t) (v.length ^ n.toNat) : Nat) : Int)) (b := ((v.length ^ n.toNat : Nat) : Int)) (by omega) (by omega)
 have b := frac_den (a := ((cntUp (hit (qrow n) v t) (v.length ^ n.toNat) : Nat) : Int)) (b := ((v.length ^ n.toNat : Nat) : Int)) (by omega)
 have := a.2 (by omega)
 unfold R
 omega
theorem sat_top {v : List Int} {n risk : Int} (h : nErr v n = 0) (hr : 0 ≤ risk ∧ risk ≤ 1000) : ∃ c, c ∈ cands v ∧ sat v n risk c = true := by
 obtain ⟨h1, h2, h3⟩ := nErr_zero h
 obtain ⟨v1, v4⟩ := lErr_len h1
 have hv := lErr_ok h1
 have hm := lmax_mem v (by omega)
 refine ⟨lmax v + 1, cands_mem hv hm, ?_⟩
 have hz : cntUp (hit (qrow n) v (lmax v + 1)) (v.length ^ n.toNat) = 0 := cntUp_none (fun j _ => by
  unfold hit
  have := (lmax_le v (by omega) (lmax v)).1 (Int.le_refl _) _ (top_quiet h j)
  simp; omega)
 have hi := R_in h (lmax v + 1)
 have e : (R v n (lmax v + 1)).1 = 0 := by
  have h0 : 0 < v.length ^ n.toNat := Nat.pow_pos (by omega)
  have a := (frac_num (a := ((0 : Nat) : Int)) (b := ((v.length ^ n.toNat : Nat) : Int)) (by omega) (by omega)).1
  unfold R
  rw [hz]
  omega
 unfold sat
 rw [e, decide_eq_true_eq]
 have : 0 ≤ risk * (R v n (lmax v + 1)).2 ∧ risk * (R v n (lmax v + 1)).2 ≤ 1000 * 4096 := ⟨Int.mul_nonneg hr.1 (by omega), Int.mul_le_mul hr.2 hi.2.2 (by omega) (by omega)⟩
 rw [w64 (by omega), w64 (by omega)]
 omega

theorem scan_l1 {v : List Int} {n risk : Int} (h : nErr v n = 0) (ys : List Int) (hl : ys.length < 4611686018427387904) : ∀ (d i : Nat), i + d = ys.length →
  Ev (fun k => line_ThresholdFor.l1 k risk (qrow n) ys (ys.length : Int) (i : Int) v) (scan (sat v n risk) (ys.drop i))
 | 0, i, e => by
  refine Ev.succ (f := fun k => line_ThresholdFor.l1 k risk (qrow n) ys (ys.length : Int) (i : Int) v) ?_
  simp only [line_ThresholdFor.l1, show ¬ (i : Int) < (ys.length : Int) by omega, if_false]
  rw [show ys.drop i = [] from List.drop_eq_nil_of_le (by omega)]
  exact Ev.some
 | d + 1, i, e => by
  refine Ev.succ (f := fun k => line_ThresholdFor.l1 k risk (qrow n) ys (ys.length : Int) (i : Int) v) ?_
  simp only [line_ThresholdFor.l1, show (i : Int) < (ys.length : Int) by omega, show (0 : Int) ≤ (i : Int) by omega, if_true, up (show i < 4611686018427387904 by omega)]
  rw [drop_rd (show i < ys.length by omega), scan]
  refine Ev.bind (rateQ_ev h (rd ys (i : Int))) ?_
  by_cases hs : wrap64 (1000 * (R v n (rd ys (i : Int))).1) ≤ wrap64 (risk * (R v n (rd ys (i : Int))).2)
  ·have : sat v n risk (rd ys (i : Int)) = true := decide_eq_true hs
   simp only [hs, this, if_true]; exact Ev.some
  ·have : ¬ sat v n risk (rd ys (i : Int)) = true := by simpa [sat] using hs
   simp only [hs, this, if_false]
   exact scan_l1 h ys hl d (i + 1) (by omega)
theorem limits_l0 {v : List Int} {n risk : Int} (h : nErr v n = 0) : ∀ (d i : Nat) (acc : List Int), i + d = v.length → acc.length ≤ i + 1 →
  Ev (fun k => line_ThresholdFor.l0 k risk (qrow n) acc v (v.length : Int) (i : Int) v) (scan (sat v n risk) ((acc ++ (v.drop i).map fun x => wrap64 (x + 1)).mergeSort fun x y => decide (x ≤ y)))
 | 0, i, acc, e, ha => by
  obtain ⟨h1, h2, h3⟩ := nErr_zero h
  obtain ⟨v1, v4⟩ := lErr_len h1
  refine Ev.succ (f := fun k => line_ThresholdFor.l0 k risk (qrow n) acc v (v.length : Int) (i : Int) v) ?_
  simp only [line_ThresholdFor.l0, show ¬ (i : Int) < (v.length : Int) by omega, if_false, slices_Sort_int_int.f, show acc.length < 4611686018427387904 by omega, if_true, Option.bind_some]
  rw [show v.drop i = [] from List.drop_eq_nil_of_le (by omega), List.map_nil, List.append_nil]
  have hl : (acc.mergeSort fun x y => decide (x ≤ y)).length = acc.length := List.length_mergeSort _
  have := scan_l1 (risk := risk) h (acc.mergeSort fun x y => decide (x ≤ y)) (by omega) acc.length 0 (by omega)
  rw [hl] at this
  simpa using this
 | d + 1, i, acc, e, ha => by
  obtain ⟨h1, h2, h3⟩ := nErr_zero h
  obtain ⟨v1, v4⟩ := lErr_len h1
  refine Ev.succ (f := fun k => line_ThresholdFor.l0 k risk (qrow n) acc v (v.length : Int) (i : Int) v) ?_
  simp only [line_ThresholdFor.l0, show (i : Int) < (v.length : Int) by omega, show (0 : Int) ≤ (i : Int) by omega, show acc.length < 17592186044416 by omega, if_true, up (show i < 4611686018427387904 by omega)]
  rw [drop_rd (show i < v.length by omega), List.map_cons, List.append_cons acc _ (List.map _ _)]
  exact limits_l0 h d (i + 1) (acc ++ [wrap64 (rd v (i : Int) + 1)]) (by omega) (by simp; omega)
theorem search_l0 {v : List Int} {n risk : Int} (h : nErr v n = 0) : ∀ (d i : Nat) (b : Int), i + d = v.length →
  Ev (fun k => Rf_Threshold.l0 k n risk b (i : Int) v) (((v.drop i).map fun x => wrap64 (x + 1)).foldl (upd (sat v n risk)) b)
 | 0, i, b, e => by
  refine Ev.succ (f := fun k => Rf_Threshold.l0 k n risk b (i : Int) v) ?_
  simp only [Rf_Threshold.l0, show ¬ (i : Int) < (v.length : Int) by omega, if_false]
  rw [show v.drop i = [] from List.drop_eq_nil_of_le (by omega)]
  exact Ev.some
 | d + 1, i, b, e => by
  obtain ⟨h1, h2, h3⟩ := nErr_zero h
  obtain ⟨v1, v4⟩ := lErr_len h1
  refine Ev.succ (f := fun k => Rf_Threshold.l0 k n risk b (i : Int) v) ?_
  simp only [Rf_Threshold.l0, show (i : Int) < (v.length : Int) by omega, show (i : Int) ≥ 0 by omega, show (0 : Int) ≤ (i : Int) by omega, if_true, up (show i < 4611686018427387904 by omega)]
  rw [drop_rd (show i < v.length by omega), List.map_cons, List.foldl_cons]
  refine Ev.bind (refFalseRate_ev h _) ?_
  generalize wrap64 (rd v (i : Int) + 1) = c
  unfold upd
  by_cases hs : wrap64 (1000 * (R v n c).1) ≤ wrap64 (risk * (R v n c).2)
  ·have : sat v n risk c = true := decide_eq_true hs
   simp only [hs, this, if_true]
   by_cases hb : b < 0
   ·simp only [hb, if_true]; exact search_l0 h d (i + 1) _ (by omega)
   ·by_cases hc : c < b
    ·simp only [hb, hc, if_true, if_false]; exact search_l0 h d (i + 1) _ (by omega)
    ·simp only [hb, hc, if_false]; exact search_l0 h d (i + 1) _ (by omega)
  ·have : ¬ sat v n risk c = true := by simpa [sat] using hs
   simp only [hs, this, if_false]
   exact search_l0 h d (i + 1) _ (by omega)
theorem refThreshold_fold {v : List Int} {n risk : Int} (h : nErr v n = 0) : Ev (fun k => Rf_Threshold.f k v n risk) ((cands v).foldl (upd (sat v n risk)) (-1)) := by
 obtain ⟨h1, h2, h3⟩ := nErr_zero h
 obtain ⟨v1, v4⟩ := lErr_len h1
 have w0 : wrap64 (-1 + 1) = ((0 : Nat) : Int) := by unfold wrap64; omega
 unfold Rf_Threshold.f cands
 refine Ev.succ (f := fun k => Rf_Threshold.l0 k n risk (-1) (-1) v) ?_
 simp only [Rf_Threshold.l0, show (-1 : Int) < (v.length : Int) by omega, show ¬ (-1 : Int) ≥ 0 by decide, if_true, if_false, w0, List.foldl_cons]
 refine Ev.bind (refFalseRate_ev h _) ?_
 have key := fun b => search_l0 (risk := risk) h v.length 0 b (by omega)
 simp only [List.drop_zero] at key
 by_cases hs : wrap64 (1000 * (R v n 0).1) ≤ wrap64 (risk * (R v n 0).2)
 ·have : sat v n risk 0 = true := decide_eq_true hs
  simp only [hs, if_true, show (-1 : Int) < 0 by decide, upd, this]
  exact key 0
 ·have : ¬ sat v n risk 0 = true := by simpa [sat] using hs
  simp only [hs, if_false, upd, this]
  exact key (-1)
/-- The smallest candidate that keeps the risk. -/
def IsThr (v : List Int) (n risk t : Int) : Prop := t ∈ cands v ∧ sat v n risk t = true ∧ ∀ c ∈ cands v, sat v n risk c = true → t ≤ c
theorem thr_ex {v : List Int} {n risk : Int} (h : nErr v n = 0) (hr : 0 ≤ risk ∧ risk ≤ 1000) :
  ∃ t, IsThr v n risk t ∧ Ev (fun k => Rf_Threshold.f k v n risk) t ∧ Ev (fun k => line_ThresholdFor.f k v n risk) (t, 0) := by
 obtain ⟨h1, h2, h3⟩ := nErr_zero h
 obtain ⟨v1, v4⟩ := lErr_len h1
 have hv := lErr_ok h1
 obtain ⟨c, hc, hs⟩ := sat_top h hr
 have hle : ∀ (a b c : Int), decide (a ≤ b) = true → decide (b ≤ c) = true → decide (a ≤ c) = true := fun a b c x y => by simp at x y ⊢; omega
 have hto : ∀ (a b : Int), (decide (a ≤ b) || decide (b ≤ a)) = true := fun a b => by simp; omega
 have hp := List.pairwise_mergeSort hle hto (cands v)
 have hp' : ((cands v).mergeSort fun x y => decide (x ≤ y)).Pairwise (· ≤ ·) := hp.imp (fun h => of_decide_eq_true h)
 obtain ⟨t, ht, e, st, hm⟩ := scan_spec (sat v n risk) _ hp' ⟨c, List.mem_mergeSort.2 hc, hs⟩
 have hmin : ∀ d ∈ cands v, sat v n risk d = true → t ≤ d := fun d hd sd => hm d (List.mem_mergeSort.2 hd) sd
 have ht' : t ∈ cands v := List.mem_mergeSort.1 ht
 have hge : ∀ d ∈ cands v, 0 ≤ d := fun d hd => by
  rcases cands_ge hv d hd with rfl | ⟨x, hx, rfl⟩
  ·omega
  ·have := hv x hx; omega
 obtain ⟨u1, u2, u3⟩ := upd_spec (sat v n risk) (cands v) (-1) hge (.inl rfl)
 refine ⟨t, ⟨ht', st, hmin⟩, ?_, ?_⟩
 ·have hb := refThreshold_fold (risk := risk) h
  obtain ⟨b0, b1⟩ := u3 t ht' st
  rcases u1 with u1 | ⟨u1, su⟩
  ·omega
  ·have := hmin _ u1 su
   rw [show (cands v).foldl (upd (sat v n risk)) (-1) = t by omega] at hb
   exact hb
 ·unfold line_ThresholdFor.f
  obtain ⟨q, hq, eq⟩ := openNoise_ev v n
  refine Ev.bind hq ?_
  rw [eq h]
  simp only [within_eq, unless_eq, Option.bind_some, decide_eq_true_eq, hr, and_self, if_true]
  refine Ev.bind (first_ev _ (by simp)) ?_
  simp only [fnz, h, if_true]
  have := limits_l0 (risk := risk) h v.length 0 [0] (by omega) (by simp)
  rw [List.drop_zero, show [0] ++ v.map (fun x => wrap64 (x + 1)) = cands v from rfl, e] at this
  exact this
theorem lineNoisy_ev (l v : List Int) {num den n : Int} (hx : -9223372036854775808 ≤ num ∧ num ≤ 9223372036854775807) (hy : -9223372036854775808 ≤ den ∧ den ≤ 9223372036854775807) :
  Ev (fun k => line_Noisy.f k l v num den n) (if cErr l v num den = 0 then (if 0 ≤ n ∧ n ≤ ((v.length ^ l.length : Nat) : Int) - 1 then (nzF v l n, 0) else ([], 6)) else ([], cErr l v num den)) := by
 unfold line_Noisy.f
 refine Ev.bind (CheckCase_ev l v hx hy) ?_
 by_cases h3 : cErr l v num den = 0
 ·obtain ⟨⟨l1, l2⟩, ⟨v1, v2⟩, h4, _⟩ := cErr_zero h3
  have h0 : 0 < v.length ^ l.length := Nat.pow_pos (by omega)
  simp only [h3, if_true]
  refine Ev.bind (cases_ev v v1 v2 l.length (by omega)) ?_
  simp only [h4, if_true, within_eq, Option.bind_some, decide_eq_true_eq]
  rw [w64 (by omega)]
  by_cases q : 0 ≤ n ∧ n ≤ ((v.length ^ l.length : Nat) : Int) - 1
  ·simp only [q, and_self, if_true]
   exact Ev.bind (noisy_ev l v v1 (by omega) n q.1 (by omega)) Ev.some
  ·simp only [q, if_false]; exact Ev.some
 ·simp only [h3, if_false]; exact Ev.some
def pt (c N : Nat) : Int × Int := frac (c : Int) (N : Int)
theorem pt_spec {c N : Nat} (hc : c ≤ N) (h0 : 0 < N) (hN : N ≤ 4096) : ∃ g : Int, 0 < g ∧ (c : Int) = (pt c N).1 * g ∧ (N : Int) = (pt c N).2 * g ∧ Int.gcd (pt c N).1 (pt c N).2 = 1 ∧ (0 ≤ (pt c N).1 ∧ (pt c N).1 ≤ (pt c N).2) ∧ 0 < (pt c N).2 ∧ (pt c N).2 ≤ 4096 := by
 obtain ⟨g, g0, ea, eb, hg⟩ := frac_spec (a := (c : Int)) (b := (N : Int)) (by omega) (by omega)
 have a := (frac_num (a := (c : Int)) (b := (N : Int)) (by omega) (by omega)).2 (by omega)
 have b := frac_den (a := (c : Int)) (b := (N : Int)) (by omega)
 refine ⟨g, g0, ea, eb, hg, ⟨a, ?_⟩, b.1, by unfold pt; omega⟩
 refine Int.le_of_mul_le_mul_right (a := g) ?_ g0
 unfold pt
 rw [← ea, ← eb]
 omega
theorem part_ev {c N : Nat} (hc : c ≤ N) (h0 : 0 < N) (hN : N ≤ 4096) : Ev (fun k => Lw_part.f k (pt c N).1 (pt c N).2) true := by
 obtain ⟨g, g0, ea, eb, hg, ⟨n0, n1⟩, d0, d1⟩ := pt_spec hc h0 hN
 unfold Lw_part.f
 refine Ev.bind (IsLowest_ev (by omega) (by omega) hg) ?_
 simp only [if_true]
 rw [IsSmall_eq (by omega) (by omega)]
 simp only [Option.bind_some, if_true, Within_eq, n0, n1, and_self, decide_true]
 exact Ev.some
theorem pt_le {c d N : Nat} (hcd : c ≤ d) (hd : d ≤ N) (h0 : 0 < N) (hN : N ≤ 4096) : (pt c N).1 * (pt d N).2 ≤ (pt d N).1 * (pt c N).2 := by
 obtain ⟨g, g0, ea, eb, _⟩ := pt_spec (c := c) (by omega) h0 hN
 obtain ⟨h, h1, ec, ed, _⟩ := pt_spec hd h0 hN
 refine Int.le_of_mul_le_mul_right (a := g * h) ?_ (Int.mul_pos g0 h1)
 have e1 : (pt c N).1 * (pt d N).2 * (g * h) = (c : Int) * (N : Int) := by rw [Int.mul_assoc, ← Int.mul_assoc (pt d N).2, Int.mul_comm (pt d N).2 g, Int.mul_assoc g, ← Int.mul_assoc, ← ea, ← ed]
 have e2 : (pt d N).1 * (pt c N).2 * (g * h) = (d : Int) * (N : Int) := by rw [Int.mul_comm g h, Int.mul_assoc, ← Int.mul_assoc (pt c N).2, Int.mul_comm (pt c N).2 h, Int.mul_assoc h, ← Int.mul_assoc, ← ec, ← eb]
 rw [e1, e2]
 exact Int.mul_le_mul_of_nonneg_right (by omega) (by omega)
theorem mul_in {a b : Int} (ha : 0 ≤ a ∧ a ≤ 4096) (hb : 0 ≤ b ∧ b ≤ 4096) : 0 ≤ a * b ∧ a * b ≤ 16777216 :=
 ⟨Int.mul_nonneg ha.1 hb.1, Int.mul_le_mul ha.2 hb.2 hb.1 (by omega)⟩
theorem cmp_pt {c d N : Nat} (hcd : c ≤ d) (hd : d ≤ N) (h0 : 0 < N) (hN : N ≤ 4096) :
  (∃ z, Bs_Cmp.f (pt c N).1 (pt c N).2 (pt d N).1 (pt d N).2 = some z ∧ ¬ z > 0) ∧ ∃ z, Bs_Cmp.f (pt d N).1 (pt d N).2 (pt c N).1 (pt c N).2 = some z ∧ ¬ z < 0 := by
 obtain ⟨g, g0, ea, eb, _, a1, a2, a3⟩ := pt_spec (c := c) (by omega) h0 hN
 obtain ⟨h, h1, ec, ed, _, b1, b2, b3⟩ := pt_spec hd h0 hN
 have hle := pt_le hcd hd h0 hN
 have m1 := mul_in (a := (pt c N).1) (b := (pt d N).2) (by omega) (by omega)
 have m2 := mul_in (a := (pt d N).1) (b := (pt c N).2) (by omega) (by omega)
 rw [Cmp_eq, Cmp_eq, w64 (n := (pt c N).1 * (pt d N).2) (by omega), w64 (n := (pt d N).1 * (pt c N).2) (by omega)]
 refine ⟨⟨_, rfl, ?_⟩, _, rfl, ?_⟩
 ·split
  ·omega
  ·rw [if_neg (by omega)]; omega
 ·rw [if_neg (by omega)]
  split <;> omega

theorem greatest (m : Int) : ∀ cs : List Int, (∃ c, c ∈ cs ∧ c ≤ m) → ∃ c, c ∈ cs ∧ c ≤ m ∧ ∀ d ∈ cs, d ≤ m → d ≤ c
 | [], ⟨c, hc, _⟩ => by simp at hc
 | x :: r, ⟨c, hc, hm⟩ => by
  by_cases hr : ∃ c, c ∈ r ∧ c ≤ m
  ·obtain ⟨u, hu, um, ug⟩ := greatest m r hr
   by_cases hx : x ≤ m ∧ u ≤ x
   ·refine ⟨x, List.mem_cons_self, hx.1, fun d hd dm => ?_⟩
    rcases List.mem_cons.1 hd with rfl | hd
    ·exact Int.le_refl _
    ·exact Int.le_trans (ug d hd dm) hx.2
   ·refine ⟨u, List.mem_cons_of_mem _ hu, um, fun d hd dm => ?_⟩
    rcases List.mem_cons.1 hd with rfl | hd
    ·rcases Int.le_total u d with h | h
     ·exact absurd ⟨dm, h⟩ hx
     ·exact h
    ·exact ug d hd dm
  ·have hx : c = x := by
    rcases List.mem_cons.1 hc with rfl | hc
    ·rfl
    ·exact absurd ⟨c, hc, hm⟩ hr
   subst hx
   refine ⟨c, List.mem_cons_self, hm, fun d hd dm => ?_⟩
   rcases List.mem_cons.1 hd with rfl | hd
   ·exact Int.le_refl _
   ·exact absurd ⟨d, hd, dm⟩ hr
theorem less_not {v : List Int} {n risk t : Int} (h : nErr v n = 0) (ht : IsThr v n risk t) (h0 : 0 < t) : sat v n risk (t - 1) = false := by
 obtain ⟨h1, h2, h3⟩ := nErr_zero h
 have hv := lErr_ok h1
 obtain ⟨c, hc, cm, cg⟩ := greatest (t - 1) (cands v) ⟨0, List.mem_cons_self, by omega⟩
 have hs : ¬ sat v n risk c = true := fun hs => by have := ht.2.2 c hc hs; omega
 have e : R v n (t - 1) = R v n c := by
  unfold R
  rw [cntUp_same (P := hit (qrow n) v (t - 1)) (Q := hit (qrow n) v c) (fun j _ => ?_)]
  have hm := top_quiet h j
  unfold hit
  rw [decide_eq_true_eq, decide_eq_true_eq]
  constructor
  ·omega
  ·intro hcm
   rcases Int.lt_or_le (lmax (nzF v (qrow n) (j : Int))) (t - 1) with hlt | hge
   ·have := cg _ (cands_mem hv hm) (by omega)
    omega
   ·exact hge
 unfold sat at hs ⊢
 rw [e]
 simpa using hs
theorem nzF_over {v : List Int} (v1 : 1 ≤ v.length) (hv : ∀ x ∈ v, 0 ≤ x ∧ x ≤ 1000) : ∀ (l : List Int) (j : Int), 0 ≤ j → (∀ x ∈ l, 0 ≤ x ∧ x ≤ 10000) → ∀ y ∈ nzF v (List.replicate l.length 0) j, ∃ x, x ∈ nzF v l j ∧ y ≤ x
 | [], j, _, _, y, hy => by simp [nzF] at hy
 | a :: r, j, hj, hl, y, hy => by
  obtain ⟨d1, d2, d3, d4⟩ := digit_in (m := (v.length : Int)) hj (by omega)
  rw [List.length_cons, List.replicate_succ, nzF] at hy
  rw [nzF]
  rcases List.mem_cons.1 hy with rfl | hy
  ·refine ⟨_, List.mem_cons_self, ?_⟩
   have ha := hl a List.mem_cons_self
   obtain ⟨i, hi⟩ : ∃ i : Nat, Int.tmod j (v.length : Int) = (i : Int) := ⟨(Int.tmod j (v.length : Int)).toNat, by omega⟩
   rw [hi]
   have := hv _ (rd_mem (l := v) (i := i) (by omega))
   rw [w64 (by omega), w64 (by omega)]
   omega
  ·obtain ⟨x, hx, hxy⟩ := nzF_over v1 hv r _ d3 (fun x hx => hl x (List.mem_cons_of_mem _ hx)) y hy
   exact ⟨x, List.mem_cons_of_mem _ hx, hxy⟩
theorem le_lmax {l : List Int} {x : Int} (hx : x ∈ l) : x ≤ lmax l := (lmax_le l (List.length_pos_of_mem hx) (lmax l)).1 (Int.le_refl _) x hx
theorem hit_any (l v : List Int) (l1 : 1 ≤ l.length) (t : Int) (j : Nat) : hit l v t j = (nzF v l (j : Int)).any fun x => decide (x ≥ t) := by
 rw [Bool.eq_iff_iff]
 unfold hit
 rw [decide_eq_true_eq, List.any_eq_true]
 constructor
 ·intro h
  exact ⟨_, lmax_mem _ (by rw [nzF_length]; omega), decide_eq_true h⟩
 ·rintro ⟨x, hx, h⟩
  have := le_lmax hx
  simp at h
  omega

theorem count_l1 (l v : List Int) (num den t : Int) (N c j : Nat) (d1 d2 : Int) (row : List Int) (hrow : row.length = l.length) (hl : l.length ≤ 16) (hc : c ≤ 4096) (hj : j ≤ 4096) (r : Bool)
    (hnext : ∀ b : Bool, b = (row.any fun x => decide (x ≥ t)) → Ev (fun k => Lw_LineKept.l0 k t (l.length : Int) ((c + (if b = true then 1 else 0) : Nat) : Int) (N : Int) ((j + 1 : Nat) : Int) l v num den d1 d2) r) :
    ∀ (d i : Nat) (b : Bool), i + d = row.length → (b || (row.drop i).any fun x => decide (x ≥ t)) = (row.any fun x => decide (x ≥ t)) →
    Ev (fun k => Lw_LineKept.l1 k t (l.length : Int) (c : Int) (N : Int) (j : Int) row b (i : Int) l v num den d1 d2) r
  | 0, i, b, e, hb => by
    refine Ev.succ (f := fun k => Lw_LineKept.l1 k t (l.length : Int) (c : Int) (N : Int) (j : Int) row b (i : Int) l v num den d1 d2) ?_
    rw [show row.drop i = [] from List.drop_eq_nil_of_le (by omega), List.any_nil, Bool.or_false] at hb
    have := hnext b hb
    simp only [Lw_LineKept.l1, show ¬ (i : Int) < (l.length : Int) by omega, if_false, up (show j < 4611686018427387904 by omega), up (show c < 4611686018427387904 by omega)]
    cases b with
    | true => simpa using this
    | false => simpa using this
  | d + 1, i, b, e, hb => by
    refine Ev.succ (f := fun k => Lw_LineKept.l1 k t (l.length : Int) (c : Int) (N : Int) (j : Int) row b (i : Int) l v num den d1 d2) ?_
    rw [drop_rd (show i < row.length by omega), List.any_cons] at hb
    simp only [Lw_LineKept.l1, show (i : Int) < (l.length : Int) by omega, if_true, up (show i < 4611686018427387904 by omega)]
    cases b with
    | true =>
      simp only [if_true]
      exact count_l1 l v num den t N c j d1 d2 row hrow hl hc hj r hnext d (i + 1) true (by omega) (by simpa using hb)
    | false =>
      simp only [Bool.false_eq_true, if_false, show (0 : Int) ≤ (i : Int) by omega, show (i : Int) < (row.length : Int) by omega, if_true]
      exact count_l1 l v num den t N c j d1 d2 row hrow hl hc hj r hnext d (i + 1) _ (by omega) (by simpa using hb)
theorem count_l0 (l v : List Int) {num den t : Int} (hx : -9223372036854775808 ≤ num ∧ num ≤ 9223372036854775807) (hy : -9223372036854775808 ≤ den ∧ den ≤ 9223372036854775807) (h3 : cErr l v num den = 0) (d1 d2 : Int) (r : Bool)
  (hend : Ev (fun k => (Bs_Lowest.f k ((cntUp (hit l v t) (v.length ^ l.length) : Nat) : Int) ((v.length ^ l.length : Nat) : Int)).bind fun bt => some (d1 == bt.1 && (d2 == bt.2))) r) : ∀ d j : Nat, j + d = v.length ^ l.length →
  Ev (fun k => Lw_LineKept.l0 k t (l.length : Int) ((cntUp (hit l v t) j : Nat) : Int) ((v.length ^ l.length : Nat) : Int) (j : Int) l v num den d1 d2) r
 | 0, j, e => by
  obtain rfl : j = v.length ^ l.length := by omega
  refine Ev.succ (f := fun k => Lw_LineKept.l0 k t (l.length : Int) ((cntUp (hit l v t) (v.length ^ l.length) : Nat) : Int) ((v.length ^ l.length : Nat) : Int) ((v.length ^ l.length : Nat) : Int) l v num den d1 d2) ?_
  simp only [Lw_LineKept.l0, Int.lt_irrefl, if_false]
  exact hend
 | d + 1, j, e => by
  obtain ⟨⟨l1, l2⟩, ⟨v1, v2⟩, h4, _⟩ := cErr_zero h3
  have hu := cntUp_le (hit l v t) j
  refine Ev.succ (f := fun k => Lw_LineKept.l0 k t (l.length : Int) ((cntUp (hit l v t) j : Nat) : Int) ((v.length ^ l.length : Nat) : Int) (j : Int) l v num den d1 d2) ?_
  simp only [Lw_LineKept.l0, show (j : Int) < ((v.length ^ l.length : Nat) : Int) by omega, if_true]
  rw [CopyCase_eq l v num den (by omega) (by omega)]
  simp only [Option.bind_some]
  refine Ev.bind (lineNoisy_ev l v (n := (j : Int)) hx hy) ?_
  simp only [h3, if_true, show 0 ≤ (j : Int) ∧ (j : Int) ≤ ((v.length ^ l.length : Nat) : Int) - 1 by omega, and_self, nzF_length, bne_self_eq_false]
  refine Ev.succ (f := fun k => Lw_LineKept.j6 k t (l.length : Int) _ _ _ _ false l v num den d1 d2) ?_
  simp only [Lw_LineKept.j6, Bool.false_eq_true, if_false]
  have := count_l1 l v num den t (v.length ^ l.length) (cntUp (hit l v t) j) j d1 d2 (nzF v l (j : Int)) (nzF_length v l _) l2 (by omega) (by omega) r (fun b hb => ?_) l.length 0 false (by rw [nzF_length]; omega) (by simp)
  ·exact this
  ·have key := count_l0 l v (t := t) hx hy h3 d1 d2 r hend d (j + 1) (by omega)
   rw [hb, ← hit_any l v l1 t j]
   exact key
theorem LineKept_j0 (l v : List Int) {num den t risk : Int} (hx : -9223372036854775808 ≤ num ∧ num ≤ 9223372036854775807) (hy : -9223372036854775808 ≤ den ∧ den ≤ 9223372036854775807) (h3 : cErr l v num den = 0) (ht : 0 ≤ t ∧ t ≤ 10999) (hr : 0 ≤ risk ∧ risk ≤ 1000) :
  Ev (fun k => Lw_LineKept.j0 k t risk false l v num den) true := by
 obtain ⟨⟨l1, l2⟩, ⟨v1, v2⟩, h4, _, hL, hV⟩ := cErr_zero h3
 have hn : nErr v (l.length : Int) = 0 := by
  unfold nErr
  rw [if_pos hV, if_pos (by omega), if_pos (by simpa using h4)]
 have hv := lErr_ok hV
 have h0 : 0 < v.length ^ l.length := Nat.pow_pos (by omega)
 have hR : ∀ s, R v (l.length : Int) s = pt (cntUp (hit (qrow (l.length : Int)) v s) (v.length ^ l.length)) (v.length ^ l.length) := fun s => rfl
 have hC : ∀ (w : List Int) (s : Int), cntUp (hit w v s) (v.length ^ l.length) ≤ v.length ^ l.length := fun w s => cntUp_le _ _
 have hpart : ∀ s, Ev (fun k => Lw_part.f k (R v (l.length : Int) s).1 (R v (l.length : Int) s).2) true := fun s => by rw [hR]; exact part_ev (hC _ _) h0 h4
 have hin := fun s => R_in hn s
 have hw : ∀ s, 0 ≤ risk * (R v (l.length : Int) s).2 ∧ risk * (R v (l.length : Int) s).2 ≤ 1000 * 4096 := fun s => ⟨Int.mul_nonneg hr.1 (by have := hin s; omega), Int.mul_le_mul hr.2 (hin s).2.2 (by have := hin s; omega) (by omega)⟩
 obtain ⟨u, hu, _, hp⟩ := thr_ex hn hr
 have hu0 : 0 ≤ u ∧ u ≤ 1001 := by
  rcases cands_ge hv u hu.1 with rfl | ⟨x, hx, rfl⟩
  ·omega
  ·have := hv x hx; omega
 have hte : ∀ s, 0 ≤ s ∧ s ≤ 11000 → thErr s = 0 := fun s hs => if_pos hs
 have hF : ∀ s, 0 ≤ s ∧ s ≤ 11000 → Ev (fun k => line_FalseRate.f k v (l.length : Int) s) ((R v (l.length : Int) s).1, (R v (l.length : Int) s).2, 0) := fun s hs => by
  have := FalseRate_ev v (l.length : Int) s
  rw [if_pos hn, if_pos (hte s hs)] at this
  exact this
 refine Ev.succ (f := fun k => Lw_LineKept.j0 k t risk false l v num den) ?_
 simp only [Lw_LineKept.j0, Bool.false_eq_true, if_false]
 rw [CopyNoise_eq v (by omega)]
 simp only [Option.bind_some]
 refine Ev.bind hp ?_
 simp only [if_true, ThresholdErr_eq, Option.bind_some, hte u (by omega), bne_self_eq_false]
 refine Ev.succ (f := fun k => Lw_LineKept.j1 k t risk (l.length : Int) u false l v num den) ?_
 simp only [Lw_LineKept.j1, Bool.false_eq_true, if_false]
 rw [CopyNoise_eq v (by omega)]
 simp only [Option.bind_some]
 refine Ev.bind (hF u (by omega)) ?_
 simp only [if_true]
 refine Ev.bind (hpart u) ?_
 simp only [if_true]
 have hs : ¬ wrap64 (1000 * (R v (l.length : Int) u).1) > wrap64 (risk * (R v (l.length : Int) u).2) := by
  have := of_decide_eq_true hu.2.1
  omega
 simp only [hs, decide_false]
 refine Ev.succ (f := fun k => Lw_LineKept.j2 k t risk (l.length : Int) u false l v num den) ?_
 simp only [Lw_LineKept.j2, Bool.false_eq_true, if_false]
 have hj3 : Ev (fun k => Lw_LineKept.j3 k t (l.length : Int) l v num den) true := by
  refine Ev.succ (f := fun k => Lw_LineKept.j3 k t (l.length : Int) l v num den) ?_
  simp only [Lw_LineKept.j3]
  rw [CopyNoise_eq v (by omega), CopyCase_eq l v num den (by omega) (by omega), w64 (n := t + 1) (by omega)]
  simp only [Option.bind_some]
  refine Ev.bind (hF t (by omega)) ?_
  refine Ev.bind (hF (t + 1) (by omega)) ?_
  obtain ⟨q, hd, hq⟩ := DetectedRate_ev l v (t := t) hx hy
  rw [if_pos h3, if_pos (hte t (by omega)), hq h3] at hd
  refine Ev.bind hd ?_
  simp only [if_true]
  refine Ev.bind (hpart t) ?_
  simp only [if_true]
  refine Ev.bind (hpart (t + 1)) ?_
  simp only [if_true]
  refine Ev.bind (part_ev (c := cntUp (hit l v t) (v.length ^ l.length)) (hC _ _) h0 h4) ?_
  simp only [if_true]
  have m1 : cntUp (hit (qrow (l.length : Int)) v (t + 1)) (v.length ^ l.length) ≤ cntUp (hit (qrow (l.length : Int)) v t) (v.length ^ l.length) := cntUp_mono _ (fun j _ h => by
   unfold hit at h ⊢
   rw [decide_eq_true_eq] at h ⊢
   omega)
  have m2 : cntUp (hit (qrow (l.length : Int)) v t) (v.length ^ l.length) ≤ cntUp (hit l v t) (v.length ^ l.length) := cntUp_mono _ (fun j _ h => by
   unfold hit at h ⊢
   rw [decide_eq_true_eq] at h ⊢
   obtain ⟨x, hx, hle⟩ := nzF_over v1 hv l (j : Int) (by omega) (lErr_ok hL) _ (show lmax (nzF v (qrow (l.length : Int)) (j : Int)) ∈ nzF v (List.replicate l.length 0) (j : Int) from lmax_mem _ (by rw [nzF_length]; simp [qrow]; omega))
   have := le_lmax hx
   omega)
  obtain ⟨⟨z, hz, zn⟩, _⟩ := cmp_pt m1 (hC _ _) h0 h4
  obtain ⟨_, y, hy2, yn⟩ := cmp_pt m2 (hC _ _) h0 h4
  rw [hR, hR, hz]
  simp only [Option.bind_some, zn, if_false]
  rw [show frac ((cntUp (hit l v t) (v.length ^ l.length) : Nat) : Int) ((v.length ^ l.length : Nat) : Int) = pt (cntUp (hit l v t) (v.length ^ l.length)) (v.length ^ l.length) from rfl, hy2]
  simp only [Option.bind_some, yn, decide_false]
  refine Ev.succ (f := fun k => Lw_LineKept.j4 k t (l.length : Int) false l v num den _ _) ?_
  simp only [Lw_LineKept.j4, Bool.false_eq_true, if_false]
  refine Ev.bind (Cases_ev v v1 v2 l.length (by omega)) ?_
  simp only [h4, if_true]
  have hgq := gq_pos (a := ((cntUp (hit l v t) (v.length ^ l.length) : Nat) : Int)) (b := ((v.length ^ l.length : Nat) : Int)) (by have := hC l t; omega) (by omega)
  refine count_l0 l v (t := t) hx hy h3 _ _ true ?_ (v.length ^ l.length) 0 (by omega)
  refine Ev.bind (Lowest_ev (by have := hC l t; omega) (by omega) (by omega)) ?_
  simp only [pt, beq_self_eq_true, Bool.and_self]; exact Ev.some
 by_cases hu1 : u > 0
 ·simp only [hu1, if_true]
  rw [CopyNoise_eq v (by omega), w64 (n := u - 1) (by omega)]
  simp only [Option.bind_some]
  refine Ev.bind (hF (u - 1) (by omega)) ?_
  simp only [if_true]
  refine Ev.bind (hpart (u - 1)) ?_
  have hl := less_not hn hu hu1
  have hs2 : ¬ wrap64 (1000 * (R v (l.length : Int) (u - 1)).1) ≤ wrap64 (risk * (R v (l.length : Int) (u - 1)).2) := by
   unfold sat at hl
   simpa using hl
  simp only [if_true, hs2, if_false]
  exact hj3
 ·simp only [hu1, if_false]; exact hj3
theorem LineKept_ev (l v : List Int) {num den t risk : Int} (hx : -9223372036854775808 ≤ num ∧ num ≤ 9223372036854775807) (hy : -9223372036854775808 ≤ den ∧ den ≤ 9223372036854775807) :
  Ev (fun k => Lw_LineKept.f k l v num den t risk) true := by
 unfold Lw_LineKept.f
 refine Ev.bind awake_ev ?_
 simp only [if_true]
 refine Ev.bind (light_ev l v hx hy) ?_
 have ht : Ev (fun k => Lw_LineKept.j0 k t risk true l v num den) true := by
  refine Ev.succ (f := fun k => Lw_LineKept.j0 k t risk true l v num den) ?_
  simp only [Lw_LineKept.j0, if_true]; exact Ev.some
 by_cases hl : lightB l v num den = true
 ·simp only [hl, if_true]
  refine Ev.bind (CaseErr_ev l v hx hy) ?_
  by_cases h3 : cErr l v num den = 0
  ·simp only [h3, if_true, ThresholdErr_eq, Option.bind_some, Within_eq, decide_eq_true_eq]
   by_cases h5 : thErr t = 0
   ·simp only [h5, if_true]
    by_cases h6 : 0 ≤ t ∧ t ≤ 10999
    ·simp only [h6, and_self, if_true]
     by_cases h7 : 0 ≤ risk ∧ risk ≤ 1000
     ·simp only [h7, and_self, decide_true, Bool.not_true]
      exact LineKept_j0 l v hx hy h3 h6 h7
     ·simp only [h7, decide_false, Bool.not_false]; exact ht
    ·simp only [h6, if_false]; exact ht
   ·simp only [h5, if_false]; exact ht
  ·simp only [h3, if_false]; exact ht
 ·simp only [hl, if_false, Bool.false_eq_true]; exact ht
theorem LineKept_pure (l : List Int) (_ : l.length ≤ maxLen) (_ : ∀ x ∈ l, (Lit.int .i64 x).wf = true) (v : List Int) (_ : v.length ≤ maxLen) (_ : ∀ x ∈ v, (Lit.int .i64 x).wf = true) (num : Int) (hx : (Lit.int .i64 num).wf = true) (den : Int) (hy : (Lit.int .i64 den).wf = true) (t : Int) (_ : (Lit.int .i64 t).wf = true) (risk : Int) (_ : (Lit.int .i64 risk).wf = true) :
  ∃ k, Lw_LineKept.f k l v num den t risk = some true := (LineKept_ev l v (i64_in hx) (i64_in hy)).ex
end Go.Proofs.YtjnkphmcndaijaaDoor.P
