/-
PLAIN LAW: what the walks compute answers as the statement says (no program in sight; Ev: from some number of rounds on).
-/
import Derived.Test.YtjnkphmcndaijaaDoorCas14
import Derived.Test.YtjnkphmcndaijaaDoorCas10
import Derived.Test.YtjnkphmcndaijaaDoorCas04
import Derived.Test.YtjnkphmcndaijaaDoorCas13
import Derived.Test.YtjnkphmcndaijaaDoorCas15
namespace Go.Proofs.YtjnkphmcndaijaaDoor.P
open Go Go.RowKit Go.Proofs.YtjnkphmcndaijaaDoor.A Go.Proofs.YtjnkphmcndaijaaDoorW.PrintWords Go.Proofs.YtjnkphmcndaijaaDoorW.PrintLast Go.Proofs.YtjnkphmcndaijaaDoorW.PrintMore
set_option linter.unusedSimpArgs false
set_option linter.unusedVariables false
/-- From some number of rounds on, f says r. -/
def Ev {α : Type} (f : Nat → Option α) (r : α) : Prop := ∃ k, ∀ j, k ≤ j → f j = some r

theorem Ev.some {α : Type} {r : α} : Ev (fun _ => Option.some r) r := ⟨0, fun _ _ => rfl⟩
theorem Ev.bind {α β : Type} {f : Nat → Option α} {g : Nat → α → Option β} {a : α} {b : β} (h : Ev f a) (h2 : Ev (fun k => g k a) b) : Ev (fun k => (f k).bind (g k)) b := by
  obtain ⟨k, hk⟩ := h
  obtain ⟨m, hm⟩ := h2
  exact ⟨max k m, fun j hj => by show (f j).bind (g j) = _; rw [hk j (by omega)]; exact hm j (by omega)⟩
theorem Ev.succ {α : Type} {f : Nat → Option α} {r : α} (h : Ev (fun k => f (k + 1)) r) : Ev f r := by
  obtain ⟨k, hk⟩ := h
  exact ⟨k + 1, fun j hj => by obtain ⟨m, rfl⟩ : ∃ m, j = m + 1 := ⟨j - 1, by omega⟩; exact hk m (by omega)⟩
theorem Ev.congr {α : Type} {f g : Nat → Option α} {r : α} (e : ∀ k, f k = g k) (h : Ev f r) : Ev g r := by
  obtain ⟨k, hk⟩ := h
  exact ⟨k, fun j hj => by rw [← e j]; exact hk j hj⟩
theorem Ev.ex {α : Type} {f : Nat → Option α} {r : α} (h : Ev f r) : ∃ k, f k = Option.some r := let ⟨k, hk⟩ := h; ⟨k, hk k (Nat.le_refl _)⟩
theorem Ev.of_mono {α : Type} {f : Nat → Option α} {r : α} (hm : ∀ k, LeO (f k) (f (k + 1))) {k : Nat} (h : f k = Option.some r) : Ev f r := by
  refine ⟨k, fun j hj => ?_⟩
  induction j with
  | zero => obtain rfl : k = 0 := by omega
            exact h
  | succ j ih =>
    by_cases e : k = j + 1
    · subst e; exact h
    · exact hm j r (ih (by omega))
theorem up {i : Nat} (h : i < 4611686018427387904) : wrap64 ((i : Int) + 1) = ((i + 1 : Nat) : Int) := by
  unfold wrap64; omega
theorem w64 {n : Int} (h : -9223372036854775808 ≤ n ∧ n ≤ 9223372036854775807) : wrap64 n = n := by unfold wrap64; omega
theorem rd_nat (l : List Int) (i : Nat) : rd l (i : Int) = l.getD i 0 := by unfold rd; simp
theorem drop_rd {l : List Int} {i : Nat} (h : i < l.length) : l.drop i = rd l (i : Int) :: l.drop (i + 1) := by
  rw [rd_nat, List.drop_eq_getElem_cons h]
  simp [List.getD_eq_getElem?_getD, h]

theorem mx_eq (a b : Int) : mx a b = max a b := by unfold mx; split <;> omega

theorem within_eq (a b c : Int) : line_within.f a b c = some (decide (b ≤ a ∧ a ≤ c)) := by
  unfold line_within.f
  by_cases h : b ≤ a <;> simp [h]
theorem Within_eq (a b c : Int) : glidepathbase_Within.f a b c = some (decide (b ≤ a ∧ a ≤ c)) := by
  unfold glidepathbase_Within.f
  by_cases h : b ≤ a <;> simp [h]
theorem unless_eq (b : Bool) (e : Int) : line_unless.f b e = some (if b = true then 0 else e) := by
  unfold line_unless.f
  cases b <;> simp
theorem Size_eq (a : Int) : glidepathbase_Size.f a = some (mx a (wrap64 (-a))) := rfl
theorem short_eq (l : List Int) : glidepathlaw02_short.f l = some (decide ((l.length : Int) ≤ 20)) := rfl

/-- The first number that is not 0. -/
def fnz : List Int → Int
  | [] => 0
  | x :: r => if x = 0 then fnz r else x

theorem first_l0 (l : List Int) (hl : l.length < 4611686018427387904) : ∀ (n i : Nat), i + n = l.length → Ev (fun k => line_first.l0 k l (l.length : Int) (i : Int)) (fnz (l.drop i))
  | 0, i, h => by
    refine Ev.succ (f := fun k => line_first.l0 k l (l.length : Int) (i : Int)) ?_
    have h1 : ¬ (i : Int) < (l.length : Int) := by omega
    simp only [line_first.l0, h1, if_false]
    rw [show l.drop i = [] from List.drop_eq_nil_of_le (by omega)]
    exact Ev.some
  | n + 1, i, h => by
    refine Ev.succ (f := fun k => line_first.l0 k l (l.length : Int) (i : Int)) ?_
    have h1 : (i : Int) < (l.length : Int) := by omega
    have h2 : (0 : Int) ≤ (i : Int) := by omega
    simp only [line_first.l0, h1, h2, if_true, up (show i < 4611686018427387904 by omega)]
    rw [drop_rd (show i < l.length by omega)]
    unfold fnz
    by_cases e : rd l (i : Int) = 0
    · simp only [e, if_true]
      exact first_l0 l hl n (i + 1) (by omega)
    · simp only [e, if_false]
      exact Ev.some
theorem first_ev (l : List Int) (hl : l.length < 4611686018427387904) : Ev (fun k => line_first.f k l) (fnz l) := first_l0 l hl l.length 0 (by omega)

/-- Not from 0 to m. -/
def bad (m x : Int) : Bool := !(decide (0 ≤ x) && decide (x ≤ m))
theorem within_bad (m x : Int) : decide (0 ≤ x ∧ x ≤ m) = !bad m x := by
  unfold bad; by_cases h : 0 ≤ x <;> by_cases h2 : x ≤ m <;> simp [h, h2]
/-- The index of the first one that is not within, or none; the number of the error. -/
def lErr (l : List Int) (n : Nat) (m : Int) : Int × Int :=
  if l.length = 0 then (0, 10) else if n < l.length then (0, 8) else
    if idxF (bad m) l ≥ 0 then (idxF (bad m) l, 2) else (0, 0)

theorem listErr_eq (l : List Int) (n : Nat) (m : Int) : line_listErr.f l (n : Int) m = some (lErr l n m) := by
  have hb : (fun x : Int => !(decide (0 ≤ x) && decide (x ≤ m))) = bad m := rfl
  unfold line_listErr.f lErr
  rw [hb]
  by_cases h0 : l.length = 0
  · simp only [h0, if_true]
  · by_cases h1 : n < l.length
    · have h2 : (n : Int) < (l.length : Int) := by omega
      simp only [h0, h1, h2, if_true, if_false]
    · have h2 : ¬ (n : Int) < (l.length : Int) := by omega
      simp only [h0, h1, h2, if_false]
      split <;> rfl
theorem lineCheckSpectrum_eq (l : List Int) : line_CheckSpectrum.f l = some (lErr l 16 10000) := by
  have h : line_listErr.f l 16 10000 = some (lErr l 16 10000) := listErr_eq l 16 10000
  unfold line_CheckSpectrum.f; rw [h]; rfl
theorem lineCheckNoise_eq (l : List Int) : line_CheckNoise.f l = some (lErr l 4 1000) := by
  have h : line_listErr.f l 4 1000 = some (lErr l 4 1000) := listErr_eq l 4 1000
  unfold line_CheckNoise.f; rw [h]; rfl

theorem idxF_nil (p : Int → Bool) : idxF p [] = -1 := rfl
theorem idxF_ge (p : Int → Bool) (l : List Int) : -1 ≤ idxF p l := by
  unfold idxF
  cases l.findIdx? p <;> simp <;> omega
theorem idxF_cons (p : Int → Bool) (a : Int) (r : List Int) : idxF p (a :: r) = if p a = true then 0 else if idxF p r ≥ 0 then idxF p r + 1 else -1 := by
  unfold idxF
  rw [List.findIdx?_cons]
  by_cases h : p a = true
  · simp [h]
  · simp only [h, if_false, Bool.false_eq_true]
    cases r.findIdx? p with
    | none => simp
    | some i => simp <;> omega

theorem refSpectrum_l0 (l : List Int) (hl : l.length < 4611686018427387904) : ∀ (n i : Nat), i + n = l.length →
    Ev (fun k => glidepathref02_CheckSpectrum.l0 k l (i : Int)) (if idxF (bad 10000) (l.drop i) ≥ 0 then (idxF (bad 10000) (l.drop i) + i, 2) else (0, 0))
  | 0, i, h => by
    refine Ev.succ (f := fun k => glidepathref02_CheckSpectrum.l0 k l (i : Int)) ?_
    have h1 : ¬ (i : Int) < (l.length : Int) := by omega
    simp only [glidepathref02_CheckSpectrum.l0, h1, if_false]
    rw [show l.drop i = [] from List.drop_eq_nil_of_le (by omega), idxF_nil]
    exact Ev.some
  | n + 1, i, h => by
    refine Ev.succ (f := fun k => glidepathref02_CheckSpectrum.l0 k l (i : Int)) ?_
    have h1 : (i : Int) < (l.length : Int) := by omega
    have h2 : (0 : Int) ≤ (i : Int) := by omega
    simp only [glidepathref02_CheckSpectrum.l0, h1, h2, if_true, up (show i < 4611686018427387904 by omega), Within_eq, within_bad, Option.bind_some]
    rw [drop_rd (show i < l.length by omega), idxF_cons]
    cases e : bad 10000 (rd l (i : Int)) with
    | false =>
      simp only [e, Bool.not_false, if_true, Bool.false_eq_true, if_false]
      have ih := refSpectrum_l0 l hl n (i + 1) (by omega)
      have hg := idxF_ge (bad 10000) (l.drop (i + 1))
      by_cases q : idxF (bad 10000) (l.drop (i + 1)) ≥ 0
      · simp only [q, if_true] at ih ⊢
        rw [if_pos (by omega), show idxF (bad 10000) (l.drop (i + 1)) + 1 + (i : Int) = idxF (bad 10000) (l.drop (i + 1)) + ((i + 1 : Nat) : Int) by omega]
        exact ih
      · simp only [q, if_false] at ih ⊢
        exact ih
    | true =>
      simp only [e, Bool.not_true, Bool.false_eq_true, if_false, if_true]
      rw [if_pos (by omega), Int.zero_add]
      exact Ev.some
theorem refCheckSpectrum_ev (l : List Int) : Ev (fun k => glidepathref02_CheckSpectrum.f k l) (lErr l 16 10000) := by
  unfold glidepathref02_CheckSpectrum.f lErr
  by_cases h0 : l.length = 0
  · have : (l.length : Int) = 0 := by omega
    simp only [h0, if_true]
    exact Ev.some
  · have h0' : ¬ (l.length : Int) = 0 := by omega
    by_cases h1 : 16 < l.length
    · have h2 : (l.length : Int) > 16 := by omega
      simp only [h0, h0', h1, h2, if_true, if_false]
      exact Ev.some
    · have h2 : ¬ (l.length : Int) > 16 := by omega
      simp only [h0, h0', h1, h2, if_false]
      have := refSpectrum_l0 l (by omega) l.length 0 (by omega)
      simpa using this
theorem refNoise_l0 (l : List Int) (hl : l.length < 4611686018427387904) : ∀ (n i : Nat), i + n = l.length →
    Ev (fun k => glidepathref02_CheckNoise.l0 k (i : Int) l) (if idxF (bad 1000) (l.drop i) ≥ 0 then (idxF (bad 1000) (l.drop i) + i, 2) else (0, 0))
  | 0, i, h => by
    refine Ev.succ (f := fun k => glidepathref02_CheckNoise.l0 k (i : Int) l) ?_
    have h1 : ¬ (i : Int) < (l.length : Int) := by omega
    simp only [glidepathref02_CheckNoise.l0, h1, if_false]
    rw [show l.drop i = [] from List.drop_eq_nil_of_le (by omega), idxF_nil]
    exact Ev.some
  | n + 1, i, h => by
    refine Ev.succ (f := fun k => glidepathref02_CheckNoise.l0 k (i : Int) l) ?_
    have h1 : (i : Int) < (l.length : Int) := by omega
    have h2 : (0 : Int) ≤ (i : Int) := by omega
    simp only [glidepathref02_CheckNoise.l0, h1, h2, if_true, up (show i < 4611686018427387904 by omega), Within_eq, within_bad, Option.bind_some]
    rw [drop_rd (show i < l.length by omega), idxF_cons]
    cases e : bad 1000 (rd l (i : Int)) with
    | false =>
      simp only [e, Bool.not_false, if_true, Bool.false_eq_true, if_false]
      have ih := refNoise_l0 l hl n (i + 1) (by omega)
      have hg := idxF_ge (bad 1000) (l.drop (i + 1))
      by_cases q : idxF (bad 1000) (l.drop (i + 1)) ≥ 0
      · simp only [q, if_true] at ih ⊢
        rw [if_pos (by omega), show idxF (bad 1000) (l.drop (i + 1)) + 1 + (i : Int) = idxF (bad 1000) (l.drop (i + 1)) + ((i + 1 : Nat) : Int) by omega]
        exact ih
      · simp only [q, if_false] at ih ⊢
        exact ih
    | true =>
      simp only [e, Bool.not_true, Bool.false_eq_true, if_false, if_true]
      rw [if_pos (by omega), Int.zero_add]
      exact Ev.some
theorem refCheckNoise_ev (l : List Int) : Ev (fun k => glidepathref02_CheckNoise.f k l) (lErr l 4 1000) := by
  unfold glidepathref02_CheckNoise.f lErr
  by_cases h0 : l.length = 0
  · have : (l.length : Int) = 0 := by omega
    simp only [h0, if_true]
    exact Ev.some
  · have h0' : ¬ (l.length : Int) = 0 := by omega
    by_cases h1 : 4 < l.length
    · have h2 : (l.length : Int) > 4 := by omega
      simp only [h0, h0', h1, h2, if_true, if_false]
      exact Ev.some
    · have h2 : ¬ (l.length : Int) > 4 := by omega
      simp only [h0, h0', h1, h2, if_false]
      have := refNoise_l0 l (by omega) l.length 0 (by omega)
      simpa using this
/-- What the program says for it (the one number without a positive twin stays as it is). -/
def gq (x y : Int) : Int := if Int.gcd x y = 9223372036854775808 then -9223372036854775808 else (Int.gcd x y : Int)

theorem size_abs {x : Int} (h : -9223372036854775808 ≤ x ∧ x ≤ 9223372036854775807) : mx x (wrap64 (-x)) = gq x 0 := by
  unfold gq
  rw [Int.gcd_zero_right]
  unfold mx wrap64
  by_cases e : x = -9223372036854775808
  · subst e; rfl
  · rw [if_neg (show ¬ x.natAbs = 9223372036854775808 by omega)]
    split <;> omega

theorem gcd_step (x y : Int) : gq y (x.tmod y) = gq x y := by
  have : Int.gcd y (x.tmod y) = Int.gcd x y := by
    show Nat.gcd y.natAbs (x.tmod y).natAbs = Nat.gcd x.natAbs y.natAbs
    rw [Int.natAbs_tmod, Nat.gcd_comm, ← Nat.gcd_rec, Nat.gcd_comm]
  unfold gq
  rw [this]

theorem tmod_in {x y : Int} (hx : -9223372036854775808 ≤ x ∧ x ≤ 9223372036854775807) (hy : -9223372036854775808 ≤ y ∧ y ≤ 9223372036854775807) (h0 : y ≠ 0) : (x.tmod y).natAbs < y.natAbs ∧ -9223372036854775808 ≤ x.tmod y ∧ x.tmod y ≤ 9223372036854775807 := by
  have h : (x.tmod y).natAbs < y.natAbs := by
    rw [Int.natAbs_tmod]
    exact Nat.mod_lt _ (by omega)
  omega

theorem gcd_l0 : ∀ (m : Nat) (x y : Int), y.natAbs ≤ m → (-9223372036854775808 ≤ x ∧ x ≤ 9223372036854775807) → (-9223372036854775808 ≤ y ∧ y ≤ 9223372036854775807) → Ev (fun k => glidepathbase_Gcd.l0 k x y) (gq x y)
  | 0, x, y, h, hx, _ => by
    refine Ev.succ (f := fun k => glidepathbase_Gcd.l0 k x y) ?_
    obtain rfl : y = 0 := by omega
    simp only [glidepathbase_Gcd.l0, if_true, Size_eq, Option.bind_some, size_abs hx]
    exact Ev.some
  | m + 1, x, y, h, hx, hy => by
    refine Ev.succ (f := fun k => glidepathbase_Gcd.l0 k x y) ?_
    by_cases h0 : y = 0
    · subst h0
      simp only [glidepathbase_Gcd.l0, if_true, Size_eq, Option.bind_some, size_abs hx]
      exact Ev.some
    · simp only [glidepathbase_Gcd.l0, h0, if_false]
      have ht := tmod_in hx hy h0
      rw [← gcd_step x y]
      exact gcd_l0 m y (x.tmod y) (by omega) hy ht.2
theorem gcd_ev {x y : Int} (hx : -9223372036854775808 ≤ x ∧ x ≤ 9223372036854775807) (hy : -9223372036854775808 ≤ y ∧ y ≤ 9223372036854775807) : Ev (fun k => glidepathbase_Gcd.f k x y) (gq x y) := gcd_l0 _ x y (Nat.le_refl _) hx hy
theorem divisor_eq : ∀ (k : Nat) (x y : Int), line_divisor.l0 k x y = glidepathbase_Gcd.l0 k x y
  | 0, _, _ => rfl
  | k + 1, x, y => by
    simp only [line_divisor.l0, glidepathbase_Gcd.l0, divisor_eq k, Size_eq, Option.bind_some]
theorem divisor_ev {x y : Int} (hx : -9223372036854775808 ≤ x ∧ x ≤ 9223372036854775807) (hy : -9223372036854775808 ≤ y ∧ y ≤ 9223372036854775807) : Ev (fun k => line_divisor.f k x y) (gq x y) :=
  Ev.congr (f := fun k => glidepathbase_Gcd.f k x y) (fun k => (divisor_eq k x y).symm) (gcd_ev hx hy)

def tErr (num den : Int) : Int := if den ≤ 0 then 3 else if gq num den = 1 then (if (-100 ≤ num ∧ num ≤ 100) ∧ den ≤ 100 then 0 else 2) else 3

theorem lowestErr_ev {num den : Int} (hx : -9223372036854775808 ≤ num ∧ num ≤ 9223372036854775807) (hy : -9223372036854775808 ≤ den ∧ den ≤ 9223372036854775807) :
    Ev (fun k => line_lowestErr.f k num den 100) (tErr num den) := by
  unfold line_lowestErr.f tErr
  have hj : ∀ b : Bool, Ev (fun k => line_lowestErr.j0 k 100 b num den) (if b = true then 3 else if (-100 ≤ num ∧ num ≤ 100) ∧ den ≤ 100 then 0 else 2) := fun b => by
    refine Ev.succ (f := fun k => line_lowestErr.j0 k 100 b num den) ?_
    cases b with
    | true => simp only [line_lowestErr.j0, if_true]; exact Ev.some
    | false =>
      simp only [line_lowestErr.j0, Bool.false_eq_true, if_false, within_eq, unless_eq, Option.bind_some, show wrap64 (-100) = -100 by unfold wrap64; omega]
      by_cases h1 : -100 ≤ num ∧ num ≤ 100
      · by_cases h2 : den ≤ 100
        · simp only [h1, h2, and_self, decide_true, if_true]; exact Ev.some
        · simp only [h1, h2, and_self, and_false, decide_true, decide_false, if_true, if_false, Bool.false_eq_true]; exact Ev.some
      · simp only [h1, decide_false, false_and, if_false, Bool.false_eq_true]; exact Ev.some
  by_cases h0 : den ≤ 0
  · simp only [h0, if_true]
    have := hj true
    simpa using this
  · simp only [h0, if_false]
    refine Ev.bind (divisor_ev hx hy) ?_
    refine cast ?_ (hj (gq num den != 1))
    congr 1
    by_cases h1 : gq num den = 1 <;> simp [h1]

theorem TruthErr_ev {num den : Int} (hx : -9223372036854775808 ≤ num ∧ num ≤ 9223372036854775807) (hy : -9223372036854775808 ≤ den ∧ den ≤ 9223372036854775807) :
    Ev (fun k => glidepathref02_TruthErr.f k num den) (tErr num den) := by
  have h1 : Ev (fun k => glidepathbase_IsLowest.f k num den) (decide (¬ den ≤ 0 ∧ gq num den = 1)) := by
    unfold glidepathbase_IsLowest.f
    by_cases h0 : den ≤ 0
    · simp only [show ¬ den > 0 by omega, if_false, h0, not_true, false_and, decide_false]
      exact Ev.some
    · simp only [show den > 0 by omega, if_true, h0, not_false_iff, true_and]
      refine Ev.bind (gcd_ev hx hy) ?_
      by_cases e : gq num den = 1
      · simp only [e]; exact Ev.some
      · simp only [e, decide_false, show (gq num den == 1) = false from beq_eq_false_iff_ne.mpr e]; exact Ev.some
  have h2 : ∃ s : Int, Ev (fun k => glidepathref02_FracErr.f k num den) s ∧ ((¬ den ≤ 0 ∧ gq num den = 1) → s = (if (-1000000000 ≤ num ∧ num ≤ 1000000000) ∧ 1 ≤ den ∧ den ≤ 1000000000 then 0 else 2)) ∧ (¬ (¬ den ≤ 0 ∧ gq num den = 1) → s = 3) := by
    unfold glidepathref02_FracErr.f
    by_cases e : ¬ den ≤ 0 ∧ gq num den = 1
    · refine ⟨if (-1000000000 ≤ num ∧ num ≤ 1000000000) ∧ 1 ≤ den ∧ den ≤ 1000000000 then 0 else 2, Ev.bind h1 ?_, fun _ => rfl, fun h => absurd e h⟩
      simp only [e, not_false_iff, and_self, decide_true, if_true, glidepathbase_IsSmall.f, Within_eq, Option.bind_some]
      by_cases q : -1000000000 ≤ num ∧ num ≤ 1000000000
      · by_cases r : 1 ≤ den ∧ den ≤ 1000000000
        · simp only [q, r, and_self, decide_true, if_true, Option.bind_some]; exact Ev.some
        · simp only [q, r, and_self, and_false, decide_true, decide_false, if_true, if_false, Bool.false_eq_true, Option.bind_some]; exact Ev.some
      · simp only [q, false_and, decide_false, if_false, Bool.false_eq_true, Option.bind_some]; exact Ev.some
    · refine ⟨3, Ev.bind h1 ?_, fun h => absurd h e, fun _ => rfl⟩
      simp only [e, decide_false, Bool.false_eq_true, if_false]; exact Ev.some
  obtain ⟨s, hs, ht, hf⟩ := h2
  unfold glidepathref02_TruthErr.f
  refine Ev.bind hs ?_
  unfold tErr
  by_cases h0 : den ≤ 0
  · rw [hf (fun h => h.1 h0)]
    simp only [h0, if_true, show ¬ (3 : Int) = 0 by decide, if_false]; exact Ev.some
  · by_cases e : gq num den = 1
    · rw [ht ⟨h0, e⟩]
      by_cases q : -100 ≤ num ∧ num ≤ 100
      · by_cases r : den ≤ 100
        · have : (-1000000000 ≤ num ∧ num ≤ 1000000000) ∧ 1 ≤ den ∧ den ≤ 1000000000 := by omega
          simp only [this, h0, e, q, r, show ¬ den > 100 by omega, and_self, if_true, if_false, Within_eq, Option.bind_some, decide_true]; exact Ev.some
        · by_cases big : (-1000000000 ≤ num ∧ num ≤ 1000000000) ∧ 1 ≤ den ∧ den ≤ 1000000000
          · simp only [big, h0, e, q, r, show den > 100 by omega, and_self, and_false, if_true, if_false, Within_eq, Option.bind_some, decide_true]; exact Ev.some
          · simp only [big, h0, e, q, r, and_false, if_false, if_true, show ¬ (2 : Int) = 0 by decide]; exact Ev.some
      · by_cases big : (-1000000000 ≤ num ∧ num ≤ 1000000000) ∧ 1 ≤ den ∧ den ≤ 1000000000
        · simp only [big, h0, e, q, false_and, and_self, if_true, if_false, Within_eq, Option.bind_some, decide_false, Bool.false_eq_true]; exact Ev.some
        · simp only [big, h0, e, q, false_and, if_false, if_true, show ¬ (2 : Int) = 0 by decide]; exact Ev.some
    · rw [hf (fun h => e h.2)]
      simp only [h0, e, if_false, show ¬ (3 : Int) = 0 by decide]; exact Ev.some

theorem cases_l0 (v : List Int) (h1 : 1 ≤ v.length) (h4 : v.length ≤ 4) (n : Nat) (hn : n < 4611686018427387904) : ∀ (d i : Nat), i + d = n → v.length ^ i ≤ 4096 →
    Ev (fun k => line_cases.l0 k ((v.length ^ i : Nat) : Int) (n : Int) (i : Int) v) (if v.length ^ n ≤ 4096 then (((v.length ^ n : Nat) : Int), true) else (0, false))
  | 0, i, h, hp => by
    refine Ev.succ (f := fun k => line_cases.l0 k ((v.length ^ i : Nat) : Int) (n : Int) (i : Int) v) ?_
    obtain rfl : i = n := by omega
    simp only [line_cases.l0, show ¬ (i : Int) < (i : Int) by omega, if_false, hp, if_true]
    exact Ev.some
  | d + 1, i, h, hp => by
    refine Ev.succ (f := fun k => line_cases.l0 k ((v.length ^ i : Nat) : Int) (n : Int) (i : Int) v) ?_
    have e : ((v.length ^ i : Nat) : Int) * (v.length : Int) = ((v.length ^ (i + 1) : Nat) : Int) := by rw [Nat.pow_succ]; push_cast; rfl
    have hle : v.length ^ (i + 1) ≤ 4096 * 4 := by rw [Nat.pow_succ]; exact Nat.mul_le_mul hp h4
    simp only [line_cases.l0, show (i : Int) < (n : Int) by omega, if_true, e, w64 (n := ((v.length ^ (i + 1) : Nat) : Int)) (by omega), up (show i < 4611686018427387904 by omega)]
    by_cases q : v.length ^ (i + 1) ≤ 4096
    · simp only [show ¬ ((v.length ^ (i + 1) : Nat) : Int) > 4096 by omega, if_false]
      exact cases_l0 v h1 h4 n hn d (i + 1) (by omega) q
    · have : v.length ^ (i + 1) ≤ v.length ^ n := Nat.pow_le_pow_right h1 (by omega)
      rw [if_neg (show ¬ v.length ^ n ≤ 4096 by omega)]
      simp only [show ((v.length ^ (i + 1) : Nat) : Int) > 4096 by omega, if_true]
      exact Ev.some
theorem cases_ev (v : List Int) (h1 : 1 ≤ v.length) (h4 : v.length ≤ 4) (n : Nat) (hn : n < 4611686018427387904) :
    Ev (fun k => line_cases.f k v (n : Int)) (if v.length ^ n ≤ 4096 then (((v.length ^ n : Nat) : Int), true) else (0, false)) := by
  have := cases_l0 v h1 h4 n hn n 0 (by omega) (by simp)
  simpa [line_cases.f] using this
theorem Cases_l0 (v : List Int) (h1 : 1 ≤ v.length) (h4 : v.length ≤ 4) (n : Nat) (hn : n < 4611686018427387904) : ∀ (d i : Nat), i + d = n → v.length ^ i ≤ 4096 →
    Ev (fun k => glidepathref02_Cases.l0 k (n : Int) ((v.length ^ i : Nat) : Int) (i : Int) v) (if v.length ^ n ≤ 4096 then ((v.length ^ n : Nat) : Int) else 4097)
  | 0, i, h, hp => by
    refine Ev.succ (f := fun k => glidepathref02_Cases.l0 k (n : Int) ((v.length ^ i : Nat) : Int) (i : Int) v) ?_
    obtain rfl : i = n := by omega
    simp only [glidepathref02_Cases.l0, show ¬ (i : Int) < (i : Int) by omega, if_false, hp, if_true]
    exact Ev.some
  | d + 1, i, h, hp => by
    refine Ev.succ (f := fun k => glidepathref02_Cases.l0 k (n : Int) ((v.length ^ i : Nat) : Int) (i : Int) v) ?_
    have e : ((v.length ^ i : Nat) : Int) * (v.length : Int) = ((v.length ^ (i + 1) : Nat) : Int) := by rw [Nat.pow_succ]; push_cast; rfl
    have hle : v.length ^ (i + 1) ≤ 4096 * 4 := by rw [Nat.pow_succ]; exact Nat.mul_le_mul hp h4
    simp only [glidepathref02_Cases.l0, show (i : Int) < (n : Int) by omega, if_true, e, w64 (n := ((v.length ^ (i + 1) : Nat) : Int)) (by omega), up (show i < 4611686018427387904 by omega)]
    by_cases q : v.length ^ (i + 1) ≤ 4096
    · simp only [show ¬ ((v.length ^ (i + 1) : Nat) : Int) > 4096 by omega, if_false]
      exact Cases_l0 v h1 h4 n hn d (i + 1) (by omega) q
    · have : v.length ^ (i + 1) ≤ v.length ^ n := Nat.pow_le_pow_right h1 (by omega)
      rw [if_neg (show ¬ v.length ^ n ≤ 4096 by omega)]
      simp only [show ((v.length ^ (i + 1) : Nat) : Int) > 4096 by omega, if_true]
      exact Ev.some
theorem Cases_ev (v : List Int) (h1 : 1 ≤ v.length) (h4 : v.length ≤ 4) (n : Nat) (hn : n < 4611686018427387904) :
    Ev (fun k => glidepathref02_Cases.f k v (n : Int)) (if v.length ^ n ≤ 4096 then ((v.length ^ n : Nat) : Int) else 4097) := by
  have := Cases_l0 v h1 h4 n hn n 0 (by omega) (by simp)
  simpa [glidepathref02_Cases.f] using this

def lmx : List Int → Int → Int
  | [], a => a
  | x :: r, a => lmx r (mx a x)
theorem max_l0 (l : List Int) (hl : l.length < 4611686018427387904) : ∀ (n i : Nat) (a : Int), i + n = l.length → Ev (fun k => slices_Max_int_int.l0 k l a (i : Int)) (lmx (l.drop i) a)
  | 0, i, a, h => by
    refine Ev.succ (f := fun k => slices_Max_int_int.l0 k l a (i : Int)) ?_
    simp only [slices_Max_int_int.l0, show ¬ (i : Int) < (l.length : Int) by omega, if_false]
    rw [show l.drop i = [] from List.drop_eq_nil_of_le (by omega)]
    exact Ev.some
  | n + 1, i, a, h => by
    refine Ev.succ (f := fun k => slices_Max_int_int.l0 k l a (i : Int)) ?_
    simp only [slices_Max_int_int.l0, show (i : Int) < (l.length : Int) by omega, show (0 : Int) ≤ (i : Int) by omega, if_true, up (show i < 4611686018427387904 by omega)]
    rw [drop_rd (show i < l.length by omega)]
    exact max_l0 l hl n (i + 1) _ (by omega)
theorem max_ev (l : List Int) (h0 : 0 < l.length) (hl : l.length < 4611686018427387904) : Ev (fun k => slices_Max_int_int.f k l) (lmx (l.drop 1) (rd l 0)) := by
  unfold slices_Max_int_int.f
  simp only [show ¬ (l.length : Int) < 1 by omega, show (0 : Int) < (l.length : Int) by omega, if_true, if_false]
  exact max_l0 l hl (l.length - 1) 1 _ (by omega)
theorem lmx_le : ∀ (l : List Int) (a b : Int), lmx l a ≤ b ↔ a ≤ b ∧ ∀ x ∈ l, x ≤ b
  | [], a, b => by simp [lmx]
  | x :: r, a, b => by
    rw [lmx, lmx_le r, mx_eq]
    simp only [List.mem_cons, forall_eq_or_imp]
    constructor
    · rintro ⟨h, h2⟩; exact ⟨by omega, by omega, h2⟩
    · rintro ⟨h, h2, h3⟩; exact ⟨by omega, h3⟩
theorem max_le (l : List Int) (h0 : 0 < l.length) (b : Int) : lmx (l.drop 1) (rd l 0) ≤ b ↔ ∀ x ∈ l, x ≤ b := by
  rw [lmx_le]
  have e := drop_rd (l := l) (i := 0) h0
  simp only [List.drop_zero, Nat.zero_add] at e
  constructor
  · rintro ⟨h1, h2⟩ x hx
    rw [e] at hx
    rcases List.mem_cons.1 hx with rfl | hx
    · exact h1
    · exact h2 x hx
  · intro h
    exact ⟨h _ (by rw [e]; exact List.mem_cons_self), fun x hx => h x (List.mem_of_mem_drop hx)⟩

def cErr (l v : List Int) (num den : Int) : Int :=
  if (lErr l 16 10000).2 = 0 then (if (lErr v 4 1000).2 = 0 then (if l.all (fun x => decide (x ≤ 9000)) = true then (if v.length ^ l.length ≤ 4096 then tErr num den else 8) else 2) else (lErr v 4 1000).2) else (lErr l 16 10000).2

theorem lErr_len {l : List Int} {n : Nat} {m : Int} (h : (lErr l n m).2 = 0) : 1 ≤ l.length ∧ l.length ≤ n := by
  unfold lErr at h
  by_cases h0 : l.length = 0
  · simp [h0] at h
  · by_cases h1 : n < l.length
    · simp [h0, h1] at h
    · omega
theorem CheckCase_ev (l v : List Int) {num den : Int} (hx : -9223372036854775808 ≤ num ∧ num ≤ 9223372036854775807) (hy : -9223372036854775808 ≤ den ∧ den ≤ 9223372036854775807) :
    Ev (fun k => line_CheckCase.f k l v num den) (cErr l v num den) := by
  unfold line_CheckCase.f cErr
  rw [lineCheckSpectrum_eq, lineCheckNoise_eq]
  simp only [Option.bind_some]
  refine Ev.bind (first_ev _ (by simp)) ?_
  by_cases h1 : (lErr l 16 10000).2 = 0
  · by_cases h2 : (lErr v 4 1000).2 = 0
    · obtain ⟨l1, l2⟩ := lErr_len h1
      obtain ⟨v1, v2⟩ := lErr_len h2
      simp only [h1, h2, fnz, if_true]
      refine Ev.bind (cases_ev v v1 v2 l.length (by omega)) ?_
      refine Ev.bind (max_ev l (by omega) (by omega)) ?_
      simp only [unless_eq, Option.bind_some]
      refine Ev.bind (lowestErr_ev hx hy) ?_
      refine Ev.bind (first_ev _ (by simp)) ?_
      have hm := max_le l (by omega) 9000
      by_cases a : l.all (fun x => decide (x ≤ 9000)) = true
      · have a' : lmx (l.drop 1) (rd l 0) ≤ 9000 := hm.2 (by simpa using a)
        by_cases c : v.length ^ l.length ≤ 4096
        · simp only [a, a', c, fnz, decide_true, if_true]
          by_cases t : tErr num den = 0
          · simp only [t, if_true]; exact Ev.some
          · simp only [t, if_false]; exact Ev.some
        · simp only [a, a', c, fnz, decide_true, if_true, if_false, Bool.false_eq_true, show ¬ (8 : Int) = 0 by decide]; exact Ev.some
      · have a' : ¬ lmx (l.drop 1) (rd l 0) ≤ 9000 := fun h => a (by simpa using hm.1 h)
        simp only [a, a', fnz, decide_false, if_false, Bool.false_eq_true, show ¬ (2 : Int) = 0 by decide]; exact Ev.some
    · simp only [h1, h2, fnz, if_true, if_false]; exact Ev.some
  · simp only [h1, fnz, if_false]; exact Ev.some

theorem CaseErr_l0 (l v : List Int) (v1 : 1 ≤ v.length) (v4 : v.length ≤ 4) (hl : l.length < 4611686018427387904) {num den : Int} (hx : -9223372036854775808 ≤ num ∧ num ≤ 9223372036854775807) (hy : -9223372036854775808 ≤ den ∧ den ≤ 9223372036854775807) :
    ∀ (n i : Nat), i + n = l.length → Ev (fun k => glidepathref02_CaseErr.l0 k (i : Int) l v num den) (if (l.drop i).all (fun x => decide (x ≤ 9000)) = true then (if v.length ^ l.length ≤ 4096 then tErr num den else 8) else 2)
  | 0, i, h => by
    refine Ev.succ (f := fun k => glidepathref02_CaseErr.l0 k (i : Int) l v num den) ?_
    simp only [glidepathref02_CaseErr.l0, show ¬ (i : Int) < (l.length : Int) by omega, if_false]
    rw [show l.drop i = [] from List.drop_eq_nil_of_le (by omega)]
    refine Ev.bind (Cases_ev v v1 v4 l.length hl) ?_
    by_cases c : v.length ^ l.length ≤ 4096
    · simp only [c, if_true, List.all_nil, show ¬ ((v.length ^ l.length : Nat) : Int) > 4096 by omega, if_false]
      exact Ev.bind (TruthErr_ev hx hy) Ev.some
    · simp only [c, if_true, if_false, List.all_nil, show (4097 : Int) > 4096 by decide]; exact Ev.some
  | n + 1, i, h => by
    refine Ev.succ (f := fun k => glidepathref02_CaseErr.l0 k (i : Int) l v num den) ?_
    simp only [glidepathref02_CaseErr.l0, show (i : Int) < (l.length : Int) by omega, show (0 : Int) ≤ (i : Int) by omega, if_true, up (show i < 4611686018427387904 by omega)]
    rw [drop_rd (show i < l.length by omega), List.all_cons]
    by_cases e : rd l (i : Int) ≤ 9000
    · simp only [e, decide_true, Bool.true_and, show ¬ rd l (i : Int) > 9000 by omega, if_false]
      exact CaseErr_l0 l v v1 v4 hl hx hy n (i + 1) (by omega)
    · simp only [e, decide_false, Bool.false_and, show rd l (i : Int) > 9000 by omega, if_true, Bool.false_eq_true, if_false]; exact Ev.some
theorem CaseErr_ev (l v : List Int) {num den : Int} (hx : -9223372036854775808 ≤ num ∧ num ≤ 9223372036854775807) (hy : -9223372036854775808 ≤ den ∧ den ≤ 9223372036854775807) :
    Ev (fun k => glidepathref02_CaseErr.f k l v num den) (cErr l v num den) := by
  have hS : Ev (fun k => glidepathref02_SpectrumErr.f k l) (lErr l 16 10000).2 := Ev.bind (refCheckSpectrum_ev l) Ev.some
  have hN : Ev (fun k => glidepathref02_NoiseErr.f k v) (lErr v 4 1000).2 := Ev.bind (refCheckNoise_ev v) Ev.some
  unfold glidepathref02_CaseErr.f cErr
  refine Ev.bind hS ?_
  by_cases h1 : (lErr l 16 10000).2 = 0
  · simp only [h1, if_true]
    refine Ev.bind hN ?_
    by_cases h2 : (lErr v 4 1000).2 = 0
    · obtain ⟨l1, l2⟩ := lErr_len h1
      obtain ⟨v1, v2⟩ := lErr_len h2
      simp only [h2, if_true]
      have := CaseErr_l0 l v v1 v2 (by omega) hx hy l.length 0 (by omega)
      simpa using this
    · simp only [h2, if_false]; exact Ev.some
  · simp only [h1, if_false]; exact Ev.some
def nzF (v : List Int) : List Int → Int → List Int
  | [], _ => []
  | x :: r, j => wrap64 (x + rd v (Int.tmod j (v.length : Int))) :: nzF v r (Int.tdiv j (v.length : Int))
theorem nzF_length (v : List Int) : ∀ (l : List Int) (j : Int), (nzF v l j).length = l.length
  | [], _ => rfl
  | _ :: r, j => by simp [nzF, nzF_length v r]

theorem digit_in {j m : Int} (h0 : 0 ≤ j) (h1 : 1 ≤ m) : 0 ≤ Int.tmod j m ∧ Int.tmod j m < m ∧ 0 ≤ Int.tdiv j m ∧ Int.tdiv j m ≤ j := by
  rw [Int.tmod_eq_emod_of_nonneg h0, Int.tdiv_eq_ediv_of_nonneg h0]
  exact ⟨Int.emod_nonneg _ (by omega), Int.emod_lt_of_pos _ (by omega), Int.ediv_nonneg h0 (by omega), Int.ediv_le_self _ h0⟩

theorem noisy_l0 (l v : List Int) (v1 : 1 ≤ v.length) (hl : l.length < 17592186044416) : ∀ (n i : Nat) (j : Int) (acc : List Int), i + n = l.length → 0 ≤ j → j < 9223372036854775808 → acc.length = i →
    Ev (fun k => line_noisy.l0 k j acc l (l.length : Int) (i : Int) v) (acc ++ nzF v (l.drop i) j)
  | 0, i, j, acc, h, _, _, _ => by
    refine Ev.succ (f := fun k => line_noisy.l0 k j acc l (l.length : Int) (i : Int) v) ?_
    simp only [line_noisy.l0, show ¬ (i : Int) < (l.length : Int) by omega, if_false]
    rw [show l.drop i = [] from List.drop_eq_nil_of_le (by omega), nzF, List.append_nil]
    exact Ev.some
  | n + 1, i, j, acc, h, h0, hj, ha => by
    refine Ev.succ (f := fun k => line_noisy.l0 k j acc l (l.length : Int) (i : Int) v) ?_
    obtain ⟨d1, d2, d3, d4⟩ := digit_in (m := (v.length : Int)) h0 (by omega)
    simp only [line_noisy.l0, show (i : Int) < (l.length : Int) by omega, show (0 : Int) ≤ (i : Int) by omega, show ¬ (v.length : Int) = 0 by omega, d1, d2, show acc.length < 17592186044416 by omega, if_true, if_false, up (show i < 4611686018427387904 by omega), w64 (n := Int.tdiv j (v.length : Int)) (by omega)]
    rw [drop_rd (show i < l.length by omega), nzF, List.append_cons acc _ (nzF v (l.drop (i + 1)) _)]
    exact noisy_l0 l v v1 hl n (i + 1) _ (acc ++ [wrap64 (rd l (i : Int) + rd v (Int.tmod j (v.length : Int)))]) (by omega) d3 (by omega) (by rw [List.length_append, ha]; rfl)
theorem noisy_ev (l v : List Int) (v1 : 1 ≤ v.length) (hl : l.length < 17592186044416) (j : Int) (h0 : 0 ≤ j) (hj : j < 9223372036854775808) : Ev (fun k => line_noisy.f k l v j) (nzF v l j) := by
  have := noisy_l0 l v v1 hl l.length 0 j [] (by omega) h0 hj rfl
  simpa [line_noisy.f] using this
theorem Noisy_l0 (l v : List Int) (v1 : 1 ≤ v.length) (hl : l.length < 17592186044416) : ∀ (n i : Nat) (j : Int) (acc : List Int), i + n = l.length → 0 ≤ j → j < 9223372036854775808 → acc.length = i →
    Ev (fun k => glidepathref02_Noisy.l0 k l j acc (i : Int) v) (acc ++ nzF v (l.drop i) j)
  | 0, i, j, acc, h, _, _, _ => by
    refine Ev.succ (f := fun k => glidepathref02_Noisy.l0 k l j acc (i : Int) v) ?_
    simp only [glidepathref02_Noisy.l0, show ¬ (i : Int) < (l.length : Int) by omega, if_false]
    rw [show l.drop i = [] from List.drop_eq_nil_of_le (by omega), nzF, List.append_nil]
    exact Ev.some
  | n + 1, i, j, acc, h, h0, hj, ha => by
    refine Ev.succ (f := fun k => glidepathref02_Noisy.l0 k l j acc (i : Int) v) ?_
    obtain ⟨d1, d2, d3, d4⟩ := digit_in (m := (v.length : Int)) h0 (by omega)
    simp only [glidepathref02_Noisy.l0, show (i : Int) < (l.length : Int) by omega, show (0 : Int) ≤ (i : Int) by omega, show ¬ (v.length : Int) = 0 by omega, d1, d2, show acc.length < 17592186044416 by omega, if_true, if_false, up (show i < 4611686018427387904 by omega), w64 (n := Int.tdiv j (v.length : Int)) (by omega)]
    rw [drop_rd (show i < l.length by omega), nzF, List.append_cons acc _ (nzF v (l.drop (i + 1)) _)]
    exact Noisy_l0 l v v1 hl n (i + 1) _ (acc ++ [wrap64 (rd l (i : Int) + rd v (Int.tmod j (v.length : Int)))]) (by omega) d3 (by omega) (by rw [List.length_append, ha]; rfl)
theorem Noisy_ev (l v : List Int) (v1 : 1 ≤ v.length) (hl : l.length < 17592186044416) (j : Int) (h0 : 0 ≤ j) (hj : j < 9223372036854775808) : Ev (fun k => glidepathref02_Noisy.f k l v j) (nzF v l j) := by
  have := Noisy_l0 l v v1 hl l.length 0 j [] (by omega) h0 hj rfl
  simpa [glidepathref02_Noisy.f] using this

/-- Line i is as great as any. -/
def pk (l : List Int) (i : Nat) : Bool := l.all fun x => decide (x ≤ rd l (i : Int))
def peaksFrom (l : List Int) : Nat → Nat → List Int
  | 0, _ => []
  | n + 1, i => if pk l i = true then (i : Int) :: peaksFrom l n (i + 1) else peaksFrom l n (i + 1)
/-- All peaks. -/
def peaks (l : List Int) : List Int := peaksFrom l l.length 0
/-- A fraction in lowest terms, as both say it. -/
def frac (a b : Int) : Int × Int := (wrap64 (Int.tdiv a (gq a b)), wrap64 (Int.tdiv b (gq a b)))
/-- The sum of n powers from line i on, and their sum with the lines' numbers. -/
def sn (l : List Int) : Nat → Nat → Int
  | 0, _ => 0
  | n + 1, i => rd l (i : Int) + sn l n (i + 1)
def wn (l : List Int) : Nat → Nat → Int
  | 0, _ => 0
  | n + 1, i => (i : Int) * rd l (i : Int) + wn l n (i + 1)
/-- The first line with the maximum power. -/
def fp (l : List Int) : Nat := ((peaks l).headD 0).toNat
def par (l : List Int) : Int × Int :=
  if fp l = 0 ∨ fp l + 1 = l.length then ((fp l : Int), 1) else
    if 2 * rd l (fp l : Int) - rd l ((fp l - 1 : Nat) : Int) - rd l ((fp l + 1 : Nat) : Int) ≤ 0 then ((fp l : Int), 1) else
      frac (2 * (2 * rd l (fp l : Int) - rd l ((fp l - 1 : Nat) : Int) - rd l ((fp l + 1 : Nat) : Int)) * (fp l : Int) + rd l ((fp l + 1 : Nat) : Int) - rd l ((fp l - 1 : Nat) : Int)) (2 * (2 * rd l (fp l : Int) - rd l ((fp l - 1 : Nat) : Int) - rd l ((fp l + 1 : Nat) : Int)))
def mdF (l : List Int) : Nat → Nat → Nat
  | 0, i => i
  | n + 1, i => if sn l l.length 0 ≤ 2 * sn l (i + 1) 0 then i else mdF l n (i + 1)
def md (l : List Int) : Nat := mdF l l.length 0
def est (l : List Int) (kind : Int) : Int × Int :=
  if sn l l.length 0 = 0 then (0, 1) else if kind = 1 then frac (wn l l.length 0) (sn l l.length 0) else if kind = 2 then par l else if kind = 3 then ((md l : Int), 1) else ((fp l : Int), 1)
theorem awake_ev : Ev (fun k => glidepathlaw02_awake.f k) true :=
  Ev.of_mono (k := 40) (fun k => glidepathlaw02_awake.mono k) (by kernel_rfl)
theorem CopyInts_eq (l : List Int) (h : l.length < 17592186044416) : glidepathbase_CopyInts.f l = some l := by
  unfold glidepathbase_CopyInts.f
  simp [h]
theorem CopyCase_eq (l v : List Int) (num den : Int) (h : l.length < 17592186044416) (h2 : v.length < 17592186044416) : glidepathref02_CopyCase.f l v num den = some (l, v, num, den) := by
  unfold glidepathref02_CopyCase.f glidepathref02_CopyNoise.f
  simp [CopyInts_eq l h, CopyInts_eq v h2]
theorem cErr_zero {l v : List Int} {num den : Int} (h : cErr l v num den = 0) : (1 ≤ l.length ∧ l.length ≤ 16) ∧ (1 ≤ v.length ∧ v.length ≤ 4) ∧ v.length ^ l.length ≤ 4096 ∧ tErr num den = 0 ∧ (lErr l 16 10000).2 = 0 ∧ (lErr v 4 1000).2 = 0 := by
  unfold cErr at h
  by_cases h1 : (lErr l 16 10000).2 = 0
  · by_cases h2 : (lErr v 4 1000).2 = 0
    · by_cases h3 : l.all (fun x => decide (x ≤ 9000)) = true
      · by_cases h4 : v.length ^ l.length ≤ 4096
        · simp only [h1, h2, h3, h4, if_true] at h
          exact ⟨lErr_len h1, lErr_len h2, h4, h, h1, h2⟩
        · simp [h1, h2, h3, h4] at h
      · simp only [h1, h2, h3, if_true, if_false] at h; simp at h
    · simp only [h1, h2, if_true, if_false] at h
  · simp only [h1, if_false] at h
theorem i64_in {n : Int} (h : (Lit.int .i64 n).wf = true) : -9223372036854775808 ≤ n ∧ n ≤ 9223372036854775807 := by
  simp [Lit.wf, IntKind.min, IntKind.max, IntKind.signed, IntKind.bits] at h
  omega
theorem Ints_l0 (l : List Int) (hl : l.length < 4611686018427387904) : ∀ (n i : Nat), i + n = l.length → Ev (fun k => glidepathbase_Ints.l0 k l l (i : Int)) true
  | 0, i, h => by
    refine Ev.succ (f := fun k => glidepathbase_Ints.l0 k l l (i : Int)) ?_
    simp only [glidepathbase_Ints.l0, show ¬ (i : Int) < (l.length : Int) by omega, if_false]
    exact Ev.some
  | n + 1, i, h => by
    refine Ev.succ (f := fun k => glidepathbase_Ints.l0 k l l (i : Int)) ?_
    simp only [glidepathbase_Ints.l0, show (i : Int) < (l.length : Int) by omega, show (0 : Int) ≤ (i : Int) by omega, if_true, up (show i < 4611686018427387904 by omega)]
    exact Ints_l0 l hl n (i + 1) (by omega)
theorem Ints_ev (l : List Int) (hl : l.length < 4611686018427387904) : Ev (fun k => glidepathbase_Ints.f k l l) true := by
  unfold glidepathbase_Ints.f
  simp only [if_true]
  exact Ints_l0 l hl l.length 0 (by omega)
theorem CopyNoise_eq (v : List Int) (h : v.length < 17592186044416) : glidepathref02_CopyNoise.f v = some v := by
  unfold glidepathref02_CopyNoise.f
  simp [CopyInts_eq v h]
theorem lineNoisy_ev (l v : List Int) {num den n : Int} (hx : -9223372036854775808 ≤ num ∧ num ≤ 9223372036854775807) (hy : -9223372036854775808 ≤ den ∧ den ≤ 9223372036854775807) :
    Ev (fun k => line_Noisy.f k l v num den n) (if cErr l v num den = 0 then (if 0 ≤ n ∧ n ≤ ((v.length ^ l.length : Nat) : Int) - 1 then (nzF v l n, 0) else ([], 6)) else ([], cErr l v num den)) := by
  unfold line_Noisy.f
  refine Ev.bind (CheckCase_ev l v hx hy) ?_
  by_cases h3 : cErr l v num den = 0
  · obtain ⟨⟨l1, l2⟩, ⟨v1, v2⟩, h4, _⟩ := cErr_zero h3
    have h0 : 0 < v.length ^ l.length := Nat.pow_pos (by omega)
    simp only [h3, if_true]
    refine Ev.bind (cases_ev v v1 v2 l.length (by omega)) ?_
    simp only [h4, if_true, within_eq, Option.bind_some, decide_eq_true_eq]
    rw [w64 (by omega)]
    by_cases q : 0 ≤ n ∧ n ≤ ((v.length ^ l.length : Nat) : Int) - 1
    · simp only [q, and_self, if_true]
      exact Ev.bind (noisy_ev l v v1 (by omega) n q.1 (by omega)) Ev.some
    · simp only [q, if_false]; exact Ev.some
  · simp only [h3, if_false]; exact Ev.some
theorem LineCases_ev (l v : List Int) {num den t : Int} (hx : -9223372036854775808 ≤ num ∧ num ≤ 9223372036854775807) (hy : -9223372036854775808 ≤ den ∧ den ≤ 9223372036854775807) :
    Ev (fun k => glidepathlaw02_LineCases.f k l v num den t) true := by
  unfold glidepathlaw02_LineCases.f
  refine Ev.bind awake_ev ?_
  simp only [if_true, short_eq, Option.bind_some]
  have hj : ∀ b : Bool, (b = false → l.length ≤ 20 ∧ v.length ≤ 20) → Ev (fun k => glidepathlaw02_LineCases.j0 k t b l v num den) true := fun b hb => by
    refine Ev.succ (f := fun k => glidepathlaw02_LineCases.j0 k t b l v num den) ?_
    cases b with
    | true => simp only [glidepathlaw02_LineCases.j0, if_true]; exact Ev.some
    | false =>
      obtain ⟨a1, a2⟩ := hb rfl
      simp only [glidepathlaw02_LineCases.j0, Bool.false_eq_true, if_false]
      rw [CopyCase_eq l v num den (by omega) (by omega), CopyNoise_eq v (by omega), ]
      simp only [Option.bind_some, lineCheckNoise_eq]
      refine Ev.bind (CheckCase_ev l v hx hy) ?_
      refine Ev.bind (lineNoisy_ev l v hx hy) ?_
      refine Ev.bind (refCheckNoise_ev v) ?_
      simp only [if_true, bne_self_eq_false]
      refine Ev.succ (f := fun k => glidepathlaw02_LineCases.j1 k t _ _ _ _ l v num den) ?_
      simp only [glidepathlaw02_LineCases.j1, Bool.false_eq_true, if_false]
      refine Ev.bind (CaseErr_ev l v hx hy) ?_
      simp only [if_true]
      by_cases h3 : cErr l v num den = 0
      · obtain ⟨⟨l1, l2⟩, ⟨v1, v2⟩, h4, _⟩ := cErr_zero h3
        have h0 : 0 < v.length ^ l.length := Nat.pow_pos (by omega)
        simp only [h3, if_true]
        refine Ev.bind (Cases_ev v v1 v2 l.length (by omega)) ?_
        simp only [h4, if_true, Within_eq, Option.bind_some]
        rw [w64 (by omega)]
        refine Ev.succ (f := fun k => glidepathlaw02_LineCases.j2 k t _ _ _ _ l v num den) ?_
        by_cases q : 0 ≤ t ∧ t ≤ ((v.length ^ l.length : Nat) : Int) - 1
        · simp only [glidepathlaw02_LineCases.j2, q, and_self, decide_true, Bool.not_true, Bool.false_eq_true, if_false, if_true]
          refine Ev.succ (f := fun k => glidepathlaw02_LineCases.j3 k t _ _ _ l v num den) ?_
          simp only [glidepathlaw02_LineCases.j3, if_true]
          refine Ev.bind (Noisy_ev l v v1 (by omega) t q.1 (by omega)) ?_
          exact Ev.bind (Ints_ev _ (by rw [nzF_length]; omega)) Ev.some
        · simp only [glidepathlaw02_LineCases.j2, q, decide_false, Bool.not_false, if_false, if_true]
          refine Ev.succ (f := fun k => glidepathlaw02_LineCases.j3 k t _ _ _ l v num den) ?_
          simp only [glidepathlaw02_LineCases.j3, show ¬ (6 : Int) = 0 by decide, if_true, if_false]
          exact Ev.some
      · simp only [h3, if_false]
        refine Ev.succ (f := fun k => glidepathlaw02_LineCases.j2 k t _ _ _ _ l v num den) ?_
        simp only [glidepathlaw02_LineCases.j2, Bool.false_eq_true, if_false]
        refine Ev.succ (f := fun k => glidepathlaw02_LineCases.j3 k t _ _ _ l v num den) ?_
        simp only [glidepathlaw02_LineCases.j3, h3, if_true, if_false]
        exact Ev.some
  by_cases h1 : (l.length : Int) ≤ 20
  · simp only [h1, decide_true, if_true]
    refine hj _ (fun hb => ?_)
    simp only [Bool.not_eq_false', decide_eq_true_eq] at hb
    omega
  · simp only [h1, decide_false, Bool.false_eq_true, if_false]
    exact hj true (by simp)
theorem LineCases_pure (l : List Int) (_ : l.length ≤ maxLen) (_ : ∀ x ∈ l, (Lit.int .i64 x).wf = true) (v : List Int) (_ : v.length ≤ maxLen) (_ : ∀ x ∈ v, (Lit.int .i64 x).wf = true) (num : Int) (hx : (Lit.int .i64 num).wf = true) (den : Int) (hy : (Lit.int .i64 den).wf = true) (t : Int) (_ : (Lit.int .i64 t).wf = true) :
    ∃ k, glidepathlaw02_LineCases.f k l v num den t = some true := (LineCases_ev l v (i64_in hx) (i64_in hy)).ex
end Go.Proofs.YtjnkphmcndaijaaDoor.P
