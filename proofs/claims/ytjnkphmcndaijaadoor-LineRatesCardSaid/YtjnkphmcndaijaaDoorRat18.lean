/-
PLAIN LAW: what the walks compute answers as the statement says (no program in sight; Ev: from some number of rounds on).
-/
import Derived.Test.YtjnkphmcndaijaaDoorRat13
import Derived.Test.YtjnkphmcndaijaaDoorRat10
import Derived.Test.YtjnkphmcndaijaaDoorRat17
import Derived.Test.YtjnkphmcndaijaaDoorRat15
import Derived.Test.YtjnkphmcndaijaaDoorRat16
import Derived.Test.YtjnkphmcndaijaaDoorRat04
import Derived.Test.YtjnkphmcndaijaaDoorRat06
namespace Go.Proofs.YtjnkphmcndaijaaDoor.P
open Go Go.RowKit Go.Proofs.YtjnkphmcndaijaaDoor.A Go.Proofs.YtjnkphmcndaijaaDoorW.PrintWords Go.Proofs.YtjnkphmcndaijaaDoorW.PrintLast Go.Proofs.YtjnkphmcndaijaaDoorW.PrintMore
set_option linter.unusedSimpArgs false
set_option linter.unusedVariables false
/-- From some number of rounds on, f says r. -/
def Ev {α : Type} (f : Nat → Option α) (r : α) : Prop := ∃ k, ∀ j, k ≤ j → f j = some r

theorem Ev.some {α : Type} {r : α} : Ev (fun _ => Option.some r) r := ⟨0, fun _ _ => rfl⟩
theorem Ev.bind {α β : Type} {f : Nat → Option α} {g : Nat → α → Option β} {a : α} {b : β} (h : Ev f a) (h2 : Ev (fun k => g k a) b) : Ev (fun k => (f k).bind (g k)) b := by
 obtain ⟨k, hk⟩ := h
 obtain ⟨m, hm⟩ := h2
 exact ⟨max k m, fun j hj => by show (f j).bind (g j) = _; rw [hk j (by omega)]; exact hm j (by omega)⟩
theorem Ev.succ {α : Type} {f : Nat → Option α} {r : α} (h : Ev (fun k => f (k + 1)) r) : Ev f r := by
 obtain ⟨k, hk⟩ := h
 exact ⟨k + 1, fun j hj => by obtain ⟨m, rfl⟩ : ∃ m, j = m + 1 := ⟨j - 1, by omega⟩; exact hk m (by omega)⟩
theorem Ev.congr {α : Type} {f g : Nat → Option α} {r : α} (e : ∀ k, f k = g k) (h : Ev f r) : Ev g r := by
 obtain ⟨k, hk⟩ := h
 exact ⟨k, fun j hj => by rw [← e j]; exact hk j hj⟩
theorem Ev.ex {α : Type} {f : Nat → Option α} {r : α} (h : Ev f r) : ∃ k, f k = Option.some r := let ⟨k, hk⟩ := h; ⟨k, hk k (Nat.le_refl _)⟩
theorem Ev.of_mono {α : Type} {f : Nat → Option α} {r : α} (hm : ∀ k, LeO (f k) (f (k + 1))) {k : Nat} (h : f k = Option.some r) : Ev f r := by
  refine ⟨k, fun j hj => ?_⟩
  induction j with
  | zero => obtain rfl : k = 0 := by omega
            exact h
  | succ j ih =>
    by_cases e : k = j + 1
    · subst e; exact h
    · exact hm j r (ih (by omega))
theorem up {i : Nat} (h : i < 4611686018427387904) : wrap64 ((i : Int) + 1) = ((i + 1 : Nat) : Int) := by
 unfold wrap64; omega
theorem w64 {n : Int} (h : -9223372036854775808 ≤ n ∧ n ≤ 9223372036854775807) : wrap64 n = n := by unfold wrap64; omega
theorem rd_nat (l : List Int) (i : Nat) : rd l (i : Int) = l.getD i 0 := by unfold rd; simp
theorem drop_rd {l : List Int} {i : Nat} (h : i < l.length) : l.drop i = rd l (i : Int) :: l.drop (i + 1) := by
 rw [rd_nat, List.drop_eq_getElem_cons h]
 simp [List.getD_eq_getElem?_getD, h]

theorem mx_eq (a b : Int) : mx a b = max a b := by unfold mx; split <;> omega

theorem within_eq (a b c : Int) : line_within.f a b c = some (decide (b ≤ a ∧ a ≤ c)) := by
 unfold line_within.f
 by_cases h : b ≤ a <;> simp [h]
theorem Within_eq (a b c : Int) : Bs_Within.f a b c = some (decide (b ≤ a ∧ a ≤ c)) := by
 unfold Bs_Within.f
 by_cases h : b ≤ a <;> simp [h]
theorem unless_eq (b : Bool) (e : Int) : line_unless.f b e = some (if b = true then 0 else e) := by
 unfold line_unless.f
 cases b <;> simp
theorem Size_eq (a : Int) : Bs_Size.f a = some (mx a (wrap64 (-a))) := rfl
theorem short_eq (l : List Int) : Lw_short.f l = some (decide ((l.length : Int) ≤ 20)) := rfl

/-- The first number that is not 0. -/
def fnz : List Int → Int
 | [] => 0
 | x :: r => if x = 0 then fnz r else x

theorem first_l0 (l : List Int) (hl : l.length < 4611686018427387904) : ∀ (n i : Nat), i + n = l.length → Ev (fun k => line_first.l0 k l (l.length : Int) (i : Int)) (fnz (l.drop i))
 | 0, i, h => by
  refine Ev.succ (f := fun k => line_first.l0 k l (l.length : Int) (i : Int)) ?_
  have h1 : ¬ (i : Int) < (l.length : Int) := by omega
  simp only [line_first.l0, h1, if_false]
  rw [show l.drop i = [] from List.drop_eq_nil_of_le (by omega)]
  exact Ev.some
 | n + 1, i, h => by
  refine Ev.succ (f := fun k => line_first.l0 k l (l.length : Int) (i : Int)) ?_
  have h1 : (i : Int) < (l.length : Int) := by omega
  have h2 : (0 : Int) ≤ (i : Int) := by omega
  simp only [line_first.l0, h1, h2, if_true, up (show i < 4611686018427387904 by omega)]
  rw [drop_rd (show i < l.length by omega)]
  unfold fnz
  by_cases e : rd l (i : Int) = 0
  ·simp only [e, if_true]
   exact first_l0 l hl n (i + 1) (by omega)
  ·simp only [e, if_false]
   exact Ev.some
theorem first_ev (l : List Int) (hl : l.length < 4611686018427387904) : Ev (fun k => line_first.f k l) (fnz l) := first_l0 l hl l.length 0 (by omega)

/-- Not from 0 to m. -/
def bad (m x : Int) : Bool := !(decide (0 ≤ x) && decide (x ≤ m))
theorem within_bad (m x : Int) : decide (0 ≤ x ∧ x ≤ m) = !bad m x := by
 unfold bad; by_cases h : 0 ≤ x <;> by_cases h2 : x ≤ m <;> simp [h, h2]
/-- The index of the first one that is not within, or none; the number of the error. -/
def lErr (l : List Int) (n : Nat) (m : Int) : Int × Int :=
 if l.length = 0 then (0, 10) else if n < l.length then (0, 8) else
  if idxF (bad m) l ≥ 0 then (idxF (bad m) l, 2) else (0, 0)

theorem listErr_eq (l : List Int) (n : Nat) (m : Int) : line_listErr.f l (n : Int) m = some (lErr l n m) := by
 have hb : (fun x : Int => !(decide (0 ≤ x) && decide (x ≤ m))) = bad m := rfl
 unfold line_listErr.f lErr
 rw [hb]
 by_cases h0 : l.length = 0
 ·simp only [h0, if_true]
 ·by_cases h1 : n < l.length
  ·have h2 : (n : Int) < (l.length : Int) := by omega
   simp only [h0, h1, h2, if_true, if_false]
  ·have h2 : ¬ (n : Int) < (l.length : Int) := by omega
   simp only [h0, h1, h2, if_false]
   split <;> rfl
theorem lineCheckNoise_eq (l : List Int) : line_CheckNoise.f l = some (lErr l 4 1000) := by
 have h : line_listErr.f l 4 1000 = some (lErr l 4 1000) := listErr_eq l 4 1000
 unfold line_CheckNoise.f; rw [h]; rfl

theorem idxF_nil (p : Int → Bool) : idxF p [] = -1 := rfl
theorem idxF_ge (p : Int → Bool) (l : List Int) : -1 ≤ idxF p l := by
 unfold idxF
 cases l.findIdx? p <;> simp <;> omega
theorem idxF_cons (p : Int → Bool) (a : Int) (r : List Int) : idxF p (a :: r) = if p a = true then 0 else if idxF p r ≥ 0 then idxF p r + 1 else -1 := by
  unfold idxF
  rw [List.findIdx?_cons]
  by_cases h : p a = true
  · simp [h]
  · simp only [h, if_false, Bool.false_eq_true]
    cases r.findIdx? p with
    | none => simp
    | some i => simp <;> omega

theorem refNoise_l0 (l : List Int) (hl : l.length < 4611686018427387904) : ∀ (n i : Nat), i + n = l.length →
  Ev (fun k => Rf_CheckNoise.l0 k (i : Int) l) (if idxF (bad 1000) (l.drop i) ≥ 0 then (idxF (bad 1000) (l.drop i) + i, 2) else (0, 0))
 | 0, i, h => by
  refine Ev.succ (f := fun k => Rf_CheckNoise.l0 k (i : Int) l) ?_
  have h1 : ¬ (i : Int) < (l.length : Int) := by omega
  simp only [Rf_CheckNoise.l0, h1, if_false]
  rw [show l.drop i = [] from List.drop_eq_nil_of_le (by omega), idxF_nil]
  exact Ev.some
 | n + 1, i, h => by
  refine Ev.succ (f := fun k => Rf_CheckNoise.l0 k (i : Int) l) ?_
  have h1 : (i : Int) < (l.length : Int) := by omega
  have h2 : (0 : Int) ≤ (i : Int) := by omega
  simp only [Rf_CheckNoise.l0, h1, h2, if_true, up (show i < 4611686018427387904 by omega), Within_eq, within_bad, Option.bind_some]
  rw [drop_rd (show i < l.length by omega), idxF_cons]
  cases e : bad 1000 (rd l (i : Int)) with
  | false =>
   simp only [e, Bool.not_false, if_true, Bool.false_eq_true, if_false]
   have ih := refNoise_l0 l hl n (i + 1) (by omega)
   have hg := idxF_ge (bad 1000) (l.drop (i + 1))
   by_cases q : idxF (bad 1000) (l.drop (i + 1)) ≥ 0
   ·simp only [q, if_true] at ih ⊢
    rw [if_pos (by omega), show idxF (bad 1000) (l.drop (i + 1)) + 1 + (i : Int) = idxF (bad 1000) (l.drop (i + 1)) + ((i + 1 : Nat) : Int) by omega]
    exact ih
   ·simp only [q, if_false] at ih ⊢
    exact ih
  | true =>
   simp only [e, Bool.not_true, Bool.false_eq_true, if_false, if_true]
   rw [if_pos (by omega), Int.zero_add]
   exact Ev.some
theorem refCheckNoise_ev (l : List Int) : Ev (fun k => Rf_CheckNoise.f k l) (lErr l 4 1000) := by
 unfold Rf_CheckNoise.f lErr
 by_cases h0 : l.length = 0
 ·have : (l.length : Int) = 0 := by omega
  simp only [h0, if_true]
  exact Ev.some
 ·have h0' : ¬ (l.length : Int) = 0 := by omega
  by_cases h1 : 4 < l.length
  ·have h2 : (l.length : Int) > 4 := by omega
   simp only [h0, h0', h1, h2, if_true, if_false]
   exact Ev.some
  ·have h2 : ¬ (l.length : Int) > 4 := by omega
   simp only [h0, h0', h1, h2, if_false]
   have := refNoise_l0 l (by omega) l.length 0 (by omega)
   simpa using this
/-- What the program says for it (the one number without a positive twin stays as it is). -/
def gq (x y : Int) : Int := if Int.gcd x y = 9223372036854775808 then -9223372036854775808 else (Int.gcd x y : Int)

theorem size_abs {x : Int} (h : -9223372036854775808 ≤ x ∧ x ≤ 9223372036854775807) : mx x (wrap64 (-x)) = gq x 0 := by
 unfold gq
 rw [Int.gcd_zero_right]
 unfold mx wrap64
 by_cases e : x = -9223372036854775808
 ·subst e; rfl
 ·rw [if_neg (show ¬ x.natAbs = 9223372036854775808 by omega)]
  split <;> omega

theorem gcd_step (x y : Int) : gq y (x.tmod y) = gq x y := by
 have : Int.gcd y (x.tmod y) = Int.gcd x y := by
  show Nat.gcd y.natAbs (x.tmod y).natAbs = Nat.gcd x.natAbs y.natAbs
  rw [Int.natAbs_tmod, Nat.gcd_comm, ← Nat.gcd_rec, Nat.gcd_comm]
 unfold gq
 rw [this]

theorem tmod_in {x y : Int} (hx : -9223372036854775808 ≤ x ∧ x ≤ 9223372036854775807) (hy : -9223372036854775808 ≤ y ∧ y ≤ 9223372036854775807) (h0 : y ≠ 0) : (x.tmod y).natAbs < y.natAbs ∧ -9223372036854775808 ≤ x.tmod y ∧ x.tmod y ≤ 9223372036854775807 := by
 have h : (x.tmod y).natAbs < y.natAbs := by
  rw [Int.natAbs_tmod]
  exact Nat.mod_lt _ (by omega)
 omega

theorem gcd_l0 : ∀ (m : Nat) (x y : Int), y.natAbs ≤ m → (-9223372036854775808 ≤ x ∧ x ≤ 9223372036854775807) → (-9223372036854775808 ≤ y ∧ y ≤ 9223372036854775807) → Ev (fun k => Bs_Gcd.l0 k x y) (gq x y)
 | 0, x, y, h, hx, _ => by
  refine Ev.succ (f := fun k => Bs_Gcd.l0 k x y) ?_
  obtain rfl : y = 0 := by omega
  simp only [Bs_Gcd.l0, if_true, Size_eq, Option.bind_some, size_abs hx]
  exact Ev.some
 | m + 1, x, y, h, hx, hy => by
  refine Ev.succ (f := fun k => Bs_Gcd.l0 k x y) ?_
  by_cases h0 : y = 0
  ·subst h0
   simp only [Bs_Gcd.l0, if_true, Size_eq, Option.bind_some, size_abs hx]
   exact Ev.some
  ·simp only [Bs_Gcd.l0, h0, if_false]
   have ht := tmod_in hx hy h0
   rw [← gcd_step x y]
   exact gcd_l0 m y (x.tmod y) (by omega) hy ht.2
theorem gcd_ev {x y : Int} (hx : -9223372036854775808 ≤ x ∧ x ≤ 9223372036854775807) (hy : -9223372036854775808 ≤ y ∧ y ≤ 9223372036854775807) : Ev (fun k => Bs_Gcd.f k x y) (gq x y) := gcd_l0 _ x y (Nat.le_refl _) hx hy
theorem divisor_eq : ∀ (k : Nat) (x y : Int), line_divisor.l0 k x y = Bs_Gcd.l0 k x y
 | 0, _, _ => rfl
 | k + 1, x, y => by
  simp only [line_divisor.l0, Bs_Gcd.l0, divisor_eq k, Size_eq, Option.bind_some]
theorem divisor_ev {x y : Int} (hx : -9223372036854775808 ≤ x ∧ x ≤ 9223372036854775807) (hy : -9223372036854775808 ≤ y ∧ y ≤ 9223372036854775807) : Ev (fun k => line_divisor.f k x y) (gq x y) :=
 Ev.congr (f := fun k => Bs_Gcd.f k x y) (fun k => (divisor_eq k x y).symm) (gcd_ev hx hy)

theorem cases_l0 (v : List Int) (h1 : 1 ≤ v.length) (h4 : v.length ≤ 4) (n : Nat) (hn : n < 4611686018427387904) : ∀ (d i : Nat), i + d = n → v.length ^ i ≤ 4096 →
  Ev (fun k => line_cases.l0 k ((v.length ^ i : Nat) : Int) (n : Int) (i : Int) v) (if v.length ^ n ≤ 4096 then (((v.length ^ n : Nat) : Int), true) else (0, false))
 | 0, i, h, hp => by
  refine Ev.succ (f := fun k => line_cases.l0 k ((v.length ^ i : Nat) : Int) (n : Int) (i : Int) v) ?_
  obtain rfl : i = n := by omega
  simp only [line_cases.l0, show ¬ (i : Int) < (i : Int) by omega, if_false, hp, if_true]
  exact Ev.some
 | d + 1, i, h, hp => by
  refine Ev.succ (f := fun k => line_cases.l0 k ((v.length ^ i : Nat) : Int) (n : Int) (i : Int) v) ?_
  have e : ((v.length ^ i : Nat) : Int) * (v.length : Int) = ((v.length ^ (i + 1) : Nat) : Int) := by rw [Nat.pow_succ]; push_cast; rfl
  have hle : v.length ^ (i + 1) ≤ 4096 * 4 := by rw [Nat.pow_succ]; exact Nat.mul_le_mul hp h4
  simp only [line_cases.l0, show (i : Int) < (n : Int) by omega, if_true, e, w64 (n := ((v.length ^ (i + 1) : Nat) : Int)) (by omega), up (show i < 4611686018427387904 by omega)]
  by_cases q : v.length ^ (i + 1) ≤ 4096
  ·simp only [show ¬ ((v.length ^ (i + 1) : Nat) : Int) > 4096 by omega, if_false]
   exact cases_l0 v h1 h4 n hn d (i + 1) (by omega) q
  ·have : v.length ^ (i + 1) ≤ v.length ^ n := Nat.pow_le_pow_right h1 (by omega)
   rw [if_neg (show ¬ v.length ^ n ≤ 4096 by omega)]
   simp only [show ((v.length ^ (i + 1) : Nat) : Int) > 4096 by omega, if_true]
   exact Ev.some
theorem cases_ev (v : List Int) (h1 : 1 ≤ v.length) (h4 : v.length ≤ 4) (n : Nat) (hn : n < 4611686018427387904) :
  Ev (fun k => line_cases.f k v (n : Int)) (if v.length ^ n ≤ 4096 then (((v.length ^ n : Nat) : Int), true) else (0, false)) := by
 have := cases_l0 v h1 h4 n hn n 0 (by omega) (by simp)
 simpa [line_cases.f] using this
theorem Cases_l0 (v : List Int) (h1 : 1 ≤ v.length) (h4 : v.length ≤ 4) (n : Nat) (hn : n < 4611686018427387904) : ∀ (d i : Nat), i + d = n → v.length ^ i ≤ 4096 →
  Ev (fun k => Rf_Cases.l0 k (n : Int) ((v.length ^ i : Nat) : Int) (i : Int) v) (if v.length ^ n ≤ 4096 then ((v.length ^ n : Nat) : Int) else 4097)
 | 0, i, h, hp => by
  refine Ev.succ (f := fun k => Rf_Cases.l0 k (n : Int) ((v.length ^ i : Nat) : Int) (i : Int) v) ?_
  obtain rfl : i = n := by omega
  simp only [Rf_Cases.l0, show ¬ (i : Int) < (i : Int) by omega, if_false, hp, if_true]
  exact Ev.some
 | d + 1, i, h, hp => by
  refine Ev.succ (f := fun k => Rf_Cases.l0 k (n : Int) ((v.length ^ i : Nat) : Int) (i : Int) v) ?_
  have e : ((v.length ^ i : Nat) : Int) * (v.length : Int) = ((v.length ^ (i + 1) : Nat) : Int) := by rw [Nat.pow_succ]; push_cast; rfl
  have hle : v.length ^ (i + 1) ≤ 4096 * 4 := by rw [Nat.pow_succ]; exact Nat.mul_le_mul hp h4
  simp only [Rf_Cases.l0, show (i : Int) < (n : Int) by omega, if_true, e, w64 (n := ((v.length ^ (i + 1) : Nat) : Int)) (by omega), up (show i < 4611686018427387904 by omega)]
  by_cases q : v.length ^ (i + 1) ≤ 4096
  ·simp only [show ¬ ((v.length ^ (i + 1) : Nat) : Int) > 4096 by omega, if_false]
   exact Cases_l0 v h1 h4 n hn d (i + 1) (by omega) q
  ·have : v.length ^ (i + 1) ≤ v.length ^ n := Nat.pow_le_pow_right h1 (by omega)
   rw [if_neg (show ¬ v.length ^ n ≤ 4096 by omega)]
   simp only [show ((v.length ^ (i + 1) : Nat) : Int) > 4096 by omega, if_true]
   exact Ev.some
theorem Cases_ev (v : List Int) (h1 : 1 ≤ v.length) (h4 : v.length ≤ 4) (n : Nat) (hn : n < 4611686018427387904) :
  Ev (fun k => Rf_Cases.f k v (n : Int)) (if v.length ^ n ≤ 4096 then ((v.length ^ n : Nat) : Int) else 4097) := by
 have := Cases_l0 v h1 h4 n hn n 0 (by omega) (by simp)
 simpa [Rf_Cases.f] using this

def lmx : List Int → Int → Int
 | [], a => a
 | x :: r, a => lmx r (mx a x)
theorem lmx_le : ∀ (l : List Int) (a b : Int), lmx l a ≤ b ↔ a ≤ b ∧ ∀ x ∈ l, x ≤ b
 | [], a, b => by simp [lmx]
 | x :: r, a, b => by
  rw [lmx, lmx_le r, mx_eq]
  simp only [List.mem_cons, forall_eq_or_imp]
  constructor
  ·rintro ⟨h, h2⟩; exact ⟨by omega, by omega, h2⟩
  ·rintro ⟨h, h2, h3⟩; exact ⟨by omega, h3⟩
theorem max_le (l : List Int) (h0 : 0 < l.length) (b : Int) : lmx (l.drop 1) (rd l 0) ≤ b ↔ ∀ x ∈ l, x ≤ b := by
 rw [lmx_le]
 have e := drop_rd (l := l) (i := 0) h0
 simp only [List.drop_zero, Nat.zero_add] at e
 constructor
 ·rintro ⟨h1, h2⟩ x hx
  rw [e] at hx
  rcases List.mem_cons.1 hx with rfl | hx
  ·exact h1
  ·exact h2 x hx
 ·intro h
  exact ⟨h _ (by rw [e]; exact List.mem_cons_self), fun x hx => h x (List.mem_of_mem_drop hx)⟩

theorem lErr_len {l : List Int} {n : Nat} {m : Int} (h : (lErr l n m).2 = 0) : 1 ≤ l.length ∧ l.length ≤ n := by
 unfold lErr at h
 by_cases h0 : l.length = 0
 ·simp [h0] at h
 ·by_cases h1 : n < l.length
  ·simp [h0, h1] at h
  ·omega
def nzF (v : List Int) : List Int → Int → List Int
 | [], _ => []
 | x :: r, j => wrap64 (x + rd v (Int.tmod j (v.length : Int))) :: nzF v r (Int.tdiv j (v.length : Int))
theorem nzF_length (v : List Int) : ∀ (l : List Int) (j : Int), (nzF v l j).length = l.length
 | [], _ => rfl
 | _ :: r, j => by simp [nzF, nzF_length v r]

theorem digit_in {j m : Int} (h0 : 0 ≤ j) (h1 : 1 ≤ m) : 0 ≤ Int.tmod j m ∧ Int.tmod j m < m ∧ 0 ≤ Int.tdiv j m ∧ Int.tdiv j m ≤ j := by
 rw [Int.tmod_eq_emod_of_nonneg h0, Int.tdiv_eq_ediv_of_nonneg h0]
 exact ⟨Int.emod_nonneg _ (by omega), Int.emod_lt_of_pos _ (by omega), Int.ediv_nonneg h0 (by omega), Int.ediv_le_self _ h0⟩

theorem noisy_l0 (l v : List Int) (v1 : 1 ≤ v.length) (hl : l.length < 17592186044416) : ∀ (n i : Nat) (j : Int) (acc : List Int), i + n = l.length → 0 ≤ j → j < 9223372036854775808 → acc.length = i →
  Ev (fun k => line_noisy.l0 k j acc l (l.length : Int) (i : Int) v) (acc ++ nzF v (l.drop i) j)
 | 0, i, j, acc, h, _, _, _ => by
  refine Ev.succ (f := fun k => line_noisy.l0 k j acc l (l.length : Int) (i : Int) v) ?_
  simp only [line_noisy.l0, show ¬ (i : Int) < (l.length : Int) by omega, if_false]
  rw [show l.drop i = [] from List.drop_eq_nil_of_le (by omega), nzF, List.append_nil]
  exact Ev.some
 | n + 1, i, j, acc, h, h0, hj, ha => by
  refine Ev.succ (f := fun k => line_noisy.l0 k j acc l (l.length : Int) (i : Int) v) ?_
  obtain ⟨d1, d2, d3, d4⟩ := digit_in (m := (v.length : Int)) h0 (by omega)
  simp only [line_noisy.l0, show (i : Int) < (l.length : Int) by omega, show (0 : Int) ≤ (i : Int) by omega, show ¬ (v.length : Int) = 0 by omega, d1, d2, show acc.length < 17592186044416 by omega, if_true, if_false, up (show i < 4611686018427387904 by omega), w64 (n := Int.tdiv j (v.length : Int)) (by omega)]
  rw [drop_rd (show i < l.length by omega), nzF, List.append_cons acc _ (nzF v (l.drop (i + 1)) _)]
  exact noisy_l0 l v v1 hl n (i + 1) _ (acc ++ [wrap64 (rd l (i : Int) + rd v (Int.tmod j (v.length : Int)))]) (by omega) d3 (by omega) (by rw [List.length_append, ha]; rfl)
theorem noisy_ev (l v : List Int) (v1 : 1 ≤ v.length) (hl : l.length < 17592186044416) (j : Int) (h0 : 0 ≤ j) (hj : j < 9223372036854775808) : Ev (fun k => line_noisy.f k l v j) (nzF v l j) := by
 have := noisy_l0 l v v1 hl l.length 0 j [] (by omega) h0 hj rfl
 simpa [line_noisy.f] using this
theorem Noisy_l0 (l v : List Int) (v1 : 1 ≤ v.length) (hl : l.length < 17592186044416) : ∀ (n i : Nat) (j : Int) (acc : List Int), i + n = l.length → 0 ≤ j → j < 9223372036854775808 → acc.length = i →
  Ev (fun k => Rf_Noisy.l0 k l j acc (i : Int) v) (acc ++ nzF v (l.drop i) j)
 | 0, i, j, acc, h, _, _, _ => by
  refine Ev.succ (f := fun k => Rf_Noisy.l0 k l j acc (i : Int) v) ?_
  simp only [Rf_Noisy.l0, show ¬ (i : Int) < (l.length : Int) by omega, if_false]
  rw [show l.drop i = [] from List.drop_eq_nil_of_le (by omega), nzF, List.append_nil]
  exact Ev.some
 | n + 1, i, j, acc, h, h0, hj, ha => by
  refine Ev.succ (f := fun k => Rf_Noisy.l0 k l j acc (i : Int) v) ?_
  obtain ⟨d1, d2, d3, d4⟩ := digit_in (m := (v.length : Int)) h0 (by omega)
  simp only [Rf_Noisy.l0, show (i : Int) < (l.length : Int) by omega, show (0 : Int) ≤ (i : Int) by omega, show ¬ (v.length : Int) = 0 by omega, d1, d2, show acc.length < 17592186044416 by omega, if_true, if_false, up (show i < 4611686018427387904 by omega), w64 (n := Int.tdiv j (v.length : Int)) (by omega)]
  rw [drop_rd (show i < l.length by omega), nzF, List.append_cons acc _ (nzF v (l.drop (i + 1)) _)]
  exact Noisy_l0 l v v1 hl n (i + 1) _ (acc ++ [wrap64 (rd l (i : Int) + rd v (Int.tmod j (v.length : Int)))]) (by omega) d3 (by omega) (by rw [List.length_append, ha]; rfl)
theorem Noisy_ev (l v : List Int) (v1 : 1 ≤ v.length) (hl : l.length < 17592186044416) (j : Int) (h0 : 0 ≤ j) (hj : j < 9223372036854775808) : Ev (fun k => Rf_Noisy.f k l v j) (nzF v l j) := by
 have := Noisy_l0 l v v1 hl l.length 0 j [] (by omega) h0 hj rfl
 simpa [Rf_Noisy.f] using this

theorem max106_l0 (l : List Int) (hl : l.length < 4611686018427387904) : ∀ (n i : Nat) (a : Int), i + n = l.length → Ev (fun k => Sp_int_106.l0 k l a (i : Int)) (lmx (l.drop i) a)
 | 0, i, a, h => by
  refine Ev.succ (f := fun k => Sp_int_106.l0 k l a (i : Int)) ?_
  simp only [Sp_int_106.l0, show ¬ (i : Int) < (l.length : Int) by omega, if_false]
  rw [show l.drop i = [] from List.drop_eq_nil_of_le (by omega)]
  exact Ev.some
 | n + 1, i, a, h => by
  refine Ev.succ (f := fun k => Sp_int_106.l0 k l a (i : Int)) ?_
  simp only [Sp_int_106.l0, show (i : Int) < (l.length : Int) by omega, show (0 : Int) ≤ (i : Int) by omega, if_true, up (show i < 4611686018427387904 by omega)]
  rw [drop_rd (show i < l.length by omega)]
  exact max106_l0 l hl n (i + 1) _ (by omega)
/-- The greatest number of a list. -/
def lmax (l : List Int) : Int := lmx (l.drop 1) (rd l 0)
theorem max106_ev (l : List Int) (h0 : 0 < l.length) (hl : l.length < 4611686018427387904) : Ev (fun k => Sp_int_106.f k l) (lmax l) := by
 unfold Sp_int_106.f
 simp only [show ¬ (l.length : Int) < 1 by omega, show (0 : Int) < (l.length : Int) by omega, if_true, if_false]
 exact max106_l0 l hl (l.length - 1) 1 _ (by omega)
theorem lmax_le (l : List Int) (h0 : 0 < l.length) (b : Int) : lmax l ≤ b ↔ ∀ x ∈ l, x ≤ b := max_le l h0 b
theorem lmx_mem : ∀ (l : List Int) (a : Int), lmx l a = a ∨ lmx l a ∈ l
 | [], a => .inl rfl
 | x :: r, a => by
  rw [lmx]
  rcases lmx_mem r (mx a x) with h | h
  ·rw [h]
   unfold mx
   split
   ·exact .inr List.mem_cons_self
   ·exact .inl rfl
  ·exact .inr (List.mem_cons_of_mem _ h)
theorem lmax_mem (l : List Int) (h0 : 0 < l.length) : lmax l ∈ l := by
 have e := drop_rd (l := l) (i := 0) h0
 simp only [List.drop_zero, Nat.zero_add] at e
 rcases lmx_mem (l.drop 1) (rd l 0) with h | h
 ·unfold lmax; rw [h]; rw [e]; exact List.mem_cons_self
 ·exact List.mem_of_mem_drop h
theorem rd_mem {l : List Int} {i : Nat} (h : i < l.length) : rd l (i : Int) ∈ l := by
 rw [rd_nat, List.getD_eq_getElem?_getD, List.getElem?_eq_getElem h]; exact List.getElem_mem h
theorem mem_rd {l : List Int} {x : Int} (h : x ∈ l) : ∃ i : Nat, i < l.length ∧ rd l (i : Int) = x := by
 obtain ⟨i, hi, e⟩ := List.getElem_of_mem h
 exact ⟨i, hi, by rw [rd_nat, List.getD_eq_getElem?_getD, List.getElem?_eq_getElem hi]; exact e⟩

/-- Line i is as great as any. -/
def pk (l : List Int) (i : Nat) : Bool := l.all fun x => decide (x ≤ rd l (i : Int))
def peaksFrom (l : List Int) : Nat → Nat → List Int
 | 0, _ => []
 | n + 1, i => if pk l i = true then (i : Int) :: peaksFrom l n (i + 1) else peaksFrom l n (i + 1)
theorem mem_peaksFrom (l : List Int) : ∀ (n i : Nat) (p : Int), p ∈ peaksFrom l n i ↔ ∃ q : Nat, p = (q : Int) ∧ i ≤ q ∧ q < i + n ∧ pk l q = true
  | 0, i, p => by simp [peaksFrom]; omega
  | n + 1, i, p => by
    rw [peaksFrom]
    by_cases h : pk l i = true
    · rw [if_pos h, List.mem_cons, mem_peaksFrom l n (i + 1)]
      constructor
      · rintro (rfl | ⟨q, rfl, a, b, c⟩)
        · exact ⟨i, rfl, by omega, by omega, h⟩
        · exact ⟨q, rfl, by omega, by omega, c⟩
      · rintro ⟨q, rfl, a, b, c⟩
        by_cases e : q = i
        · subst e; exact .inl rfl
        · exact .inr ⟨q, rfl, by omega, by omega, c⟩
    · rw [if_neg h, mem_peaksFrom l n (i + 1)]
      constructor
      · rintro ⟨q, rfl, a, b, c⟩; exact ⟨q, rfl, by omega, by omega, c⟩
      · rintro ⟨q, rfl, a, b, c⟩
        exact ⟨q, rfl, by rcases Nat.lt_or_ge i q with h' | h'; exact h'; obtain rfl : q = i := by omega
                          exact absurd c h, by omega, c⟩

theorem Peaks_l1 (l : List Int) (hl : l.length < 17592186044416) (acc : List Int) (i : Nat) (hi : i < l.length) (ha : acc.length ≤ i) (R : List Int → List Int)
    (hnext : ∀ acc' : List Int, acc'.length ≤ i + 1 → Ev (fun k => Rf_Peaks.l0 k l acc' ((i + 1 : Nat) : Int)) (R acc')) : ∀ (n j : Nat) (b : Bool), j + n = l.length →
    Ev (fun k => Rf_Peaks.l1 k l acc (i : Int) b (j : Int)) (R (if (b && (l.drop j).all fun x => decide (x ≤ rd l (i : Int))) = true then acc ++ [(i : Int)] else acc))
  | 0, j, b, h => by
    refine Ev.succ (f := fun k => Rf_Peaks.l1 k l acc (i : Int) b (j : Int)) ?_
    simp only [Rf_Peaks.l1, show ¬ (j : Int) < (l.length : Int) by omega, if_false, up (show i < 4611686018427387904 by omega), show acc.length < 17592186044416 by omega, if_true]
    rw [show l.drop j = [] from List.drop_eq_nil_of_le (by omega), List.all_nil, Bool.and_true]
    cases b with
    | true => simp only [if_true]; exact hnext _ (by simp; omega)
    | false => simp only [Bool.false_eq_true, if_false]; exact hnext _ (by omega)
  | n + 1, j, b, h => by
    refine Ev.succ (f := fun k => Rf_Peaks.l1 k l acc (i : Int) b (j : Int)) ?_
    simp only [Rf_Peaks.l1, show (j : Int) < (l.length : Int) by omega, show (0 : Int) ≤ (j : Int) by omega, show (0 : Int) ≤ (i : Int) by omega, show (i : Int) < (l.length : Int) by omega, if_true, up (show j < 4611686018427387904 by omega)]
    rw [drop_rd (show j < l.length by omega), List.all_cons]
    cases b with
    | true =>
      simp only [if_true, Bool.true_and]
      exact Peaks_l1 l hl acc i hi ha R hnext n (j + 1) _ (by omega)
    | false =>
      simp only [Bool.false_eq_true, if_false, Bool.false_and]
      have := Peaks_l1 l hl acc i hi ha R hnext n (j + 1) false (by omega)
      simpa using this
theorem Peaks_l0 (l : List Int) (hl : l.length < 17592186044416) : ∀ (n i : Nat) (acc : List Int), i + n = l.length → acc.length ≤ i →
  Ev (fun k => Rf_Peaks.l0 k l acc (i : Int)) (acc ++ peaksFrom l n i)
 | 0, i, acc, h, ha => by
  refine Ev.succ (f := fun k => Rf_Peaks.l0 k l acc (i : Int)) ?_
  simp only [Rf_Peaks.l0, show ¬ (i : Int) < (l.length : Int) by omega, if_false, peaksFrom, List.append_nil]
  exact Ev.some
 | n + 1, i, acc, h, ha => by
  refine Ev.succ (f := fun k => Rf_Peaks.l0 k l acc (i : Int)) ?_
  simp only [Rf_Peaks.l0, show (i : Int) < (l.length : Int) by omega, if_true]
  have := Peaks_l1 l hl acc i (by omega) ha (fun a => a ++ peaksFrom l n (i + 1)) (fun acc' h' => Peaks_l0 l hl n (i + 1) acc' (by omega) h') l.length 0 true (by omega)
  rw [peaksFrom]
  simp only [Bool.true_and, List.drop_zero] at this
  by_cases q : pk l i = true
  ·have q' : (l.all fun x => decide (x ≤ rd l (i : Int))) = true := q
   rw [if_pos q]
   rw [if_pos q'] at this
   simpa using this
  ·have q' : ¬ (l.all fun x => decide (x ≤ rd l (i : Int))) = true := q
   rw [if_neg q]
   rw [if_neg q'] at this
   simpa using this
/-- All peaks. -/
def peaks (l : List Int) : List Int := peaksFrom l l.length 0
theorem Peaks_ev (l : List Int) (hl : l.length < 17592186044416) : Ev (fun k => Rf_Peaks.f k l) (peaks l) := by
 have := Peaks_l0 l hl l.length 0 [] (by omega) (by simp)
 simpa [Rf_Peaks.f, peaks] using this
theorem peaks_cons (l : List Int) (h0 : 0 < l.length) : ∃ (p : Nat) (r : List Int), peaks l = (p : Int) :: r ∧ p < l.length ∧ rd l (p : Int) = lmax l := by
  obtain ⟨i, hi, e⟩ := mem_rd (lmax_mem l h0)
  have hmem : (i : Int) ∈ peaks l := (mem_peaksFrom l _ _ _).2 ⟨i, rfl, by omega, by omega, by unfold pk; rw [e]; simpa using (lmax_le l h0 _).1 (Int.le_refl _)⟩
  cases hp : peaks l with
  | nil => rw [hp] at hmem; cases hmem
  | cons p r =>
    obtain ⟨q, rfl, _, hq, hk⟩ := (mem_peaksFrom l _ _ p).1 (by show p ∈ peaks l; rw [hp]; exact List.mem_cons_self)
    refine ⟨q, r, rfl, by omega, ?_⟩
    have h1 : lmax l ≤ rd l (q : Int) := (lmax_le l h0 _).2 (by simpa [pk] using hk)
    have h2 : rd l (q : Int) ≤ lmax l := (lmax_le l h0 _).1 (Int.le_refl _) _ (rd_mem (by omega))
    omega
theorem Peak_ev (l : List Int) (h0 : 0 < l.length) (hl : l.length < 17592186044416) : ∃ p : Nat, p < l.length ∧ rd l (p : Int) = lmax l ∧ Ev (fun k => Rf_Peak.f k l) (p : Int) := by
 obtain ⟨p, r, e, hp, hr⟩ := peaks_cons l h0
 refine ⟨p, hp, hr, ?_⟩
 unfold Rf_Peak.f
 refine Ev.bind (Peaks_ev l hl) ?_
 rw [e]
 simp only [List.length_cons, show (0 : Int) < ((r.length + 1 : Nat) : Int) by omega, if_true]
 exact Ev.some

/-- How many of the first N meet P. -/
def cntUp (P : Nat → Bool) : Nat → Nat
 | 0 => 0
 | N + 1 => cntUp P N + (if P N = true then 1 else 0)
theorem cntUp_le (P : Nat → Bool) : ∀ N, cntUp P N ≤ N
 | 0 => Nat.le_refl _
 | N + 1 => by have := cntUp_le P N; unfold cntUp; split <;> omega
/-- Case j has a power of at least t. -/
def hit (l v : List Int) (t : Int) (j : Nat) : Bool := decide (t ≤ lmax (nzF v l (j : Int)))
/-- A fraction in lowest terms, as both say it. -/
def frac (a b : Int) : Int × Int := (wrap64 (Int.tdiv a (gq a b)), wrap64 (Int.tdiv b (gq a b)))
theorem gq_pos {a b : Int} (ha : 0 ≤ a ∧ a ≤ 1000000) (hb : 0 < b ∧ b ≤ 1000000) : 0 < gq a b := by
 have h1 : Int.gcd a b ≤ b.natAbs := Nat.le_of_dvd (by omega) (Nat.gcd_dvd_right _ _)
 have h2 : 0 < Int.gcd a b := Int.gcd_pos_of_ne_zero_right _ (by omega)
 unfold gq
 rw [if_neg (by omega)]
 omega
theorem fraction_ev {a b : Int} (ha : -9223372036854775808 ≤ a ∧ a ≤ 9223372036854775807) (hb : -9223372036854775808 ≤ b ∧ b ≤ 9223372036854775807) (h0 : gq a b ≠ 0) : Ev (fun k => line_fraction.f k a b) (frac a b) := by
 unfold line_fraction.f
 refine Ev.bind (divisor_ev ha hb) ?_
 simp only [h0, if_false]
 exact Ev.some
theorem Lowest_ev {a b : Int} (ha : -9223372036854775808 ≤ a ∧ a ≤ 9223372036854775807) (hb : 0 ≤ b ∧ b ≤ 9223372036854775807) (h0 : gq a b ≠ 0) : Ev (fun k => Bs_Lowest.f k a b) (frac a b) := by
 unfold Bs_Lowest.f
 refine Ev.bind (gcd_ev ha (by omega)) ?_
 simp only [show ¬ b < 0 by omega, h0, if_false]
 exact Ev.some

theorem rate_iter (l v : List Int) (t : Int) (l1 : 1 ≤ l.length) (hl : l.length < 17592186044416) (v1 : 1 ≤ v.length) : ∀ N : Nat, N ≤ 1000000 →
  Ev (fun k => iterN (line_rate.step k l v t) N (0, 0)) (((cntUp (hit l v t) N : Nat) : Int), (N : Int))
 | 0, _ => Ev.some
 | N + 1, h => by
  have ih := rate_iter l v t l1 hl v1 N (by omega)
  have hc := cntUp_le (hit l v t) N
  have hn := nzF_length v l (N : Int)
  show Ev (fun k => (iterN (line_rate.step k l v t) N (0, 0)).bind (line_rate.step k l v t N)) _
  refine Ev.bind ih ?_
  unfold line_rate.step
  refine Ev.bind (noisy_ev l v v1 hl (N : Int) (by omega) (by omega)) ?_
  refine Ev.bind (max106_ev (nzF v l (N : Int)) (by omega) (by omega)) ?_
  rw [cntUp]
  have e1 : wrap64 ((N : Int) + 1) = ((N + 1 : Nat) : Int) := up (by omega)
  by_cases q : t ≤ lmax (nzF v l (N : Int))
  ·have q' : hit l v t N = true := by simpa [hit] using q
   simp only [q, q', if_true, e1, up (show cntUp (hit l v t) N < 4611686018427387904 by omega)]
   exact Ev.some
  ·have q' : ¬ hit l v t N = true := by simpa [hit] using q
   simp only [q, q', if_false, e1, Nat.add_zero]
   exact Ev.some
theorem rate_ev (l v : List Int) (t : Int) (l1 : 1 ≤ l.length) (hl : l.length < 17592186044416) (v1 : 1 ≤ v.length) (v4 : v.length ≤ 4) (hc : v.length ^ l.length ≤ 4096) :
  Ev (fun k => line_rate.f k l v t) (frac ((cntUp (hit l v t) (v.length ^ l.length) : Nat) : Int) ((v.length ^ l.length : Nat) : Int)) := by
 have h0 : 0 < v.length ^ l.length := Nat.pow_pos (by omega)
 have hu := cntUp_le (hit l v t) (v.length ^ l.length)
 unfold line_rate.f
 refine Ev.bind (cases_ev v v1 v4 l.length (by omega)) ?_
 simp only [hc, if_true, show (0 : Int) ≤ ((v.length ^ l.length : Nat) : Int) by omega, show ((v.length ^ l.length : Nat) : Int) ≤ 1000000 by omega, Int.toNat_natCast]
 refine Ev.bind (rate_iter l v t l1 hl v1 _ (by omega)) ?_
 exact fraction_ev (by omega) (by omega) (Int.ne_of_gt (gq_pos (by omega) (by omega)))
theorem Rate_l0 (l v : List Int) (t : Int) (l1 : 1 ≤ l.length) (hl : l.length < 17592186044416) (v1 : 1 ≤ v.length) (N : Nat) (h1 : 1 ≤ N) (hN : N ≤ 1000000) : ∀ (d j : Nat), j + d = N →
  Ev (fun k => Rf_Rate.l0 k l t (N : Int) ((cntUp (hit l v t) j : Nat) : Int) (j : Int) v) (frac ((cntUp (hit l v t) N : Nat) : Int) (N : Int))
 | 0, j, h => by
  refine Ev.succ (f := fun k => Rf_Rate.l0 k l t (N : Int) ((cntUp (hit l v t) j : Nat) : Int) (j : Int) v) ?_
  obtain rfl : j = N := by omega
  have hu := cntUp_le (hit l v t) j
  simp only [Rf_Rate.l0, show ¬ (j : Int) < (j : Int) by omega, if_false]
  refine Ev.bind (Lowest_ev (by omega) (by omega) (Int.ne_of_gt (gq_pos (by omega) (by omega)))) ?_
  exact Ev.some
 | d + 1, j, h => by
  refine Ev.succ (f := fun k => Rf_Rate.l0 k l t (N : Int) ((cntUp (hit l v t) j : Nat) : Int) (j : Int) v) ?_
  have hu := cntUp_le (hit l v t) j
  have hn := nzF_length v l (j : Int)
  simp only [Rf_Rate.l0, show (j : Int) < (N : Int) by omega, if_true]
  refine Ev.bind (Noisy_ev l v v1 hl (j : Int) (by omega) (by omega)) ?_
  obtain ⟨p, hp, hr, he⟩ := Peak_ev (nzF v l (j : Int)) (by omega) (by omega)
  refine Ev.bind he ?_
  have ih := Rate_l0 l v t l1 hl v1 N h1 hN d (j + 1) (by omega)
  rw [cntUp] at ih
  simp only [show (0 : Int) ≤ (p : Int) by omega, show (p : Int) < ((nzF v l (j : Int)).length : Int) by omega, if_true, hr, up (show j < 4611686018427387904 by omega), up (show cntUp (hit l v t) j < 4611686018427387904 by omega)]
  by_cases q : t ≤ lmax (nzF v l (j : Int))
  ·have q' : hit l v t j = true := by simpa [hit] using q
   simp only [q', if_true] at ih
   simp only [show lmax (nzF v l (j : Int)) ≥ t from q, if_true]
   exact ih
  ·have q' : ¬ hit l v t j = true := by simpa [hit] using q
   simp only [q', if_false, Nat.add_zero] at ih
   simp only [show ¬ lmax (nzF v l (j : Int)) ≥ t from q, if_false]
   exact ih
theorem Rate_ev (l v : List Int) (t : Int) (l1 : 1 ≤ l.length) (hl : l.length < 17592186044416) (v1 : 1 ≤ v.length) (v4 : v.length ≤ 4) (hc : v.length ^ l.length ≤ 4096) :
  Ev (fun k => Rf_Rate.f k l v t) (frac ((cntUp (hit l v t) (v.length ^ l.length) : Nat) : Int) ((v.length ^ l.length : Nat) : Int)) := by
 have h0 : 0 < v.length ^ l.length := Nat.pow_pos (by omega)
 unfold Rf_Rate.f
 refine Ev.bind (Cases_ev v v1 v4 l.length (by omega)) ?_
 simp only [hc, if_true]
 exact Rate_l0 l v t l1 hl v1 _ (by omega) (by omega) (v.length ^ l.length) 0 (by omega)
theorem awake_ev : Ev (fun k => Lw_awake.f k) true :=
 Ev.of_mono (k := 40) (fun k => Lw_awake.mono k) (by kernel_rfl)
theorem CopyInts_eq (l : List Int) (h : l.length < 17592186044416) : Bs_CopyInts.f l = some l := by
 unfold Bs_CopyInts.f
 simp [h]
def thErr (t : Int) : Int := if 0 ≤ t ∧ t ≤ 11000 then 0 else 2
theorem thresholdErr_eq (t : Int) : line_thresholdErr.f t = some (thErr t) := by
 unfold line_thresholdErr.f thErr
 simp only [within_eq, unless_eq, Option.bind_some, decide_eq_true_eq]
theorem ThresholdErr_eq (t : Int) : Rf_ThresholdErr.f t = some (thErr t) := by
 unfold Rf_ThresholdErr.f thErr
 simp only [Within_eq, Option.bind_some, decide_eq_true_eq]
 split <;> rfl
theorem gq_pos' {a b : Int} (hb : 0 < b ∧ b ≤ 4611686018427387904) : 0 < gq a b ∧ gq a b ≤ b ∧ gq a b = (Int.gcd a b : Int) := by
 have h1 : Int.gcd a b ≤ b.natAbs := Nat.le_of_dvd (by omega) (Nat.gcd_dvd_right _ _)
 have h2 : 0 < Int.gcd a b := Int.gcd_pos_of_ne_zero_right _ (by omega)
 unfold gq
 rw [if_neg (by omega)]
 omega
theorem frac_den {a b : Int} (hb : 0 < b ∧ b ≤ 4611686018427387904) : 0 < (frac a b).2 ∧ (frac a b).2 ≤ b := by
 obtain ⟨h1, h2, h3⟩ := gq_pos' (a := a) hb
 have hd : gq a b ∣ b := by rw [h3]; exact Int.gcd_dvd_right _ _
 obtain ⟨c, hc⟩ := hd
 have e : Int.tdiv b (gq a b) = c := by
  rw [Int.tdiv_eq_ediv_of_nonneg (by omega)]
  exact Int.ediv_eq_of_eq_mul_right (by omega) hc
 have c0 : 0 < c := by
  by_cases h : 0 < c
  ·exact h
  ·have := Int.mul_nonneg (show (0 : Int) ≤ gq a b by omega) (show (0 : Int) ≤ -c by omega)
   rw [Int.mul_neg] at this; omega
 have c1 : c ≤ b := by
  have : 1 * c ≤ gq a b * c := Int.mul_le_mul_of_nonneg_right (by omega) (by omega)
  omega
 show 0 < wrap64 _ ∧ wrap64 _ ≤ b
 rw [e, w64 (by omega)]
 exact ⟨c0, c1⟩
theorem frac_num {a b : Int} (hb : 0 < b ∧ b ≤ 4611686018427387904) (ha : -4611686018427387904 ≤ a ∧ a ≤ 4611686018427387904) : (frac a b).1.natAbs ≤ a.natAbs ∧ (0 ≤ a → 0 ≤ (frac a b).1) := by
 obtain ⟨h1, h2, h3⟩ := gq_pos' (a := a) hb
 have h : (Int.tdiv a (gq a b)).natAbs ≤ a.natAbs := by
  rw [Int.natAbs_tdiv]
  exact Nat.div_le_self _ _
 show (wrap64 _).natAbs ≤ _ ∧ (_ → 0 ≤ wrap64 _)
 rw [w64 (by omega)]
 exact ⟨h, fun h0 => Int.tdiv_nonneg h0 (by omega)⟩
/-- The sum of n powers from line i on, and their sum with the lines' numbers. -/
def sn (l : List Int) : Nat → Nat → Int
 | 0, _ => 0
 | n + 1, i => rd l (i : Int) + sn l n (i + 1)
def wn (l : List Int) : Nat → Nat → Int
 | 0, _ => 0
 | n + 1, i => (i : Int) * rd l (i : Int) + wn l n (i + 1)
/-- The first line with the maximum power. -/
def fp (l : List Int) : Nat := ((peaks l).headD 0).toNat
def par (l : List Int) : Int × Int :=
 if fp l = 0 ∨ fp l + 1 = l.length then ((fp l : Int), 1) else
  if 2 * rd l (fp l : Int) - rd l ((fp l - 1 : Nat) : Int) - rd l ((fp l + 1 : Nat) : Int) ≤ 0 then ((fp l : Int), 1) else
   frac (2 * (2 * rd l (fp l : Int) - rd l ((fp l - 1 : Nat) : Int) - rd l ((fp l + 1 : Nat) : Int)) * (fp l : Int) + rd l ((fp l + 1 : Nat) : Int) - rd l ((fp l - 1 : Nat) : Int)) (2 * (2 * rd l (fp l : Int) - rd l ((fp l - 1 : Nat) : Int) - rd l ((fp l + 1 : Nat) : Int)))
def mdF (l : List Int) : Nat → Nat → Nat
 | 0, i => i
 | n + 1, i => if sn l l.length 0 ≤ 2 * sn l (i + 1) 0 then i else mdF l n (i + 1)
def md (l : List Int) : Nat := mdF l l.length 0
def est (l : List Int) (kind : Int) : Int × Int :=
 if sn l l.length 0 = 0 then (0, 1) else if kind = 1 then frac (wn l l.length 0) (sn l l.length 0) else if kind = 2 then par l else if kind = 3 then ((md l : Int), 1) else ((fp l : Int), 1)
theorem idxF_ok (m : Int) : ∀ l : List Int, ¬ idxF (bad m) l ≥ 0 → ∀ x ∈ l, 0 ≤ x ∧ x ≤ m
  | [], _, _, hx => by cases hx
  | a :: r, h, x, hx => by
    rw [idxF_cons] at h
    cases e : bad m a with
    | true => rw [e] at h; simp at h
    | false =>
      rw [e] at h
      simp only [Bool.false_eq_true, if_false] at h
      have h' : ¬ idxF (bad m) r ≥ 0 := fun q => by rw [if_pos q] at h; exact h (by omega)
      rcases List.mem_cons.1 hx with rfl | hx
      · have := within_bad m x
        rw [e] at this
        simpa using this
      · exact idxF_ok m r h' x hx
theorem lErr_ok {l : List Int} {n : Nat} {m : Int} (h : (lErr l n m).2 = 0) : ∀ x ∈ l, 0 ≤ x ∧ x ≤ m := by
 have hlen := lErr_len h
 unfold lErr at h
 rw [if_neg (by omega), if_neg (by omega)] at h
 by_cases q : idxF (bad m) l ≥ 0
 ·rw [if_pos q] at h; simp at h
 ·exact idxF_ok m l q
theorem CopyNoise_eq (v : List Int) (h : v.length < 17592186044416) : Rf_CopyNoise.f v = some v := by
 unfold Rf_CopyNoise.f
 simp [CopyInts_eq v h]
/-- The error of a noise on so many lines. -/
def nErr (v : List Int) (n : Int) : Int := if (lErr v 4 1000).2 = 0 then (if 1 ≤ n ∧ n ≤ 16 then (if v.length ^ n.toNat ≤ 4096 then 0 else 8) else 2) else (lErr v 4 1000).2
theorem nErr_zero {v : List Int} {n : Int} (h : nErr v n = 0) : (lErr v 4 1000).2 = 0 ∧ (1 ≤ n ∧ n ≤ 16) ∧ v.length ^ n.toNat ≤ 4096 := by
 unfold nErr at h
 by_cases h1 : (lErr v 4 1000).2 = 0
 ·by_cases h2 : 1 ≤ n ∧ n ≤ 16
  ·by_cases h3 : v.length ^ n.toNat ≤ 4096
   ·exact ⟨h1, h2, h3⟩
   ·simp [h1, h2, h3] at h
  ·simp [h1, h2] at h
 ·simp [h1] at h
/-- A signal without power. -/
def qrow (n : Int) : List Int := List.replicate n.toNat 0
theorem qrow_length (n : Int) : (qrow n).length = n.toNat := by simp [qrow]
def R (v : List Int) (n t : Int) : Int × Int := frac ((cntUp (hit (qrow n) v t) (v.length ^ n.toNat) : Nat) : Int) ((v.length ^ n.toNat : Nat) : Int)

theorem openNoise_ev (v : List Int) (n : Int) : ∃ q : List Int, Ev (fun k => line_openNoise.f k v n) (q, nErr v n) ∧ (nErr v n = 0 → q = qrow n) := by
 unfold line_openNoise.f nErr
 rw [lineCheckNoise_eq]
 simp only [Option.bind_some, within_eq, unless_eq, decide_eq_true_eq]
 have hb : ∀ (a b : Int) (r : List Int × Int) (g : Nat → Int → Option (List Int × Int)), Ev (fun k => g k (fnz [a, b])) r → Ev (fun k => (line_first.f k [a, b]).bind (g k)) r := fun a b r g hg => Ev.bind (first_ev _ (by simp)) hg
 by_cases h1 : (lErr v 4 1000).2 = 0
 ·obtain ⟨v1, v4⟩ := lErr_len h1
  by_cases h2 : 1 ≤ n ∧ n ≤ 16
  ·refine ⟨qrow n, ?_, fun _ => rfl⟩
   refine hb _ _ _ _ ?_
   simp only [fnz, h1, h2, and_self, if_true]
   have hn : ((n.toNat : Nat) : Int) = n := by omega
   have hc := cases_ev v v1 v4 n.toNat (by omega)
   rw [hn] at hc
   refine Ev.bind hc ?_
   simp only [show 0 ≤ n by omega, show n.toNat ≤ 35184372088832 by omega, if_true, Option.bind_some, qrow]
   by_cases h3 : v.length ^ n.toNat ≤ 4096
   ·simp only [h3, if_true]; exact Ev.some
   ·simp only [h3, if_false, Bool.false_eq_true]; exact Ev.some
  ·refine ⟨[], ?_, fun h => by simp [h1, h2] at h⟩
   refine hb _ _ _ _ ?_
   simp only [fnz, h1, h2, if_true, if_false, show ¬ (2 : Int) = 0 by decide]; exact Ev.some
 ·refine ⟨[], ?_, fun h => by simp [h1] at h⟩
  refine hb _ _ _ _ ?_
  simp only [fnz, h1, if_true, if_false]; exact Ev.some
theorem rateQ_ev {v : List Int} {n : Int} (h : nErr v n = 0) (t : Int) : Ev (fun k => line_rate.f k (qrow n) v t) (R v n t) := by
 obtain ⟨h1, h2, h3⟩ := nErr_zero h
 obtain ⟨v1, v4⟩ := lErr_len h1
 have := rate_ev (qrow n) v t (by rw [qrow_length]; omega) (by rw [qrow_length]; omega) v1 v4 (by rw [qrow_length]; exact h3)
 rw [qrow_length] at this
 exact this
theorem FalseRate_ev (v : List Int) (n t : Int) : Ev (fun k => line_FalseRate.f k v n t) (if nErr v n = 0 then (if thErr t = 0 then ((R v n t).1, (R v n t).2, 0) else (0, 0, thErr t)) else (0, 0, nErr v n)) := by
 unfold line_FalseRate.f
 obtain ⟨q, hq, e⟩ := openNoise_ev v n
 refine Ev.bind hq ?_
 simp only [thresholdErr_eq, Option.bind_some]
 refine Ev.bind (first_ev _ (by simp)) ?_
 by_cases h : nErr v n = 0
 ·rw [e h]
  by_cases h5 : thErr t = 0
  ·simp only [fnz, h, h5, if_true]
   exact Ev.bind (rateQ_ev h t) Ev.some
  ·simp only [fnz, h, h5, if_true, if_false]; exact Ev.some
 ·simp only [fnz, h, if_false]; exact Ev.some
theorem refFalseRate_ev {v : List Int} {n : Int} (h : nErr v n = 0) (t : Int) : Ev (fun k => Rf_FalseRate.f k v n t) (R v n t) := by
 obtain ⟨h1, h2, h3⟩ := nErr_zero h
 obtain ⟨v1, v4⟩ := lErr_len h1
 have := Rate_ev (qrow n) v t (by rw [qrow_length]; omega) (by rw [qrow_length]; omega) v1 v4 (by rw [qrow_length]; exact h3)
 rw [qrow_length] at this
 unfold Rf_FalseRate.f
 simp only [show 0 ≤ n by omega, show n.toNat ≤ 35184372088832 by omega, if_true]
 exact Ev.bind this Ev.some
theorem refNoiseErr_ev (v : List Int) : Ev (fun k => Rf_NoiseErr.f k v) (lErr v 4 1000).2 := Ev.bind (refCheckNoise_ev v) Ev.some
theorem LinesErr_ev {v : List Int} {n : Int} (h : (lErr v 4 1000).2 = 0) : Ev (fun k => Rf_LinesErr.f k v n) (nErr v n) := by
 unfold Rf_LinesErr.f nErr
 obtain ⟨v1, v4⟩ := lErr_len h
 simp only [Within_eq, Option.bind_some, decide_eq_true_eq, h, if_true]
 by_cases h2 : 1 ≤ n ∧ n ≤ 16
 ·simp only [h2, and_self, if_true]
  have hn : ((n.toNat : Nat) : Int) = n := by omega
  have hc := Cases_ev v v1 v4 n.toNat (by omega)
  rw [hn] at hc
  refine Ev.bind hc ?_
  by_cases h3 : v.length ^ n.toNat ≤ 4096
  ·simp only [h3, if_true, show ¬ ((v.length ^ n.toNat : Nat) : Int) > 4096 by omega, if_false]; exact Ev.some
  ·simp only [h3, if_false, show (4097 : Int) > 4096 by decide, if_true]; exact Ev.some
 ·simp only [h2, if_false]; exact Ev.some

def sat (v : List Int) (n risk t : Int) : Bool := decide (wrap64 (1000 * (R v n t).1) ≤ wrap64 (risk * (R v n t).2))
def cands (v : List Int) : List Int := 0 :: v.map fun x => wrap64 (x + 1)
def scan (S : Int → Bool) : List Int → Int × Int
 | [] => (0, 12)
 | t :: r => if S t = true then (t, 0) else scan S r
def upd (S : Int → Bool) (b c : Int) : Int := if S c = true then (if b < 0 then c else if c < b then c else b) else b
theorem scan_spec (S : Int → Bool) : ∀ ys : List Int, ys.Pairwise (· ≤ ·) → (∃ c, c ∈ ys ∧ S c = true) → ∃ t, t ∈ ys ∧ scan S ys = (t, 0) ∧ S t = true ∧ ∀ c ∈ ys, S c = true → t ≤ c
 | [], _, ⟨c, hc, _⟩ => by simp at hc
 | t :: r, hp, ⟨c, hc, hs⟩ => by
  rw [List.pairwise_cons] at hp
  by_cases ht : S t = true
  ·refine ⟨t, List.mem_cons_self, by simp [scan, ht], ht, fun d hd _ => ?_⟩
   rcases List.mem_cons.1 hd with rfl | hd
   ·exact Int.le_refl _
   ·exact hp.1 d hd
  ·have hc' : c ∈ r := by
    rcases List.mem_cons.1 hc with rfl | hc
    ·exact absurd hs ht
    ·exact hc
   obtain ⟨u, hu, e, su, hm⟩ := scan_spec S r hp.2 ⟨c, hc', hs⟩
   refine ⟨u, List.mem_cons_of_mem _ hu, by simp [scan, ht, e], su, fun d hd sd => ?_⟩
   rcases List.mem_cons.1 hd with rfl | hd
   ·exact absurd sd ht
   ·exact hm d hd sd
theorem upd_spec (S : Int → Bool) : ∀ (cs : List Int) (b : Int), (∀ c ∈ cs, 0 ≤ c) → (b = -1 ∨ 0 ≤ b) →
  (cs.foldl (upd S) b = b ∨ (cs.foldl (upd S) b ∈ cs ∧ S (cs.foldl (upd S) b) = true)) ∧ (0 ≤ b → 0 ≤ cs.foldl (upd S) b ∧ cs.foldl (upd S) b ≤ b) ∧ ∀ c ∈ cs, S c = true → 0 ≤ cs.foldl (upd S) b ∧ cs.foldl (upd S) b ≤ c
 | [], b, _, hb => ⟨.inl rfl, fun h => ⟨h, Int.le_refl _⟩, fun c hc => by simp at hc⟩
 | c :: r, b, hc, hb => by
  have hc0 := hc c List.mem_cons_self
  have hu : upd S b c = -1 ∨ 0 ≤ upd S b c := by unfold upd; split <;> (try split) <;> (try split) <;> omega
  obtain ⟨i1, i2, i3⟩ := upd_spec S r (upd S b c) (fun d hd => hc d (List.mem_cons_of_mem _ hd)) hu
  rw [List.foldl_cons]
  refine ⟨?_, fun h0 => ?_, fun d hd sd => ?_⟩
  ·rcases i1 with i1 | ⟨i1, j1⟩
   ·rw [i1]
    unfold upd
    by_cases hs : S c = true
    ·rw [if_pos hs]
     by_cases h1 : b < 0
     ·rw [if_pos h1]; exact .inr ⟨List.mem_cons_self, hs⟩
     ·rw [if_neg h1]
      by_cases h2 : c < b
      ·rw [if_pos h2]; exact .inr ⟨List.mem_cons_self, hs⟩
      ·rw [if_neg h2]; exact .inl rfl
    ·rw [if_neg hs]; exact .inl rfl
   ·exact .inr ⟨List.mem_cons_of_mem _ i1, j1⟩
  ·have : 0 ≤ upd S b c ∧ upd S b c ≤ b := by unfold upd; split <;> (try split) <;> (try split) <;> omega
   have := i2 this.1
   omega
  ·rcases List.mem_cons.1 hd with rfl | hd
   ·have : 0 ≤ upd S b d ∧ upd S b d ≤ d := by unfold upd; rw [if_pos sd]; split <;> (try split) <;> omega
    have := i2 this.1
    omega
   ·exact i3 d hd sd
theorem cands_ge {v : List Int} (hv : ∀ x ∈ v, 0 ≤ x ∧ x ≤ 1000) : ∀ c ∈ cands v, c = 0 ∨ ∃ x, x ∈ v ∧ c = x + 1 := by
 intro c hc
 rcases List.mem_cons.1 hc with rfl | hc
 ·exact .inl rfl
 ·obtain ⟨x, hx, rfl⟩ := List.mem_map.1 hc
  have := hv x hx
  exact .inr ⟨x, hx, w64 (by omega)⟩
theorem cands_mem {v : List Int} (hv : ∀ x ∈ v, 0 ≤ x ∧ x ≤ 1000) {x : Int} (hx : x ∈ v) : x + 1 ∈ cands v := by
 have := hv x hx
 refine List.mem_cons_of_mem _ (List.mem_map.2 ⟨x, hx, w64 (by omega)⟩)

theorem cntUp_none {P : Nat → Bool} {N : Nat} (h : ∀ j, j < N → P j = false) : cntUp P N = 0 := by
 induction N with
 | zero => rfl
 | succ N ih => unfold cntUp; rw [ih (fun j hj => h j (by omega)), h N (by omega)]; rfl
theorem nzF_quiet {v : List Int} (v1 : 1 ≤ v.length) (hv : ∀ x ∈ v, 0 ≤ x ∧ x ≤ 1000) : ∀ (m : Nat) (j : Int), 0 ≤ j → ∀ x ∈ nzF v (List.replicate m 0) j, x ∈ v
 | 0, j, _, x, hx => by simp [nzF] at hx
 | m + 1, j, hj, x, hx => by
  obtain ⟨d1, d2, d3, d4⟩ := digit_in (m := (v.length : Int)) hj (by omega)
  rw [List.replicate_succ, nzF] at hx
  rcases List.mem_cons.1 hx with rfl | hx
  ·obtain ⟨i, hi⟩ : ∃ i : Nat, Int.tmod j (v.length : Int) = (i : Int) := ⟨(Int.tmod j (v.length : Int)).toNat, by omega⟩
   rw [hi]
   have hm := rd_mem (l := v) (i := i) (by omega)
   have := hv _ hm
   rw [w64 (by omega), Int.zero_add]
   exact hm
  ·exact nzF_quiet v1 hv m _ d3 x hx
theorem top_quiet {v : List Int} {n : Int} (h : nErr v n = 0) (j : Nat) : lmax (nzF v (qrow n) (j : Int)) ∈ v := by
 obtain ⟨h1, h2, h3⟩ := nErr_zero h
 obtain ⟨v1, v4⟩ := lErr_len h1
 exact nzF_quiet v1 (lErr_ok h1) n.toNat j (by omega) _ (lmax_mem _ (by rw [nzF_length, List.length_replicate]; omega))
theorem R_in {v : List Int} {n : Int} (h : nErr v n = 0) (t : Int) : (0 ≤ (R v n t).1 ∧ (R v n t).1 ≤ 4096) ∧ 0 < (R v n t).2 ∧ (R v n t).2 ≤ 4096 := by
 obtain ⟨h1, h2, h3⟩ := nErr_zero h
 obtain ⟨v1, v4⟩ := lErr_len h1
 have h0 : 0 < v.length ^ n.toNat := Nat.pow_pos (by omega)
 have hu := cntUp_le (hit (qrow n) v t) (v.length ^ n.toNat)
 have a := frac_num (a := ((cntUp (hit (qrow n) v t) (v.length ^ n.toNat) : Nat) : Int)) (b := ((v.length ^ n.toNat : Nat) : Int)) (by omega) (by omega)
 have b := frac_den (a := ((cntUp (hit (qrow n) v t) (v.length ^ n.toNat) : Nat) : Int)) (b := ((v.length ^ n.toNat : Nat) : Int)) (by omega)
 have := a.2 (by omega)
 unfold R
 omega
theorem sat_top {v : List Int} {n risk : Int} (h : nErr v n = 0) (hr : 0 ≤ risk ∧ risk ≤ 1000) : ∃ c, c ∈ cands v ∧ sat v n risk c = true := by
 obtain ⟨h1, h2, h3⟩ := nErr_zero h
 obtain ⟨v1, v4⟩ := lErr_len h1
 have hv := lErr_ok h1
 have hm := lmax_mem v (by omega)
 refine ⟨lmax v + 1, cands_mem hv hm, ?_⟩
 have hz : cntUp (hit (qrow n) v (lmax v + 1)) (v.length ^ n.toNat) = 0 := cntUp_none (fun j _ => by
  unfold hit
  have := (lmax_le v (by omega) (lmax v)).1 (Int.le_refl _) _ (top_quiet h j)
  simp; omega)
 have hi := R_in h (lmax v + 1)
 have e : (R v n (lmax v + 1)).1 = 0 := by
  have h0 : 0 < v.length ^ n.toNat := Nat.pow_pos (by omega)
  have a := (frac_num (a := ((0 : Nat) : Int)) (b := ((v.length ^ n.toNat : Nat) : Int)) (by omega) (by omega)).1
  unfold R
  rw [hz]
  omega
 unfold sat
 rw [e, decide_eq_true_eq]
 have : 0 ≤ risk * (R v n (lmax v + 1)).2 ∧ risk * (R v n (lmax v + 1)).2 ≤ 1000 * 4096 := ⟨Int.mul_nonneg hr.1 (by omega), Int.mul_le_mul hr.2 hi.2.2 (by omega) (by omega)⟩
 rw [w64 (by omega), w64 (by omega)]
 omega

theorem scan_l1 {v : List Int} {n risk : Int} (h : nErr v n = 0) (ys : List Int) (hl : ys.length < 4611686018427387904) : ∀ (d i : Nat), i + d = ys.length →
  Ev (fun k => line_ThresholdFor.l1 k risk (qrow n) ys (ys.length : Int) (i : Int) v) (scan (sat v n risk) (ys.drop i))
 | 0, i, e => by
  refine Ev.succ (f := fun k => line_ThresholdFor.l1 k risk (qrow n) ys (ys.length : Int) (i : Int) v) ?_
  simp only [line_ThresholdFor.l1, show ¬ (i : Int) < (ys.length : Int) by omega, if_false]
  rw [show ys.drop i = [] from List.drop_eq_nil_of_le (by omega)]
  exact Ev.some
 | d + 1, i, e => by
  refine Ev.succ (f := fun k => line_ThresholdFor.l1 k risk (qrow n) ys (ys.length : Int) (i : Int) v) ?_
  simp only [line_ThresholdFor.l1, show (i : Int) < (ys.length : Int) by omega, show (0 : Int) ≤ (i : Int) by omega, if_true, up (show i < 4611686018427387904 by omega)]
  rw [drop_rd (show i < ys.length by omega), scan]
  refine Ev.bind (rateQ_ev h (rd ys (i : Int))) ?_
  by_cases hs : wrap64 (1000 * (R v n (rd ys (i : Int))).1) ≤ wrap64 (risk * (R v n (rd ys (i : Int))).2)
  ·have : sat v n risk (rd ys (i : Int)) = true := decide_eq_true hs
   simp only [hs, this, if_true]; exact Ev.some
  ·have : ¬ sat v n risk (rd ys (i : Int)) = true := by simpa [sat] using hs
   simp only [hs, this, if_false]
   exact scan_l1 h ys hl d (i + 1) (by omega)
theorem limits_l0 {v : List Int} {n risk : Int} (h : nErr v n = 0) : ∀ (d i : Nat) (acc : List Int), i + d = v.length → acc.length ≤ i + 1 →
  Ev (fun k => line_ThresholdFor.l0 k risk (qrow n) acc v (v.length : Int) (i : Int) v) (scan (sat v n risk) ((acc ++ (v.drop i).map fun x => wrap64 (x + 1)).mergeSort fun x y => decide (x ≤ y)))
 | 0, i, acc, e, ha => by
  obtain ⟨h1, h2, h3⟩ := nErr_zero h
  obtain ⟨v1, v4⟩ := lErr_len h1
  refine Ev.succ (f := fun k => line_ThresholdFor.l0 k risk (qrow n) acc v (v.length : Int) (i : Int) v) ?_
  simp only [line_ThresholdFor.l0, show ¬ (i : Int) < (v.length : Int) by omega, if_false, slices_Sort_int_int.f, show acc.length < 4611686018427387904 by omega, if_true, Option.bind_some]
  rw [show v.drop i = [] from List.drop_eq_nil_of_le (by omega), List.map_nil, List.append_nil]
  have hl : (acc.mergeSort fun x y => decide (x ≤ y)).length = acc.length := List.length_mergeSort _
  have := scan_l1 (risk := risk) h (acc.mergeSort fun x y => decide (x ≤ y)) (by omega) acc.length 0 (by omega)
  rw [hl] at this
  simpa using this
 | d + 1, i, acc, e, ha => by
  obtain ⟨h1, h2, h3⟩ := nErr_zero h
  obtain ⟨v1, v4⟩ := lErr_len h1
  refine Ev.succ (f := fun k => line_ThresholdFor.l0 k risk (qrow n) acc v (v.length : Int) (i : Int) v) ?_
  simp only [line_ThresholdFor.l0, show (i : Int) < (v.length : Int) by omega, show (0 : Int) ≤ (i : Int) by omega, show acc.length < 17592186044416 by omega, if_true, up (show i < 4611686018427387904 by omega)]
  rw [drop_rd (show i < v.length by omega), List.map_cons, List.append_cons acc _ (List.map _ _)]
  exact limits_l0 h d (i + 1) (acc ++ [wrap64 (rd v (i : Int) + 1)]) (by omega) (by simp; omega)
theorem search_l0 {v : List Int} {n risk : Int} (h : nErr v n = 0) : ∀ (d i : Nat) (b : Int), i + d = v.length →
  Ev (fun k => Rf_Threshold.l0 k n risk b (i : Int) v) (((v.drop i).map fun x => wrap64 (x + 1)).foldl (upd (sat v n risk)) b)
 | 0, i, b, e => by
  refine Ev.succ (f := fun k => Rf_Threshold.l0 k n risk b (i : Int) v) ?_
  simp only [Rf_Threshold.l0, show ¬ (i : Int) < (v.length : Int) by omega, if_false]
  rw [show v.drop i = [] from List.drop_eq_nil_of_le (by omega)]
  exact Ev.some
 | d + 1, i, b, e => by
  obtain ⟨h1, h2, h3⟩ := nErr_zero h
  obtain ⟨v1, v4⟩ := lErr_len h1
  refine Ev.succ (f := fun k => Rf_Threshold.l0 k n risk b (i : Int) v) ?_
  simp only [Rf_Threshold.l0, show (i : Int) < (v.length : Int) by omega, show (i : Int) ≥ 0 by omega, show (0 : Int) ≤ (i : Int) by omega, if_true, up (show i < 4611686018427387904 by omega)]
  rw [drop_rd (show i < v.length by omega), List.map_cons, List.foldl_cons]
  refine Ev.bind (refFalseRate_ev h _) ?_
  generalize wrap64 (rd v (i : Int) + 1) = c
  unfold upd
  by_cases hs : wrap64 (1000 * (R v n c).1) ≤ wrap64 (risk * (R v n c).2)
  ·have : sat v n risk c = true := decide_eq_true hs
   simp only [hs, this, if_true]
   by_cases hb : b < 0
   ·simp only [hb, if_true]; exact search_l0 h d (i + 1) _ (by omega)
   ·by_cases hc : c < b
    ·simp only [hb, hc, if_true, if_false]; exact search_l0 h d (i + 1) _ (by omega)
    ·simp only [hb, hc, if_false]; exact search_l0 h d (i + 1) _ (by omega)
  ·have : ¬ sat v n risk c = true := by simpa [sat] using hs
   simp only [hs, this, if_false]
   exact search_l0 h d (i + 1) _ (by omega)
theorem refThreshold_fold {v : List Int} {n risk : Int} (h : nErr v n = 0) : Ev (fun k => Rf_Threshold.f k v n risk) ((cands v).foldl (upd (sat v n risk)) (-1)) := by
 obtain ⟨h1, h2, h3⟩ := nErr_zero h
 obtain ⟨v1, v4⟩ := lErr_len h1
 have w0 : wrap64 (-1 + 1) = ((0 : Nat) : Int) := by unfold wrap64; omega
 unfold Rf_Threshold.f cands
 refine Ev.succ (f := fun k => Rf_Threshold.l0 k n risk (-1) (-1) v) ?_
 simp only [Rf_Threshold.l0, show (-1 : Int) < (v.length : Int) by omega, show ¬ (-1 : Int) ≥ 0 by decide, if_true, if_false, w0, List.foldl_cons]
 refine Ev.bind (refFalseRate_ev h _) ?_
 have key := fun b => search_l0 (risk := risk) h v.length 0 b (by omega)
 simp only [List.drop_zero] at key
 by_cases hs : wrap64 (1000 * (R v n 0).1) ≤ wrap64 (risk * (R v n 0).2)
 ·have : sat v n risk 0 = true := decide_eq_true hs
  simp only [hs, if_true, show (-1 : Int) < 0 by decide, upd, this]
  exact key 0
 ·have : ¬ sat v n risk 0 = true := by simpa [sat] using hs
  simp only [hs, if_false, upd, this]
  exact key (-1)
/-- The smallest candidate that keeps the risk. -/
def IsThr (v : List Int) (n risk t : Int) : Prop := t ∈ cands v ∧ sat v n risk t = true ∧ ∀ c ∈ cands v, sat v n risk c = true → t ≤ c
theorem thr_ex {v : List Int} {n risk : Int} (h : nErr v n = 0) (hr : 0 ≤ risk ∧ risk ≤ 1000) :
  ∃ t, IsThr v n risk t ∧ Ev (fun k => Rf_Threshold.f k v n risk) t ∧ Ev (fun k => line_ThresholdFor.f k v n risk) (t, 0) := by
 obtain ⟨h1, h2, h3⟩ := nErr_zero h
 obtain ⟨v1, v4⟩ := lErr_len h1
 have hv := lErr_ok h1
 obtain ⟨c, hc, hs⟩ := sat_top h hr
 have hle : ∀ (a b c : Int), decide (a ≤ b) = true → decide (b ≤ c) = true → decide (a ≤ c) = true := fun a b c x y => by simp at x y ⊢; omega
 have hto : ∀ (a b : Int), (decide (a ≤ b) || decide (b ≤ a)) = true := fun a b => by simp; omega
 have hp := List.pairwise_mergeSort hle hto (cands v)
 have hp' : ((cands v).mergeSort fun x y => decide (x ≤ y)).Pairwise (· ≤ ·) := hp.imp (fun h => of_decide_eq_true h)
 obtain ⟨t, ht, e, st, hm⟩ := scan_spec (sat v n risk) _ hp' ⟨c, List.mem_mergeSort.2 hc, hs⟩
 have hmin : ∀ d ∈ cands v, sat v n risk d = true → t ≤ d := fun d hd sd => hm d (List.mem_mergeSort.2 hd) sd
 have ht' : t ∈ cands v := List.mem_mergeSort.1 ht
 have hge : ∀ d ∈ cands v, 0 ≤ d := fun d hd => by
  rcases cands_ge hv d hd with rfl | ⟨x, hx, rfl⟩
  ·omega
  ·have := hv x hx; omega
 obtain ⟨u1, u2, u3⟩ := upd_spec (sat v n risk) (cands v) (-1) hge (.inl rfl)
 refine ⟨t, ⟨ht', st, hmin⟩, ?_, ?_⟩
 ·have hb := refThreshold_fold (risk := risk) h
  obtain ⟨b0, b1⟩ := u3 t ht' st
  rcases u1 with u1 | ⟨u1, su⟩
  ·omega
  ·have := hmin _ u1 su
   rw [show (cands v).foldl (upd (sat v n risk)) (-1) = t by omega] at hb
   exact hb
 ·unfold line_ThresholdFor.f
  obtain ⟨q, hq, eq⟩ := openNoise_ev v n
  refine Ev.bind hq ?_
  rw [eq h]
  simp only [within_eq, unless_eq, Option.bind_some, decide_eq_true_eq, hr, and_self, if_true]
  refine Ev.bind (first_ev _ (by simp)) ?_
  simp only [fnz, h, if_true]
  have := limits_l0 (risk := risk) h v.length 0 [0] (by omega) (by simp)
  rw [List.drop_zero, show [0] ++ v.map (fun x => wrap64 (x + 1)) = cands v from rfl, e] at this
  exact this
theorem ThresholdFor_bad {v : List Int} {n risk : Int} (h : ¬ (nErr v n = 0 ∧ 0 ≤ risk ∧ risk ≤ 1000)) : Ev (fun k => line_ThresholdFor.f k v n risk) (0, if nErr v n = 0 then 2 else nErr v n) := by
 unfold line_ThresholdFor.f
 obtain ⟨q, hq, eq⟩ := openNoise_ev v n
 refine Ev.bind hq ?_
 simp only [within_eq, unless_eq, Option.bind_some, decide_eq_true_eq]
 refine Ev.bind (first_ev _ (by simp)) ?_
 by_cases h1 : nErr v n = 0
 ·have h2 : ¬ (0 ≤ risk ∧ risk ≤ 1000) := fun h2 => h ⟨h1, h2⟩
  simp only [fnz, h1, h2, if_true, if_false, show ¬ (2 : Int) = 0 by decide]; exact Ev.some
 ·simp only [fnz, h1, if_false]; exact Ev.some
theorem nErr_of {v : List Int} {n : Int} (h : (lErr v 4 1000).2 ≠ 0) : nErr v n = (lErr v 4 1000).2 := by unfold nErr; rw [if_neg h]
theorem LineRates_j0 (v : List Int) (n y0 y1 : Int) (b : Bool) (hb : b = false → v.length ≤ 20) : Ev (fun k => Lw_LineRates.j0 k n b v y0 y1) true := by
  refine Ev.succ (f := fun k => Lw_LineRates.j0 k n b v y0 y1) ?_
  cases b with
  | true => simp only [Lw_LineRates.j0, if_true]; exact Ev.some
  | false =>
    have hl := hb rfl
    simp only [Lw_LineRates.j0, Bool.false_eq_true, if_false]
    rw [CopyNoise_eq v (by omega)]
    simp only [Option.bind_some]
    refine Ev.bind (FalseRate_ev v n y0) ?_
    -- j1 on what FalseRate gave, z the error, and a threshold with its error
    have hj : ∀ (z m e : Int), z = nErr v n → Ev (fun k => line_ThresholdFor.f k v n y1) (m, e) → (z ≠ 0 → m = 0 ∧ e = z) → (z = 0 → ¬ (0 ≤ y1 ∧ y1 ≤ 1000) → m = 0 ∧ e = 2) → (z = 0 → 0 ≤ y1 ∧ y1 ≤ 1000 → e = 0 ∧ Ev (fun k => Rf_Threshold.f k v n y1) m) →
        ∀ (q : Int × Int × Int), q = (if nErr v n = 0 then (if thErr y0 = 0 then ((R v n y0).1, (R v n y0).2, 0) else (0, 0, thErr y0)) else (0, 0, nErr v n)) →
        Ev (fun k => Lw_LineRates.j1 k n q.2.2 m e z v y0 y1 q.1 q.2.1) true := fun z m e hz hm h1 h2 h3 q hq => by
      refine Ev.succ (f := fun k => Lw_LineRates.j1 k n q.2.2 m e z v y0 y1 q.1 q.2.1) ?_
      by_cases hz0 : z = 0
      · have hn : nErr v n = 0 := by rw [← hz]; exact hz0
        rw [if_pos hn] at hq
        have h4 : Ev (fun k => Lw_LineRates.j2 k n m e false v y0 y1) true := by
          refine Ev.succ (f := fun k => Lw_LineRates.j2 k n m e false v y0 y1) ?_
          simp only [Lw_LineRates.j2, Bool.false_eq_true, if_false, Within_eq, Option.bind_some, decide_eq_true_eq]
          by_cases hr : 0 ≤ y1 ∧ y1 ≤ 1000
          · obtain ⟨e0, ht⟩ := h3 hz0 hr
            simp only [hr, and_self, e0, if_true]
            refine Ev.bind ht ?_
            simp only [beq_self_eq_true]; exact Ev.some
          · obtain ⟨rfl, rfl⟩ := h2 hz0 hr
            simp only [hr, if_true, if_false, beq_self_eq_true]; exact Ev.some
        simp only [Lw_LineRates.j1, hz0, if_true, ThresholdErr_eq, Option.bind_some]
        by_cases h5 : thErr y0 = 0
        · rw [if_pos h5] at hq
          subst hq
          simp only [h5, if_true]
          refine Ev.bind (refFalseRate_ev hn y0) ?_
          simp only [beq_self_eq_true, Bool.not_true, Bool.or_self]; exact h4
        · rw [if_neg h5] at hq
          subst hq
          simp only [h5, if_true, if_false, beq_self_eq_true, Bool.not_true, Bool.or_self, Bool.false_eq_true]; exact h4
      · have hn : ¬ nErr v n = 0 := by rw [← hz]; exact hz0
        rw [if_neg hn] at hq
        subst hq
        obtain ⟨rfl, rfl⟩ := h1 hz0
        simp only [Lw_LineRates.j1, hz0, ← hz, if_true, if_false, beq_self_eq_true, Bool.and_self]; exact Ev.some
    have key : ∀ (m e : Int), Ev (fun k => line_ThresholdFor.f k v n y1) (m, e) → (nErr v n ≠ 0 → m = 0 ∧ e = nErr v n) → (nErr v n = 0 → ¬ (0 ≤ y1 ∧ y1 ≤ 1000) → m = 0 ∧ e = 2) → (nErr v n = 0 → 0 ≤ y1 ∧ y1 ≤ 1000 → e = 0 ∧ Ev (fun k => Rf_Threshold.f k v n y1) m) →
        ∀ (q : Int × Int × Int), q = (if nErr v n = 0 then (if thErr y0 = 0 then ((R v n y0).1, (R v n y0).2, 0) else (0, 0, thErr y0)) else (0, 0, nErr v n)) →
        Ev (fun k => (line_ThresholdFor.f k v n y1).bind fun bt => (Rf_NoiseErr.f k v).bind fun t => if t = 0 then (Rf_LinesErr.f k v n).bind fun u => Lw_LineRates.j1 k n q.2.2 bt.1 bt.2 u v y0 y1 q.1 q.2.1 else Lw_LineRates.j1 k n q.2.2 bt.1 bt.2 t v y0 y1 q.1 q.2.1) true := fun m e hm h1 h2 h3 q hq => by
      refine Ev.bind hm ?_
      refine Ev.bind (refNoiseErr_ev v) ?_
      by_cases hn : (lErr v 4 1000).2 = 0
      · simp only [hn, if_true]
        refine Ev.bind (LinesErr_ev hn) ?_
        exact hj _ m e rfl hm h1 h2 h3 q hq
      · simp only [hn, if_false]
        have e0 := nErr_of (n := n) hn
        exact hj _ m e e0.symm hm (fun h => by rw [← e0]; exact h1 (by rw [e0]; exact h)) (fun h => absurd h hn) (fun h => absurd h hn) q hq
    by_cases hg : nErr v n = 0 ∧ 0 ≤ y1 ∧ y1 ≤ 1000
    · obtain ⟨t, _, ht, hp⟩ := thr_ex hg.1 hg.2
      exact key t 0 hp (fun h => absurd hg.1 h) (fun _ h => absurd hg.2 h) (fun _ _ => ⟨rfl, ht⟩) _ rfl
    · refine key 0 _ (ThresholdFor_bad hg) (fun h => ⟨rfl, if_neg h⟩) (fun h _ => ⟨rfl, if_pos h⟩) (fun h h2 => absurd ⟨h, h2⟩ hg) _ rfl
theorem LineRates_ev (v : List Int) (n y0 y1 : Int) : Ev (fun k => Lw_LineRates.f k v n y0 y1) true := by
 unfold Lw_LineRates.f
 refine Ev.bind awake_ev ?_
 simp only [if_true, short_eq, Option.bind_some, decide_eq_true_eq]
 by_cases hl : (v.length : Int) ≤ 20
 ·simp only [hl, if_true]
  refine Ev.bind (refNoiseErr_ev v) ?_
  by_cases hn : (lErr v 4 1000).2 = 0
  ·obtain ⟨v1, v4⟩ := lErr_len hn
   simp only [hn, if_true, Within_eq, Option.bind_some, decide_eq_true_eq]
   by_cases h2 : 1 ≤ n ∧ n ≤ 16
   ·simp only [h2, and_self, if_true]
    have hc := Cases_ev v v1 v4 n.toNat (by omega)
    rw [show ((n.toNat : Nat) : Int) = n by omega] at hc
    refine Ev.bind hc ?_
    exact LineRates_j0 v n y0 y1 _ (fun _ => by omega)
   ·simp only [h2, if_false]; exact LineRates_j0 v n y0 y1 _ (fun _ => by omega)
  ·simp only [hn, if_false]; exact LineRates_j0 v n y0 y1 _ (fun _ => by omega)
 ·simp only [hl, if_false]; exact LineRates_j0 v n y0 y1 _ (fun h => by cases h)
theorem LineRates_pure (v : List Int) (_ : v.length ≤ maxLen) (_ : ∀ x ∈ v, (Lit.int .i64 x).wf = true) (n : Int) (_ : (Lit.int .i64 n).wf = true) (y0 : Int) (_ : (Lit.int .i64 y0).wf = true) (y1 : Int) (_ : (Lit.int .i64 y1).wf = true) :
  ∃ k, Lw_LineRates.f k v n y0 y1 = some true := (LineRates_ev v n y0 y1).ex
end Go.Proofs.YtjnkphmcndaijaaDoor.P
