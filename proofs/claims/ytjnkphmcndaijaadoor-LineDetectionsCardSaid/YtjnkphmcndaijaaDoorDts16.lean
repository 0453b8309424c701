/-
PLAIN LAW: what the walks compute answers as the statement says (no program in sight; Ev: from some number of rounds on).
-/
import Derived.Test.YtjnkphmcndaijaaDoorDts13
import Derived.Test.YtjnkphmcndaijaaDoorDts11
import Derived.Test.YtjnkphmcndaijaaDoorDts05
import Derived.Test.YtjnkphmcndaijaaDoorDts15
import Derived.Test.YtjnkphmcndaijaaDoorDts14
import Derived.Test.YtjnkphmcndaijaaDoorDts04
import Derived.Test.YtjnkphmcndaijaaDoorDts06
import Derived.Test.YtjnkphmcndaijaaDoorDts08
namespace Go.Proofs.YtjnkphmcndaijaaDoor.P
open Go Go.RowKit Go.Proofs.YtjnkphmcndaijaaDoor.A Go.Proofs.YtjnkphmcndaijaaDoorW.PrintWords Go.Proofs.YtjnkphmcndaijaaDoorW.PrintLast Go.Proofs.YtjnkphmcndaijaaDoorW.PrintMore
set_option linter.unusedSimpArgs false
set_option linter.unusedVariables false
/-- From some number of rounds on, f says r. -/
def Ev {α : Type} (f : Nat → Option α) (r : α) : Prop := ∃ k, ∀ j, k ≤ j → f j = some r

theorem Ev.some {α : Type} {r : α} : Ev (fun _ => Option.some r) r := ⟨0, fun _ _ => rfl⟩
theorem Ev.bind {α β : Type} {f : Nat → Option α} {g : Nat → α → Option β} {a : α} {b : β} (h : Ev f a) (h2 : Ev (fun k => g k a) b) : Ev (fun k => (f k).bind (g k)) b := by
 obtain ⟨k, hk⟩ := h
 obtain ⟨m, hm⟩ := h2
 exact ⟨max k m, fun j hj => by show (f j).bind (g j) = _; rw [hk j (by omega)]; exact hm j (by omega)⟩
theorem Ev.succ {α : Type} {f : Nat → Option α} {r : α} (h : Ev (fun k => f (k + 1)) r) : Ev f r := by
 obtain ⟨k, hk⟩ := h
 exact ⟨k + 1, fun j hj => by obtain ⟨m, rfl⟩ : ∃ m, j = m + 1 := ⟨j - 1, by omega⟩; exact hk m (by omega)⟩
theorem Ev.congr {α : Type} {f g : Nat → Option α} {r : α} (e : ∀ k, f k = g k) (h : Ev f r) : Ev g r := by
 obtain ⟨k, hk⟩ := h
 exact ⟨k, fun j hj => by rw [← e j]; exact hk j hj⟩
theorem Ev.ex {α : Type} {f : Nat → Option α} {r : α} (h : Ev f r) : ∃ k, f k = Option.some r := let ⟨k, hk⟩ := h; ⟨k, hk k (Nat.le_refl _)⟩
theorem Ev.of_mono {α : Type} {f : Nat → Option α} {r : α} (hm : ∀ k, LeO (f k) (f (k + 1))) {k : Nat} (h : f k = Option.some r) : Ev f r := by
  refine ⟨k, fun j hj => ?_⟩
  induction j with
  | zero => obtain rfl : k = 0 := by omega
            exact h
  | succ j ih =>
    by_cases e : k = j + 1
    · subst e; exact h
    · exact hm j r (ih (by omega))
theorem up {i : Nat} (h : i < 4611686018427387904) : wrap64 ((i : Int) + 1) = ((i + 1 : Nat) : Int) := by
 unfold wrap64; omega
theorem w64 {n : Int} (h : -9223372036854775808 ≤ n ∧ n ≤ 9223372036854775807) : wrap64 n = n := by unfold wrap64; omega
theorem rd_nat (l : List Int) (i : Nat) : rd l (i : Int) = l.getD i 0 := by unfold rd; simp
theorem drop_rd {l : List Int} {i : Nat} (h : i < l.length) : l.drop i = rd l (i : Int) :: l.drop (i + 1) := by
 rw [rd_nat, List.drop_eq_getElem_cons h]
 simp [List.getD_eq_getElem?_getD, h]

theorem mx_eq (a b : Int) : mx a b = max a b := by unfold mx; split <;> omega

theorem within_eq (a b c : Int) : line_within.f a b c = some (decide (b ≤ a ∧ a ≤ c)) := by
 unfold line_within.f
 by_cases h : b ≤ a <;> simp [h]
theorem Within_eq (a b c : Int) : Bs_Within.f a b c = some (decide (b ≤ a ∧ a ≤ c)) := by
 unfold Bs_Within.f
 by_cases h : b ≤ a <;> simp [h]
theorem unless_eq (b : Bool) (e : Int) : line_unless.f b e = some (if b = true then 0 else e) := by
 unfold line_unless.f
 cases b <;> simp
theorem Size_eq (a : Int) : Bs_Size.f a = some (mx a (wrap64 (-a))) := rfl
theorem short_eq (l : List Int) : Lw_short.f l = some (decide ((l.length : Int) ≤ 20)) := rfl

/-- The first number that is not 0. -/
def fnz : List Int → Int
 | [] => 0
 | x :: r => if x = 0 then fnz r else x

theorem first_l0 (l : List Int) (hl : l.length < 4611686018427387904) : ∀ (n i : Nat), i + n = l.length → Ev (fun k => line_first.l0 k l (l.length : Int) (i : Int)) (fnz (l.drop i))
 | 0, i, h => by
  refine Ev.succ (f := fun k => line_first.l0 k l (l.length : Int) (i : Int)) ?_
  have h1 : ¬ (i : Int) < (l.length : Int) := by omega
  simp only [line_first.l0, h1, if_false]
  rw [show l.drop i = [] from List.drop_eq_nil_of_le (by omega)]
  exact Ev.some
 | n + 1, i, h => by
  refine Ev.succ (f := fun k => line_first.l0 k l (l.length : Int) (i : Int)) ?_
  have h1 : (i : Int) < (l.length : Int) := by omega
  have h2 : (0 : Int) ≤ (i : Int) := by omega
  simp only [line_first.l0, h1, h2, if_true, up (show i < 4611686018427387904 by omega)]
  rw [drop_rd (show i < l.length by omega)]
  unfold fnz
  by_cases e : rd l (i : Int) = 0
  ·simp only [e, if_true]
   exact first_l0 l hl n (i + 1) (by omega)
  ·simp only [e, if_false]
   exact Ev.some
theorem first_ev (l : List Int) (hl : l.length < 4611686018427387904) : Ev (fun k => line_first.f k l) (fnz l) := first_l0 l hl l.length 0 (by omega)

/-- Not from 0 to m. -/
def bad (m x : Int) : Bool := !(decide (0 ≤ x) && decide (x ≤ m))
theorem within_bad (m x : Int) : decide (0 ≤ x ∧ x ≤ m) = !bad m x := by
 unfold bad; by_cases h : 0 ≤ x <;> by_cases h2 : x ≤ m <;> simp [h, h2]
/-- The index of the first one that is not within, or none; the number of the error. -/
def lErr (l : List Int) (n : Nat) (m : Int) : Int × Int :=
 if l.length = 0 then (0, 10) else if n < l.length then (0, 8) else
  if idxF (bad m) l ≥ 0 then (idxF (bad m) l, 2) else (0, 0)

theorem listErr_eq (l : List Int) (n : Nat) (m : Int) : line_listErr.f l (n : Int) m = some (lErr l n m) := by
 have hb : (fun x : Int => !(decide (0 ≤ x) && decide (x ≤ m))) = bad m := rfl
 unfold line_listErr.f lErr
 rw [hb]
 by_cases h0 : l.length = 0
 ·simp only [h0, if_true]
 ·by_cases h1 : n < l.length
  ·have h2 : (n : Int) < (l.length : Int) := by omega
   simp only [h0, h1, h2, if_true, if_false]
  ·have h2 : ¬ (n : Int) < (l.length : Int) := by omega
   simp only [h0, h1, h2, if_false]
   split <;> rfl
theorem lineCheckSpectrum_eq (l : List Int) : line_CheckSpectrum.f l = some (lErr l 16 10000) := by
 have h : line_listErr.f l 16 10000 = some (lErr l 16 10000) := listErr_eq l 16 10000
 unfold line_CheckSpectrum.f; rw [h]; rfl
theorem idxF_nil (p : Int → Bool) : idxF p [] = -1 := rfl
theorem idxF_ge (p : Int → Bool) (l : List Int) : -1 ≤ idxF p l := by
 unfold idxF
 cases l.findIdx? p <;> simp <;> omega
theorem idxF_cons (p : Int → Bool) (a : Int) (r : List Int) : idxF p (a :: r) = if p a = true then 0 else if idxF p r ≥ 0 then idxF p r + 1 else -1 := by
  unfold idxF
  rw [List.findIdx?_cons]
  by_cases h : p a = true
  · simp [h]
  · simp only [h, if_false, Bool.false_eq_true]
    cases r.findIdx? p with
    | none => simp
    | some i => simp <;> omega

theorem refSpectrum_l0 (l : List Int) (hl : l.length < 4611686018427387904) : ∀ (n i : Nat), i + n = l.length →
  Ev (fun k => Rf_CheckSpectrum.l0 k l (i : Int)) (if idxF (bad 10000) (l.drop i) ≥ 0 then (idxF (bad 10000) (l.drop i) + i, 2) else (0, 0))
 | 0, i, h => by
  refine Ev.succ (f := fun k => Rf_CheckSpectrum.l0 k l (i : Int)) ?_
  have h1 : ¬ (i : Int) < (l.length : Int) := by omega
  simp only [Rf_CheckSpectrum.l0, h1, if_false]
  rw [show l.drop i = [] from List.drop_eq_nil_of_le (by omega), idxF_nil]
  exact Ev.some
 | n + 1, i, h => by
  refine Ev.succ (f := fun k => Rf_CheckSpectrum.l0 k l (i : Int)) ?_
  have h1 : (i : Int) < (l.length : Int) := by omega
  have h2 : (0 : Int) ≤ (i : Int) := by omega
  simp only [Rf_CheckSpectrum.l0, h1, h2, if_true, up (show i < 4611686018427387904 by omega), Within_eq, within_bad, Option.bind_some]
  rw [drop_rd (show i < l.length by omega), idxF_cons]
  cases e : bad 10000 (rd l (i : Int)) with
  | false =>
   simp only [e, Bool.not_false, if_true, Bool.false_eq_true, if_false]
   have ih := refSpectrum_l0 l hl n (i + 1) (by omega)
   have hg := idxF_ge (bad 10000) (l.drop (i + 1))
   by_cases q : idxF (bad 10000) (l.drop (i + 1)) ≥ 0
   ·simp only [q, if_true] at ih ⊢
    rw [if_pos (by omega), show idxF (bad 10000) (l.drop (i + 1)) + 1 + (i : Int) = idxF (bad 10000) (l.drop (i + 1)) + ((i + 1 : Nat) : Int) by omega]
    exact ih
   ·simp only [q, if_false] at ih ⊢
    exact ih
  | true =>
   simp only [e, Bool.not_true, Bool.false_eq_true, if_false, if_true]
   rw [if_pos (by omega), Int.zero_add]
   exact Ev.some
theorem refCheckSpectrum_ev (l : List Int) : Ev (fun k => Rf_CheckSpectrum.f k l) (lErr l 16 10000) := by
 unfold Rf_CheckSpectrum.f lErr
 by_cases h0 : l.length = 0
 ·have : (l.length : Int) = 0 := by omega
  simp only [h0, if_true]
  exact Ev.some
 ·have h0' : ¬ (l.length : Int) = 0 := by omega
  by_cases h1 : 16 < l.length
  ·have h2 : (l.length : Int) > 16 := by omega
   simp only [h0, h0', h1, h2, if_true, if_false]
   exact Ev.some
  ·have h2 : ¬ (l.length : Int) > 16 := by omega
   simp only [h0, h0', h1, h2, if_false]
   have := refSpectrum_l0 l (by omega) l.length 0 (by omega)
   simpa using this
/-- What the program says for it (the one number without a positive twin stays as it is). -/
def gq (x y : Int) : Int := if Int.gcd x y = 9223372036854775808 then -9223372036854775808 else (Int.gcd x y : Int)

theorem size_abs {x : Int} (h : -9223372036854775808 ≤ x ∧ x ≤ 9223372036854775807) : mx x (wrap64 (-x)) = gq x 0 := by
 unfold gq
 rw [Int.gcd_zero_right]
 unfold mx wrap64
 by_cases e : x = -9223372036854775808
 ·subst e; rfl
 ·rw [if_neg (show ¬ x.natAbs = 9223372036854775808 by omega)]
  split <;> omega

theorem gcd_step (x y : Int) : gq y (x.tmod y) = gq x y := by
 have : Int.gcd y (x.tmod y) = Int.gcd x y := by
  show Nat.gcd y.natAbs (x.tmod y).natAbs = Nat.gcd x.natAbs y.natAbs
  rw [Int.natAbs_tmod, Nat.gcd_comm, ← Nat.gcd_rec, Nat.gcd_comm]
 unfold gq
 rw [this]

theorem tmod_in {x y : Int} (hx : -9223372036854775808 ≤ x ∧ x ≤ 9223372036854775807) (hy : -9223372036854775808 ≤ y ∧ y ≤ 9223372036854775807) (h0 : y ≠ 0) : (x.tmod y).natAbs < y.natAbs ∧ -9223372036854775808 ≤ x.tmod y ∧ x.tmod y ≤ 9223372036854775807 := by
 have h : (x.tmod y).natAbs < y.natAbs := by
  rw [Int.natAbs_tmod]
  exact Nat.mod_lt _ (by omega)
 omega

theorem gcd_l0 : ∀ (m : Nat) (x y : Int), y.natAbs ≤ m → (-9223372036854775808 ≤ x ∧ x ≤ 9223372036854775807) → (-9223372036854775808 ≤ y ∧ y ≤ 9223372036854775807) → Ev (fun k => Bs_Gcd.l0 k x y) (gq x y)
 | 0, x, y, h, hx, _ => by
  refine Ev.succ (f := fun k => Bs_Gcd.l0 k x y) ?_
  obtain rfl : y = 0 := by omega
  simp only [Bs_Gcd.l0, if_true, Size_eq, Option.bind_some, size_abs hx]
  exact Ev.some
 | m + 1, x, y, h, hx, hy => by
  refine Ev.succ (f := fun k => Bs_Gcd.l0 k x y) ?_
  by_cases h0 : y = 0
  ·subst h0
   simp only [Bs_Gcd.l0, if_true, Size_eq, Option.bind_some, size_abs hx]
   exact Ev.some
  ·simp only [Bs_Gcd.l0, h0, if_false]
   have ht := tmod_in hx hy h0
   rw [← gcd_step x y]
   exact gcd_l0 m y (x.tmod y) (by omega) hy ht.2
theorem gcd_ev {x y : Int} (hx : -9223372036854775808 ≤ x ∧ x ≤ 9223372036854775807) (hy : -9223372036854775808 ≤ y ∧ y ≤ 9223372036854775807) : Ev (fun k => Bs_Gcd.f k x y) (gq x y) := gcd_l0 _ x y (Nat.le_refl _) hx hy
theorem divisor_eq : ∀ (k : Nat) (x y : Int), line_divisor.l0 k x y = Bs_Gcd.l0 k x y
 | 0, _, _ => rfl
 | k + 1, x, y => by
  simp only [line_divisor.l0, Bs_Gcd.l0, divisor_eq k, Size_eq, Option.bind_some]
theorem divisor_ev {x y : Int} (hx : -9223372036854775808 ≤ x ∧ x ≤ 9223372036854775807) (hy : -9223372036854775808 ≤ y ∧ y ≤ 9223372036854775807) : Ev (fun k => line_divisor.f k x y) (gq x y) :=
 Ev.congr (f := fun k => Bs_Gcd.f k x y) (fun k => (divisor_eq k x y).symm) (gcd_ev hx hy)

def lmx : List Int → Int → Int
 | [], a => a
 | x :: r, a => lmx r (mx a x)
theorem lmx_le : ∀ (l : List Int) (a b : Int), lmx l a ≤ b ↔ a ≤ b ∧ ∀ x ∈ l, x ≤ b
 | [], a, b => by simp [lmx]
 | x :: r, a, b => by
  rw [lmx, lmx_le r, mx_eq]
  simp only [List.mem_cons, forall_eq_or_imp]
  constructor
  ·rintro ⟨h, h2⟩; exact ⟨by omega, by omega, h2⟩
  ·rintro ⟨h, h2, h3⟩; exact ⟨by omega, h3⟩
theorem max_le (l : List Int) (h0 : 0 < l.length) (b : Int) : lmx (l.drop 1) (rd l 0) ≤ b ↔ ∀ x ∈ l, x ≤ b := by
 rw [lmx_le]
 have e := drop_rd (l := l) (i := 0) h0
 simp only [List.drop_zero, Nat.zero_add] at e
 constructor
 ·rintro ⟨h1, h2⟩ x hx
  rw [e] at hx
  rcases List.mem_cons.1 hx with rfl | hx
  ·exact h1
  ·exact h2 x hx
 ·intro h
  exact ⟨h _ (by rw [e]; exact List.mem_cons_self), fun x hx => h x (List.mem_of_mem_drop hx)⟩

theorem lErr_len {l : List Int} {n : Nat} {m : Int} (h : (lErr l n m).2 = 0) : 1 ≤ l.length ∧ l.length ≤ n := by
 unfold lErr at h
 by_cases h0 : l.length = 0
 ·simp [h0] at h
 ·by_cases h1 : n < l.length
  ·simp [h0, h1] at h
  ·omega
theorem max106_l0 (l : List Int) (hl : l.length < 4611686018427387904) : ∀ (n i : Nat) (a : Int), i + n = l.length → Ev (fun k => Sp_int_106.l0 k l a (i : Int)) (lmx (l.drop i) a)
 | 0, i, a, h => by
  refine Ev.succ (f := fun k => Sp_int_106.l0 k l a (i : Int)) ?_
  simp only [Sp_int_106.l0, show ¬ (i : Int) < (l.length : Int) by omega, if_false]
  rw [show l.drop i = [] from List.drop_eq_nil_of_le (by omega)]
  exact Ev.some
 | n + 1, i, a, h => by
  refine Ev.succ (f := fun k => Sp_int_106.l0 k l a (i : Int)) ?_
  simp only [Sp_int_106.l0, show (i : Int) < (l.length : Int) by omega, show (0 : Int) ≤ (i : Int) by omega, if_true, up (show i < 4611686018427387904 by omega)]
  rw [drop_rd (show i < l.length by omega)]
  exact max106_l0 l hl n (i + 1) _ (by omega)
/-- The greatest number of a list. -/
def lmax (l : List Int) : Int := lmx (l.drop 1) (rd l 0)
theorem max106_ev (l : List Int) (h0 : 0 < l.length) (hl : l.length < 4611686018427387904) : Ev (fun k => Sp_int_106.f k l) (lmax l) := by
 unfold Sp_int_106.f
 simp only [show ¬ (l.length : Int) < 1 by omega, show (0 : Int) < (l.length : Int) by omega, if_true, if_false]
 exact max106_l0 l hl (l.length - 1) 1 _ (by omega)
theorem lmax_le (l : List Int) (h0 : 0 < l.length) (b : Int) : lmax l ≤ b ↔ ∀ x ∈ l, x ≤ b := max_le l h0 b
theorem rd_mem {l : List Int} {i : Nat} (h : i < l.length) : rd l (i : Int) ∈ l := by
 rw [rd_nat, List.getD_eq_getElem?_getD, List.getElem?_eq_getElem h]; exact List.getElem_mem h
theorem mem_rd {l : List Int} {x : Int} (h : x ∈ l) : ∃ i : Nat, i < l.length ∧ rd l (i : Int) = x := by
 obtain ⟨i, hi, e⟩ := List.getElem_of_mem h
 exact ⟨i, hi, by rw [rd_nat, List.getD_eq_getElem?_getD, List.getElem?_eq_getElem hi]; exact e⟩

/-- Line i is as great as any. -/
def pk (l : List Int) (i : Nat) : Bool := l.all fun x => decide (x ≤ rd l (i : Int))
def peaksFrom (l : List Int) : Nat → Nat → List Int
 | 0, _ => []
 | n + 1, i => if pk l i = true then (i : Int) :: peaksFrom l n (i + 1) else peaksFrom l n (i + 1)
/-- All peaks. -/
def peaks (l : List Int) : List Int := peaksFrom l l.length 0
/-- A fraction in lowest terms, as both say it. -/
def frac (a b : Int) : Int × Int := (wrap64 (Int.tdiv a (gq a b)), wrap64 (Int.tdiv b (gq a b)))
theorem fraction_ev {a b : Int} (ha : -9223372036854775808 ≤ a ∧ a ≤ 9223372036854775807) (hb : -9223372036854775808 ≤ b ∧ b ≤ 9223372036854775807) (h0 : gq a b ≠ 0) : Ev (fun k => line_fraction.f k a b) (frac a b) := by
 unfold line_fraction.f
 refine Ev.bind (divisor_ev ha hb) ?_
 simp only [h0, if_false]
 exact Ev.some
theorem Lowest_ev {a b : Int} (ha : -9223372036854775808 ≤ a ∧ a ≤ 9223372036854775807) (hb : 0 ≤ b ∧ b ≤ 9223372036854775807) (h0 : gq a b ≠ 0) : Ev (fun k => Bs_Lowest.f k a b) (frac a b) := by
 unfold Bs_Lowest.f
 refine Ev.bind (gcd_ev ha (by omega)) ?_
 simp only [show ¬ b < 0 by omega, h0, if_false]
 exact Ev.some

/-- A row of a valid case, or a valid spectrum. -/
def Good (l : List Int) : Prop := (1 ≤ l.length ∧ l.length ≤ 16) ∧ ∀ x ∈ l, 0 ≤ x ∧ x ≤ 10000
theorem Good.rd {l : List Int} (h : Good l) {i : Nat} (hi : i < l.length) : 0 ≤ rd l (i : Int) ∧ rd l (i : Int) ≤ 10000 := h.2 _ (rd_mem hi)

theorem gq_pos' {a b : Int} (hb : 0 < b ∧ b ≤ 4611686018427387904) : 0 < gq a b ∧ gq a b ≤ b ∧ gq a b = (Int.gcd a b : Int) := by
 have h1 : Int.gcd a b ≤ b.natAbs := Nat.le_of_dvd (by omega) (Nat.gcd_dvd_right _ _)
 have h2 : 0 < Int.gcd a b := Int.gcd_pos_of_ne_zero_right _ (by omega)
 unfold gq
 rw [if_neg (by omega)]
 omega
theorem fraction_ev' {a b : Int} (ha : -9223372036854775808 ≤ a ∧ a ≤ 9223372036854775807) (hb : 0 < b ∧ b ≤ 4611686018427387904) : Ev (fun k => line_fraction.f k a b) (frac a b) :=
 fraction_ev ha (by omega) (Int.ne_of_gt (gq_pos' hb).1)
theorem Lowest_ev' {a b : Int} (ha : -9223372036854775808 ≤ a ∧ a ≤ 9223372036854775807) (hb : 0 < b ∧ b ≤ 4611686018427387904) : Ev (fun k => Bs_Lowest.f k a b) (frac a b) :=
 Lowest_ev ha (by omega) (Int.ne_of_gt (gq_pos' hb).1)
/-- The sum of n powers from line i on, and their sum with the lines' numbers. -/
def sn (l : List Int) : Nat → Nat → Int
 | 0, _ => 0
 | n + 1, i => rd l (i : Int) + sn l n (i + 1)
def wn (l : List Int) : Nat → Nat → Int
 | 0, _ => 0
 | n + 1, i => (i : Int) * rd l (i : Int) + wn l n (i + 1)
theorem sn_in {l : List Int} (h : Good l) : ∀ (n i : Nat), i + n ≤ l.length → 0 ≤ sn l n i ∧ sn l n i ≤ 10000 * n
 | 0, i, _ => by simp [sn]
 | n + 1, i, hi => by
  have := sn_in h n (i + 1) (by omega)
  have := h.rd (i := i) (by omega)
  rw [sn]; omega
theorem sn_ge {l : List Int} (h : Good l) : ∀ (n i q : Nat), i + n ≤ l.length → i ≤ q → q < i + n → rd l (q : Int) ≤ sn l n i
 | 0, i, q, _, _, _ => by omega
 | n + 1, i, q, hi, hq, hq2 => by
  have a := sn_in h n (i + 1) (by omega)
  have b := h.rd (i := i) (by omega)
  rw [sn]
  by_cases e : q = i
  ·subst e; omega
  ·have := sn_ge h n (i + 1) q (by omega) (by omega) (by omega)
   omega
theorem sum_l0 (l : List Int) (hl : l.length < 1000) (hg : ∀ x ∈ l, 0 ≤ x ∧ x ≤ 10000) : ∀ (n i : Nat) (a : Int), i + n = l.length → 0 ≤ a → a ≤ 10000 * i →
  Ev (fun k => line_sum.l0 k a l (l.length : Int) (i : Int)) (a + sn l n i)
 | 0, i, a, h, _, _ => by
  refine Ev.succ (f := fun k => line_sum.l0 k a l (l.length : Int) (i : Int)) ?_
  simp only [line_sum.l0, show ¬ (i : Int) < (l.length : Int) by omega, if_false, sn, Int.add_zero]
  exact Ev.some
 | n + 1, i, a, h, h0, h1 => by
  refine Ev.succ (f := fun k => line_sum.l0 k a l (l.length : Int) (i : Int)) ?_
  have hr := hg _ (rd_mem (l := l) (i := i) (by omega))
  simp only [line_sum.l0, show (i : Int) < (l.length : Int) by omega, show (0 : Int) ≤ (i : Int) by omega, if_true, up (show i < 4611686018427387904 by omega), w64 (n := a + rd l (i : Int)) (by omega)]
  have := sum_l0 l hl hg n (i + 1) (a + rd l (i : Int)) (by omega) (by omega) (by omega)
  rw [sn, ← Int.add_assoc]
  exact this
theorem sum_ev (l : List Int) (hl : l.length < 1000) (hg : ∀ x ∈ l, 0 ≤ x ∧ x ≤ 10000) : Ev (fun k => line_sum.f k l) (sn l l.length 0) := by
 have := sum_l0 l hl hg l.length 0 0 (by omega) (by omega) (by omega)
 simpa [line_sum.f] using this
theorem Sum_l0 (l : List Int) (hl : l.length < 1000) (hg : ∀ x ∈ l, 0 ≤ x ∧ x ≤ 10000) : ∀ (n i : Nat) (a : Int), i + n = l.length → 0 ≤ a → a ≤ 10000 * i →
  Ev (fun k => Rf_Sum.l0 k l a (i : Int)) (a + sn l n i)
 | 0, i, a, h, _, _ => by
  refine Ev.succ (f := fun k => Rf_Sum.l0 k l a (i : Int)) ?_
  simp only [Rf_Sum.l0, show ¬ (i : Int) < (l.length : Int) by omega, if_false, sn, Int.add_zero]
  exact Ev.some
 | n + 1, i, a, h, h0, h1 => by
  refine Ev.succ (f := fun k => Rf_Sum.l0 k l a (i : Int)) ?_
  have hr := hg _ (rd_mem (l := l) (i := i) (by omega))
  simp only [Rf_Sum.l0, show (i : Int) < (l.length : Int) by omega, show (0 : Int) ≤ (i : Int) by omega, if_true, up (show i < 4611686018427387904 by omega), w64 (n := a + rd l (i : Int)) (by omega)]
  have := Sum_l0 l hl hg n (i + 1) (a + rd l (i : Int)) (by omega) (by omega) (by omega)
  rw [sn, ← Int.add_assoc]
  exact this
theorem Sum_ev (l : List Int) (hl : l.length < 1000) (hg : ∀ x ∈ l, 0 ≤ x ∧ x ≤ 10000) : Ev (fun k => Rf_Sum.f k l) (sn l l.length 0) := by
 have := Sum_l0 l hl hg l.length 0 0 (by omega) (by omega) (by omega)
 simpa [Rf_Sum.f] using this
theorem rd_slice {l : List Int} {t f i : Nat} (h : f + i < t) (ht : t ≤ l.length) : rd ((l.take t).drop f) (i : Int) = rd l ((f + i : Nat) : Int) := by
 rw [rd_nat, rd_nat, List.getD_eq_getElem?_getD, List.getD_eq_getElem?_getD, List.getElem?_drop, List.getElem?_take, if_pos h]
/-- The first line with the maximum power. -/
def fp (l : List Int) : Nat := ((peaks l).headD 0).toNat
def par (l : List Int) : Int × Int :=
 if fp l = 0 ∨ fp l + 1 = l.length then ((fp l : Int), 1) else
  if 2 * rd l (fp l : Int) - rd l ((fp l - 1 : Nat) : Int) - rd l ((fp l + 1 : Nat) : Int) ≤ 0 then ((fp l : Int), 1) else
   frac (2 * (2 * rd l (fp l : Int) - rd l ((fp l - 1 : Nat) : Int) - rd l ((fp l + 1 : Nat) : Int)) * (fp l : Int) + rd l ((fp l + 1 : Nat) : Int) - rd l ((fp l - 1 : Nat) : Int)) (2 * (2 * rd l (fp l : Int) - rd l ((fp l - 1 : Nat) : Int) - rd l ((fp l + 1 : Nat) : Int)))
def mdF (l : List Int) : Nat → Nat → Nat
 | 0, i => i
 | n + 1, i => if sn l l.length 0 ≤ 2 * sn l (i + 1) 0 then i else mdF l n (i + 1)
def md (l : List Int) : Nat := mdF l l.length 0
def est (l : List Int) (kind : Int) : Int × Int :=
 if sn l l.length 0 = 0 then (0, 1) else if kind = 1 then frac (wn l l.length 0) (sn l l.length 0) else if kind = 2 then par l else if kind = 3 then ((md l : Int), 1) else ((fp l : Int), 1)
theorem awake_ev : Ev (fun k => Lw_awake.f k) true :=
 Ev.of_mono (k := 40) (fun k => Lw_awake.mono k) (by kernel_rfl)
theorem CopyInts_eq (l : List Int) (h : l.length < 17592186044416) : Bs_CopyInts.f l = some l := by
 unfold Bs_CopyInts.f
 simp [h]
theorem idxF_ok (m : Int) : ∀ l : List Int, ¬ idxF (bad m) l ≥ 0 → ∀ x ∈ l, 0 ≤ x ∧ x ≤ m
  | [], _, _, hx => by cases hx
  | a :: r, h, x, hx => by
    rw [idxF_cons] at h
    cases e : bad m a with
    | true => rw [e] at h; simp at h
    | false =>
      rw [e] at h
      simp only [Bool.false_eq_true, if_false] at h
      have h' : ¬ idxF (bad m) r ≥ 0 := fun q => by rw [if_pos q] at h; exact h (by omega)
      rcases List.mem_cons.1 hx with rfl | hx
      · have := within_bad m x
        rw [e] at this
        simpa using this
      · exact idxF_ok m r h' x hx
theorem lErr_ok {l : List Int} {n : Nat} {m : Int} (h : (lErr l n m).2 = 0) : ∀ x ∈ l, 0 ≤ x ∧ x ≤ m := by
 have hlen := lErr_len h
 unfold lErr at h
 rw [if_neg (by omega), if_neg (by omega)] at h
 by_cases q : idxF (bad m) l ≥ 0
 ·rw [if_pos q] at h; simp at h
 ·exact idxF_ok m l q
theorem Ints_l0 (l : List Int) (hl : l.length < 4611686018427387904) : ∀ (n i : Nat), i + n = l.length → Ev (fun k => Bs_Ints.l0 k l l (i : Int)) true
 | 0, i, h => by
  refine Ev.succ (f := fun k => Bs_Ints.l0 k l l (i : Int)) ?_
  simp only [Bs_Ints.l0, show ¬ (i : Int) < (l.length : Int) by omega, if_false]
  exact Ev.some
 | n + 1, i, h => by
  refine Ev.succ (f := fun k => Bs_Ints.l0 k l l (i : Int)) ?_
  simp only [Bs_Ints.l0, show (i : Int) < (l.length : Int) by omega, show (0 : Int) ≤ (i : Int) by omega, if_true, up (show i < 4611686018427387904 by omega)]
  exact Ints_l0 l hl n (i + 1) (by omega)
theorem Ints_ev (l : List Int) (hl : l.length < 4611686018427387904) : Ev (fun k => Bs_Ints.f k l l) true := by
 unfold Bs_Ints.f
 simp only [if_true]
 exact Ints_l0 l hl l.length 0 (by omega)
theorem lErr_good {l : List Int} (h : (lErr l 16 10000).2 = 0) : Good l := ⟨lErr_len h, lErr_ok h⟩
theorem SpectrumErr_ev (l : List Int) : Ev (fun k => Rf_SpectrumErr.f k l) (lErr l 16 10000).2 := Ev.bind (refCheckSpectrum_ev l) Ev.some
theorem open_eq (l : List Int) : line_open.f l = some (l, (lErr l 16 10000).2) := by
 unfold line_open.f
 rw [lineCheckSpectrum_eq]; rfl
def thE (t : Int) : Int := if 0 ≤ t ∧ t ≤ 11000 then 0 else 2
theorem lineThreshold_eq (t : Int) : line_thresholdErr.f t = some (thE t) := by
 unfold line_thresholdErr.f thE
 simp only [within_eq, unless_eq, Option.bind_some, decide_eq_true_eq]
theorem refThreshold_eq (t : Int) : Rf_ThresholdErr.f t = some (thE t) := by
 unfold Rf_ThresholdErr.f thE
 simp only [Within_eq, Option.bind_some, decide_eq_true_eq]
 split <;> rfl
/-- Line j keeps line i from being one. -/
def dbad (l : List Int) (ap : Int) (i j : Nat) : Bool := decide ((j < i ∧ (i : Int) - j ≤ ap ∧ rd l (i : Int) ≤ rd l (j : Int)) ∨ (i < j ∧ (j : Int) - i ≤ ap ∧ rd l (i : Int) < rd l (j : Int)))
def noBad (l : List Int) (ap : Int) (i : Nat) : Nat → Nat → Bool
 | 0, _ => true
 | n + 1, j => !dbad l ap i j && noBad l ap i n (j + 1)
def isDet (l : List Int) (t ap : Int) (i : Nat) : Bool := decide (t ≤ rd l (i : Int)) && noBad l ap i l.length 0
def detF (l : List Int) (t ap : Int) : Nat → Nat → List Int
 | 0, _ => []
 | n + 1, i => if isDet l t ap i = true then (i : Int) :: detF l t ap n (i + 1) else detF l t ap n (i + 1)
theorem detF_length (l : List Int) (t ap : Int) : ∀ n i, (detF l t ap n i).length ≤ n
 | 0, _ => Nat.le_refl _
 | n + 1, i => by
  have := detF_length l t ap n (i + 1)
  rw [detF]; split <;> simp <;> omega
theorem noBad_iff (l : List Int) (ap : Int) (i : Nat) : ∀ n j, noBad l ap i n j = true ↔ ∀ q : Nat, j ≤ q → q < j + n → dbad l ap i q = false
 | 0, j => by simp [noBad]; omega
 | n + 1, j => by
  rw [noBad, Bool.and_eq_true, noBad_iff l ap i n (j + 1), Bool.not_eq_true']
  constructor
  ·rintro ⟨a, b⟩ q h1 h2
   by_cases e : q = j
   ·subst e; exact a
   ·exact b q (by omega) (by omega)
  ·intro h
   exact ⟨h j (by omega) (by omega), fun q h1 h2 => h q (by omega) (by omega)⟩

theorem Detections_l1 (l : List Int) (hl : l.length < 1000) (t : Int) {ap : Int} (hap : 0 ≤ ap ∧ ap ≤ 16) (acc : List Int) (i : Nat) (hi : i < l.length) (ha : acc.length ≤ i) (R : List Int → List Int)
    (hnext : ∀ acc' : List Int, acc'.length ≤ i + 1 → Ev (fun k => Rf_Detections.l0 k l acc' ((i + 1 : Nat) : Int) t ap) (R acc')) : ∀ (n j : Nat) (b : Bool), j + n = l.length →
    Ev (fun k => Rf_Detections.l1 k l acc (i : Int) b (j : Int) t ap) (R (if (b && noBad l ap i n j) = true then acc ++ [(i : Int)] else acc))
  | 0, j, b, h => by
    refine Ev.succ (f := fun k => Rf_Detections.l1 k l acc (i : Int) b (j : Int) t ap) ?_
    simp only [Rf_Detections.l1, show ¬ (j : Int) < (l.length : Int) by omega, if_false, up (show i < 4611686018427387904 by omega), show acc.length < 17592186044416 by omega, if_true, noBad, Bool.and_true]
    cases b with
    | true => simp only [if_true]; exact hnext _ (by simp; omega)
    | false => simp only [Bool.false_eq_true, if_false]; exact hnext _ (by omega)
  | n + 1, j, b, h => by
    refine Ev.succ (f := fun k => Rf_Detections.l1 k l acc (i : Int) b (j : Int) t ap) ?_
    have ih := fun b => Detections_l1 l hl t hap acc i hi ha R hnext n (j + 1) b (by omega)
    have hf := ih false
    have hb := ih b
    rw [noBad]
    simp only [Bool.false_and, Bool.false_eq_true, if_false] at hf
    simp only [Rf_Detections.l1, show (j : Int) < (l.length : Int) by omega, show (0 : Int) ≤ (j : Int) by omega, show (0 : Int) ≤ (i : Int) by omega, show (i : Int) < (l.length : Int) by omega, if_true, up (show j < 4611686018427387904 by omega), w64 (n := (i : Int) - (j : Int)) (by omega), w64 (n := (j : Int) - (i : Int)) (by omega)]
    by_cases d : (j < i ∧ (i : Int) - j ≤ ap ∧ rd l (i : Int) ≤ rd l (j : Int)) ∨ (i < j ∧ (j : Int) - i ≤ ap ∧ rd l (i : Int) < rd l (j : Int))
    · have e : dbad l ap i j = true := by unfold dbad; simpa using d
      simp only [e, Bool.not_true, Bool.false_and, Bool.and_false, Bool.false_eq_true, if_false]
      rcases d with ⟨d1, d2, d3⟩ | ⟨d1, d2, d3⟩
      · simp only [show (j : Int) < (i : Int) by omega, d2, show rd l (j : Int) ≥ rd l (i : Int) from d3, if_true]
        exact hf
      · simp only [show ¬ (j : Int) < (i : Int) by omega, show (j : Int) > (i : Int) by omega, d2, show rd l (j : Int) > rd l (i : Int) from d3, if_true, if_false]
        exact hf
    · have e : dbad l ap i j = false := by unfold dbad; simpa using d
      simp only [e, Bool.not_false, Bool.true_and]
      by_cases c1 : j < i
      · simp only [show (j : Int) < (i : Int) by omega, show ¬ (j : Int) > (i : Int) by omega, if_true, if_false]
        by_cases c2 : (i : Int) - j ≤ ap
        · have c3 : ¬ rd l (j : Int) ≥ rd l (i : Int) := fun h => d (.inl ⟨c1, c2, h⟩)
          simp only [c2, c3, if_true, if_false]; exact hb
        · simp only [c2, if_false]; exact hb
      · simp only [show ¬ (j : Int) < (i : Int) by omega, if_false]
        by_cases c2 : i < j
        · simp only [show (j : Int) > (i : Int) by omega, if_true]
          by_cases c3 : (j : Int) - i ≤ ap
          · have c4 : ¬ rd l (j : Int) > rd l (i : Int) := fun h => d (.inr ⟨c2, c3, h⟩)
            simp only [c3, c4, if_true, if_false]; exact hb
          · simp only [c3, if_false]; exact hb
        · simp only [show ¬ (j : Int) > (i : Int) by omega, if_false]; exact hb
theorem Detections_l0 (l : List Int) (hl : l.length < 1000) (t : Int) {ap : Int} (hap : 0 ≤ ap ∧ ap ≤ 16) : ∀ (n i : Nat) (acc : List Int), i + n = l.length → acc.length ≤ i →
  Ev (fun k => Rf_Detections.l0 k l acc (i : Int) t ap) (acc ++ detF l t ap n i)
 | 0, i, acc, h, ha => by
  refine Ev.succ (f := fun k => Rf_Detections.l0 k l acc (i : Int) t ap) ?_
  simp only [Rf_Detections.l0, show ¬ (i : Int) < (l.length : Int) by omega, if_false, detF, List.append_nil]
  exact Ev.some
 | n + 1, i, acc, h, ha => by
  refine Ev.succ (f := fun k => Rf_Detections.l0 k l acc (i : Int) t ap) ?_
  simp only [Rf_Detections.l0, show (i : Int) < (l.length : Int) by omega, show (0 : Int) ≤ (i : Int) by omega, if_true]
  have := Detections_l1 l hl t hap acc i (by omega) ha (fun a => a ++ detF l t ap n (i + 1)) (fun acc' h' => Detections_l0 l hl t hap n (i + 1) acc' (by omega) h') l.length 0 (decide (rd l (i : Int) ≥ t)) (by omega)
  rw [detF]
  have e : (decide (rd l (i : Int) ≥ t) && noBad l ap i l.length 0) = isDet l t ap i := rfl
  rw [e] at this
  by_cases q : isDet l t ap i = true
  ·simp only [q, if_true] at this ⊢
   simpa using this
  ·simp only [q, if_false] at this ⊢
   exact this
theorem Detections_ev (l : List Int) (hl : l.length < 1000) (t : Int) {ap : Int} (hap : 0 ≤ ap ∧ ap ≤ 16) : Ev (fun k => Rf_Detections.f k l t ap) (detF l t ap l.length 0) := by
 have := Detections_l0 l hl t hap l.length 0 [] (by omega) (by simp)
 simpa [Rf_Detections.f] using this

def df (ap : Int) (i : Nat) : Nat := i - ap.toNat
def dt (l : List Int) (ap : Int) (i : Nat) : Nat := min l.length (i + ap.toNat + 1)
theorem mn_eq' (a b : Int) : mn a b = min a b := by unfold mn; split <;> omega
theorem mem_slice {l : List Int} {t f : Nat} (ht : t ≤ l.length) (x : Int) : x ∈ (l.take t).drop f ↔ ∃ q : Nat, f ≤ q ∧ q < t ∧ rd l (q : Int) = x := by
 constructor
 ·intro h
  obtain ⟨i, hi, e⟩ := mem_rd h
  simp only [List.length_drop, List.length_take] at hi
  rw [rd_slice (by omega) ht] at e
  exact ⟨f + i, by omega, by omega, e⟩
 ·rintro ⟨q, h1, h2, rfl⟩
  have : rd ((l.take t).drop f) ((q - f : Nat) : Int) ∈ (l.take t).drop f := rd_mem (by simp; omega)
  rw [rd_slice (by omega) ht, show f + (q - f) = q by omega] at this
  exact this
theorem isDet_iff {l : List Int} (t : Int) {ap : Int} (hap : 0 ≤ ap ∧ ap ≤ 16) {i : Nat} (hi : i < l.length) :
  isDet l t ap i = true ↔ (t ≤ rd l (i : Int) ∧ rd l (i : Int) = lmax ((l.take (dt l ap i)).drop i) ∧ ((l.take i).drop (df ap i)).any (fun m => decide (rd l (i : Int) ≤ m)) = false) := by
 have hdt : i < dt l ap i ∧ dt l ap i ≤ l.length := by unfold dt; omega
 have hlen : ((l.take (dt l ap i)).drop i).length = dt l ap i - i := by simp; omega
 have hmax := lmax_le ((l.take (dt l ap i)).drop i) (by omega)
 unfold isDet
 rw [Bool.and_eq_true, decide_eq_true_eq, noBad_iff]
 refine and_congr_right (fun _ => ?_)
 constructor
 ·intro h
  constructor
  ·have h1 : lmax ((l.take (dt l ap i)).drop i) ≤ rd l (i : Int) := (hmax _).2 (fun x hx => by
    obtain ⟨q, q1, q2, rfl⟩ := (mem_slice hdt.2 x).1 hx
    have := h q (by omega) (by omega)
    unfold dbad at this
    simp only [decide_eq_false_iff_not] at this
    by_cases e : q = i
    ·subst e; exact Int.le_refl _
    ·have : ¬ rd l (i : Int) < rd l (q : Int) := fun c => this (.inr ⟨by omega, by unfold dt at q2; omega, c⟩)
     omega)
   have h2 : rd l (i : Int) ≤ lmax ((l.take (dt l ap i)).drop i) := (hmax _).1 (Int.le_refl _) _ ((mem_slice hdt.2 _).2 ⟨i, by omega, by omega, rfl⟩)
   omega
  ·rw [Bool.eq_false_iff]
   intro hany
   obtain ⟨x, hx, hd⟩ := List.any_eq_true.1 hany
   obtain ⟨q, q1, q2, rfl⟩ := (mem_slice (by omega) x).1 hx
   have := h q (by omega) (by omega)
   unfold dbad at this
   simp only [decide_eq_false_iff_not] at this
   exact this (.inl ⟨q2, by unfold df at q1; omega, by simpa using hd⟩)
 ·rintro ⟨h1, h2⟩ q _ hq
  unfold dbad
  simp only [decide_eq_false_iff_not]
  rintro (⟨a, b, c⟩ | ⟨a, b, c⟩)
  ·rw [Bool.eq_false_iff] at h2
   exact h2 (List.any_eq_true.2 ⟨rd l (q : Int), (mem_slice (by omega) _).2 ⟨q, by unfold df; omega, a, rfl⟩, by simpa using c⟩)
  ·have := (hmax _).1 (Int.le_refl _) _ ((mem_slice hdt.2 (rd l (q : Int))).2 ⟨q, by omega, by unfold dt; omega, rfl⟩)
   omega
theorem DetectionsIn_l0 {l : List Int} (hl : 1 ≤ l.length ∧ l.length < 1000) (t : Int) {ap : Int} (hap : 0 ≤ ap ∧ ap ≤ 16) : ∀ (n i : Nat) (acc : List Int), i + n = l.length → acc.length ≤ i →
  Ev (fun k => line_DetectionsIn.l0 k l acc l (l.length : Int) (i : Int) t ap) (acc ++ detF l t ap n i, 0)
 | 0, i, acc, h, ha => by
  refine Ev.succ (f := fun k => line_DetectionsIn.l0 k l acc l (l.length : Int) (i : Int) t ap) ?_
  simp only [line_DetectionsIn.l0, show ¬ (i : Int) < (l.length : Int) by omega, if_false, detF, List.append_nil]
  exact Ev.some
 | n + 1, i, acc, h, ha => by
  refine Ev.succ (f := fun k => line_DetectionsIn.l0 k l acc l (l.length : Int) (i : Int) t ap) ?_
  have hdt : i < dt l ap i ∧ dt l ap i ≤ l.length := by unfold dt; omega
  have e1 : mx 0 (wrap64 ((i : Int) - ap)) = (df ap i : Int) := by rw [w64 (by omega), mx_eq]; unfold df; omega
  have e2 : mn (l.length : Int) (wrap64 (wrap64 ((i : Int) + ap) + 1)) = (dt l ap i : Int) := by rw [w64 (n := (i : Int) + ap) (by omega), w64 (by omega), mn_eq']; unfold dt; omega
  have hlen : ((l.take (dt l ap i)).drop i).length = dt l ap i - i := by simp; omega
  have hd := isDet_iff (l := l) t hap (i := i) (by omega)
  have hmax := lmax_le ((l.take (dt l ap i)).drop i) (by omega)
  simp only [line_DetectionsIn.l0, show (i : Int) < (l.length : Int) by omega, show (0 : Int) ≤ (i : Int) by omega, if_true, e1, e2, show (0 : Int) ≤ (df ap i : Int) by omega, show (df ap i : Int) ≤ (i : Int) by unfold df; omega, show (i : Int) ≤ (l.length : Int) by omega, show (i : Int) ≤ (dt l ap i : Int) by omega, show (dt l ap i : Int) ≤ (l.length : Int) by omega, Int.toNat_natCast, up (show i < 4611686018427387904 by omega), show acc.length < 17592186044416 by omega, line_ContainsFunc_ge.f, Option.bind_some]
  have hskip : isDet l t ap i ≠ true → Ev (fun k => line_DetectionsIn.l0 k l acc l (l.length : Int) ((i + 1 : Nat) : Int) t ap) (acc ++ detF l t ap (n + 1) i, 0) := fun q => by
   rw [detF, if_neg q]
   exact DetectionsIn_l0 hl t hap n (i + 1) acc (by omega) (by omega)
  by_cases c1 : t ≤ rd l (i : Int)
  ·simp only [show rd l (i : Int) ≥ t from c1, if_true]
   refine Ev.bind (max106_ev ((l.take (dt l ap i)).drop i) (by omega) (by omega)) ?_
   by_cases c2 : rd l (i : Int) = lmax ((l.take (dt l ap i)).drop i)
   ·refine Ev.congr (fun k => (if_pos c2).symm) ?_
    cases c3 : ((l.take i).drop (df ap i)).any (fun m => decide (rd l (i : Int) ≤ m)) with
    | true =>
     simp only [if_true]
     exact hskip (fun q => by rw [(hd.1 q).2.2] at c3; cases c3)
    | false =>
     simp only [Bool.false_eq_true, if_false]
     have q := hd.2 ⟨c1, c2, c3⟩
     rw [detF, if_pos q]
     have := DetectionsIn_l0 hl t hap n (i + 1) (acc ++ [(i : Int)]) (by omega) (by simp; omega)
     simpa using this
   ·refine Ev.congr (fun k => (if_neg c2).symm) ?_
    exact hskip (fun q => c2 (hd.1 q).2.1)
  ·simp only [show ¬ rd l (i : Int) ≥ t from c1, if_false]
   exact hskip (fun q => c1 (hd.1 q).1)
def rErr (t ap : Int) : Int := if thE t = 0 then (if 0 ≤ ap ∧ ap ≤ 16 then 0 else 2) else thE t
theorem DetectionsIn_ev (l : List Int) (t ap : Int) : Ev (fun k => line_DetectionsIn.f k l t ap) (if (lErr l 16 10000).2 = 0 then (if rErr t ap = 0 then (detF l t ap l.length 0, 0) else ([], rErr t ap)) else ([], (lErr l 16 10000).2)) := by
 unfold line_DetectionsIn.f rErr
 rw [open_eq, lineThreshold_eq, within_eq]
 simp only [Option.bind_some, unless_eq, decide_eq_true_eq]
 refine Ev.bind (first_ev _ (by simp)) ?_
 by_cases h1 : (lErr l 16 10000).2 = 0
 ·have hl := (lErr_good h1).1
  by_cases h2 : thE t = 0
  ·by_cases h3 : 0 ≤ ap ∧ ap ≤ 16
   ·simp only [fnz, h1, h2, h3, and_self, if_true]
    have := DetectionsIn_l0 (l := l) (by omega) t h3 l.length 0 [] (by omega) (by simp)
    simpa using this
   ·simp only [fnz, h1, h2, h3, if_true, if_false, show ¬ (2 : Int) = 0 by decide]; exact Ev.some
  ·simp only [fnz, h1, h2, if_true, if_false]; exact Ev.some
 ·simp only [fnz, h1, if_false]; exact Ev.some
theorem RuleErr_eq (t ap : Int) : Rf_RuleErr.f t ap = some (rErr t ap) := by
 unfold Rf_RuleErr.f rErr
 rw [refThreshold_eq]
 simp only [Option.bind_some, Within_eq, decide_eq_true_eq]
 by_cases h2 : thE t = 0
 ·by_cases h3 : 0 ≤ ap ∧ ap ≤ 16
  ·simp only [h2, h3, and_self, if_true]
  ·simp only [h2, h3, if_true, if_false]
 ·simp only [h2, if_false]

theorem QualityOf_ev (l : List Int) (a : Int) : Ev (fun k => line_QualityOf.f k l a) (if (lErr l 16 10000).2 = 0 then (if 0 ≤ a ∧ a ≤ (l.length : Int) - 1 then (if sn l l.length 0 - rd l a = 0 then (0, 0, 11) else ((frac (rd l a * ((l.length : Int) - 1)) (sn l l.length 0 - rd l a)).1, (frac (rd l a * ((l.length : Int) - 1)) (sn l l.length 0 - rd l a)).2, 0)) else (0, 0, 6)) else (0, 0, (lErr l 16 10000).2)) := by
 unfold line_QualityOf.f
 rw [open_eq]
 simp only [Option.bind_some, within_eq, unless_eq, decide_eq_true_eq]
 refine Ev.bind (first_ev _ (by simp)) ?_
 by_cases h1 : (lErr l 16 10000).2 = 0
 ·have hg := lErr_good h1
  have hl := hg.1
  rw [w64 (n := (l.length : Int) - 1) (by omega)]
  by_cases h2 : 0 ≤ a ∧ a ≤ (l.length : Int) - 1
  ·obtain ⟨p, rfl⟩ : ∃ p : Nat, a = (p : Int) := ⟨a.toNat, by omega⟩
   simp only [fnz, h1, h2, and_self, if_true]
   refine Ev.bind (sum_ev l (by omega) hg.2) ?_
   have hs := sn_in hg l.length 0 (by omega)
   have hr := hg.rd (i := p) (by omega)
   have hge := sn_ge hg l.length 0 p (by omega) (by omega) (by omega)
   have m1 : 0 ≤ rd l (p : Int) * ((l.length : Int) - 1) := Int.mul_nonneg hr.1 (by omega)
   have m2 : rd l (p : Int) * ((l.length : Int) - 1) ≤ 10000 * 16 := Int.mul_le_mul hr.2 (by omega) (by omega) (by omega)
   simp only [show (0 : Int) ≤ (p : Int) by omega, show (p : Int) < (l.length : Int) by omega, if_true, w64 (n := sn l l.length 0 - rd l (p : Int)) (by omega), w64 (n := rd l (p : Int) * ((l.length : Int) - 1)) (by omega)]
   by_cases z : sn l l.length 0 - rd l (p : Int) = 0
   ·simp only [z, if_true]; exact Ev.some
   ·simp only [z, if_false]
    exact Ev.bind (fraction_ev' (by omega) (by omega)) Ev.some
  ·simp only [fnz, h1, h2, if_true, if_false, show ¬ (6 : Int) = 0 by decide]; exact Ev.some
 ·simp only [fnz, h1, if_false]; exact Ev.some
theorem Quality_ev {l : List Int} (hg : Good l) {p : Nat} (hp : p < l.length) : Ev (fun k => Rf_Quality.f k l (p : Int)) (if sn l l.length 0 - rd l (p : Int) = 0 then (0, 0, false) else ((frac (rd l (p : Int) * ((l.length : Int) - 1)) (sn l l.length 0 - rd l (p : Int))).1, (frac (rd l (p : Int) * ((l.length : Int) - 1)) (sn l l.length 0 - rd l (p : Int))).2, true)) := by
 have hl := hg.1
 have hs := sn_in hg l.length 0 (by omega)
 have hr := hg.rd (i := p) (by omega)
 have hge := sn_ge hg l.length 0 p (by omega) (by omega) (by omega)
 have m1 : 0 ≤ rd l (p : Int) * ((l.length : Int) - 1) := Int.mul_nonneg hr.1 (by omega)
 have m2 : rd l (p : Int) * ((l.length : Int) - 1) ≤ 10000 * 16 := Int.mul_le_mul hr.2 (by omega) (by omega) (by omega)
 unfold Rf_Quality.f
 refine Ev.bind (Sum_ev l (by omega) hg.2) ?_
 simp only [show (0 : Int) ≤ (p : Int) by omega, show (p : Int) < (l.length : Int) by omega, if_true, w64 (n := sn l l.length 0 - rd l (p : Int)) (by omega), w64 (n := (l.length : Int) - 1) (by omega), w64 (n := rd l (p : Int) * ((l.length : Int) - 1)) (by omega)]
 by_cases z : sn l l.length 0 - rd l (p : Int) = 0
 ·simp only [z, if_true]; exact Ev.some
 ·simp only [z, if_false]
  exact Ev.bind (Lowest_ev' (by omega) (by omega)) Ev.some

theorem LineDetections_ev (l : List Int) (t ap a : Int) : Ev (fun k => Lw_LineDetections.f k l t ap a) true := by
 unfold Lw_LineDetections.f
 refine Ev.bind awake_ev ?_
 simp only [if_true, short_eq, Option.bind_some]
 by_cases h0 : (l.length : Int) ≤ 20
 ·simp only [h0, decide_true, if_true]
  rw [CopyInts_eq l (by omega)]
  simp only [Option.bind_some]
  refine Ev.bind (DetectionsIn_ev l t ap) ?_
  refine Ev.bind (QualityOf_ev l a) ?_
  refine Ev.bind (SpectrumErr_ev l) ?_
  by_cases h1 : (lErr l 16 10000).2 = 0
  ·have hg := lErr_good h1
   have hl := hg.1
   simp only [h1, if_true, RuleErr_eq, Option.bind_some]
   have hj : Ev (fun k => Lw_LineDetections.j0 k l a (if 0 ≤ a ∧ a ≤ (l.length : Int) - 1 then (if sn l l.length 0 - rd l a = 0 then ((0 : Int), (0 : Int), (11 : Int)) else ((frac (rd l a * ((l.length : Int) - 1)) (sn l l.length 0 - rd l a)).1, (frac (rd l a * ((l.length : Int) - 1)) (sn l l.length 0 - rd l a)).2, 0)) else (0, 0, 6)).2.2 false (if 0 ≤ a ∧ a ≤ (l.length : Int) - 1 then (if sn l l.length 0 - rd l a = 0 then ((0 : Int), (0 : Int), (11 : Int)) else ((frac (rd l a * ((l.length : Int) - 1)) (sn l l.length 0 - rd l a)).1, (frac (rd l a * ((l.length : Int) - 1)) (sn l l.length 0 - rd l a)).2, 0)) else (0, 0, 6)).1 (if 0 ≤ a ∧ a ≤ (l.length : Int) - 1 then (if sn l l.length 0 - rd l a = 0 then ((0 : Int), (0 : Int), (11 : Int)) else ((frac (rd l a * ((l.length : Int) - 1)) (sn l l.length 0 - rd l a)).1, (frac (rd l a * ((l.length : Int) - 1)) (sn l l.length 0 - rd l a)).2, 0)) else (0, 0, 6)).2.1) true := by
    refine Ev.succ (f := fun k => Lw_LineDetections.j0 k l a _ _ _ _) ?_
    simp only [Lw_LineDetections.j0, Bool.false_eq_true, if_false, Within_eq, Option.bind_some, decide_eq_true_eq]
    rw [w64 (n := (l.length : Int) - 1) (by omega)]
    by_cases h2 : 0 ≤ a ∧ a ≤ (l.length : Int) - 1
    ·obtain ⟨p, rfl⟩ : ∃ p : Nat, a = (p : Int) := ⟨a.toNat, by omega⟩
     simp only [h2, and_self, if_true]
     refine Ev.bind (Quality_ev hg (p := p) (by omega)) ?_
     by_cases z : sn l l.length 0 - rd l (p : Int) = 0
     ·simp only [z, if_true, Bool.false_eq_true, if_false, beq_self_eq_true, Bool.and_self]; exact Ev.some
     ·simp only [z, if_true, if_false, beq_self_eq_true, Bool.and_self]; exact Ev.some
    ·simp only [h2, if_false, if_true, beq_self_eq_true, Bool.and_self]; exact Ev.some
   by_cases h2 : rErr t ap = 0
   ·have hap : 0 ≤ ap ∧ ap ≤ 16 := by
     unfold rErr at h2
     by_cases e1 : thE t = 0
     ·by_cases e2 : 0 ≤ ap ∧ ap ≤ 16
      ·exact e2
      ·simp only [e1, e2, if_true, if_false] at h2; simp at h2
     ·simp only [e1, if_false] at h2
    simp only [h2, if_true]
    refine Ev.bind (Detections_ev l (by omega) t hap) ?_
    refine Ev.bind (Ints_ev _ (by have := detF_length l t ap l.length 0; omega)) ?_
    exact hj
   ·simp only [h2, if_true, if_false, List.length_nil, Int.ofNat_zero]
    exact hj
  ·simp only [h1, if_false, if_true, beq_self_eq_true, Bool.and_self, List.length_nil, Int.ofNat_zero]; exact Ev.some
 ·simp only [h0, decide_false, Bool.false_eq_true, if_false]; exact Ev.some
theorem LineDetections_pure (l : List Int) (_ : l.length ≤ maxLen) (_ : ∀ x ∈ l, (Lit.int .i64 x).wf = true) (t : Int) (_ : (Lit.int .i64 t).wf = true) (ap : Int) (_ : (Lit.int .i64 ap).wf = true) (a : Int) (_ : (Lit.int .i64 a).wf = true) :
  ∃ k, Lw_LineDetections.f k l t ap a = some true := (LineDetections_ev l t ap a).ex
end Go.Proofs.YtjnkphmcndaijaaDoor.P
