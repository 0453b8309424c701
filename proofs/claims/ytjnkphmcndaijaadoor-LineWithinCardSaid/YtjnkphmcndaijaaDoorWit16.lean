/-
PLAIN LAW: what the walks compute answers as the statement says (no program in sight; Ev: from some number of rounds on).
-/
import Derived.Test.YtjnkphmcndaijaaDoorWit14
import Derived.Test.YtjnkphmcndaijaaDoorWit06
import Derived.Test.YtjnkphmcndaijaaDoorWit13
import Derived.Test.YtjnkphmcndaijaaDoorWit07
import Derived.Test.YtjnkphmcndaijaaDoorWit15
import Derived.Test.YtjnkphmcndaijaaDoorWit04
namespace Go.Proofs.YtjnkphmcndaijaaDoor.P
open Go Go.RowKit Go.Proofs.YtjnkphmcndaijaaDoor.A Go.Proofs.YtjnkphmcndaijaaDoorW.PrintWords Go.Proofs.YtjnkphmcndaijaaDoorW.PrintLast Go.Proofs.YtjnkphmcndaijaaDoorW.PrintMore
set_option linter.unusedSimpArgs false
set_option linter.unusedVariables false
/-- From some number of rounds on, f says r. -/
def Ev {α : Type} (f : Nat → Option α) (r : α) : Prop := ∃ k, ∀ j, k ≤ j → f j = some r

theorem Ev.some {α : Type} {r : α} : Ev (fun _ => Option.some r) r := ⟨0, fun _ _ => rfl⟩
theorem Ev.bind {α β : Type} {f : Nat → Option α} {g : Nat → α → Option β} {a : α} {b : β} (h : Ev f a) (h2 : Ev (fun k => g k a) b) : Ev (fun k => (f k).bind (g k)) b := by
  obtain ⟨k, hk⟩ := h
  obtain ⟨m, hm⟩ := h2
  exact ⟨max k m, fun j hj => by show (f j).bind (g j) = _; rw [hk j (by omega)]; exact hm j (by omega)⟩
theorem Ev.succ {α : Type} {f : Nat → Option α} {r : α} (h : Ev (fun k => f (k + 1)) r) : Ev f r := by
  obtain ⟨k, hk⟩ := h
  exact ⟨k + 1, fun j hj => by obtain ⟨m, rfl⟩ : ∃ m, j = m + 1 := ⟨j - 1, by omega⟩; exact hk m (by omega)⟩
theorem Ev.congr {α : Type} {f g : Nat → Option α} {r : α} (e : ∀ k, f k = g k) (h : Ev f r) : Ev g r := by
  obtain ⟨k, hk⟩ := h
  exact ⟨k, fun j hj => by rw [← e j]; exact hk j hj⟩
theorem Ev.ex {α : Type} {f : Nat → Option α} {r : α} (h : Ev f r) : ∃ k, f k = Option.some r := let ⟨k, hk⟩ := h; ⟨k, hk k (Nat.le_refl _)⟩
theorem Ev.of_mono {α : Type} {f : Nat → Option α} {r : α} (hm : ∀ k, LeO (f k) (f (k + 1))) {k : Nat} (h : f k = Option.some r) : Ev f r := by
  refine ⟨k, fun j hj => ?_⟩
  induction j with
  | zero => obtain rfl : k = 0 := by omega
            exact h
  | succ j ih =>
    by_cases e : k = j + 1
    · subst e; exact h
    · exact hm j r (ih (by omega))
theorem up {i : Nat} (h : i < 4611686018427387904) : wrap64 ((i : Int) + 1) = ((i + 1 : Nat) : Int) := by
  unfold wrap64; omega
theorem w64 {n : Int} (h : -9223372036854775808 ≤ n ∧ n ≤ 9223372036854775807) : wrap64 n = n := by unfold wrap64; omega
theorem rd_nat (l : List Int) (i : Nat) : rd l (i : Int) = l.getD i 0 := by unfold rd; simp
theorem drop_rd {l : List Int} {i : Nat} (h : i < l.length) : l.drop i = rd l (i : Int) :: l.drop (i + 1) := by
  rw [rd_nat, List.drop_eq_getElem_cons h]
  simp [List.getD_eq_getElem?_getD, h]

theorem mx_eq (a b : Int) : mx a b = max a b := by unfold mx; split <;> omega

theorem within_eq (a b c : Int) : line_within.f a b c = some (decide (b ≤ a ∧ a ≤ c)) := by
  unfold line_within.f
  by_cases h : b ≤ a <;> simp [h]
theorem Within_eq (a b c : Int) : glidepathbase_Within.f a b c = some (decide (b ≤ a ∧ a ≤ c)) := by
  unfold glidepathbase_Within.f
  by_cases h : b ≤ a <;> simp [h]
theorem unless_eq (b : Bool) (e : Int) : line_unless.f b e = some (if b = true then 0 else e) := by
  unfold line_unless.f
  cases b <;> simp
theorem Size_eq (a : Int) : glidepathbase_Size.f a = some (mx a (wrap64 (-a))) := rfl
/-- The first number that is not 0. -/
def fnz : List Int → Int
  | [] => 0
  | x :: r => if x = 0 then fnz r else x

theorem first_l0 (l : List Int) (hl : l.length < 4611686018427387904) : ∀ (n i : Nat), i + n = l.length → Ev (fun k => line_first.l0 k l (l.length : Int) (i : Int)) (fnz (l.drop i))
  | 0, i, h => by
    refine Ev.succ (f := fun k => line_first.l0 k l (l.length : Int) (i : Int)) ?_
    have h1 : ¬ (i : Int) < (l.length : Int) := by omega
    simp only [line_first.l0, h1, if_false]
    rw [show l.drop i = [] from List.drop_eq_nil_of_le (by omega)]
    exact Ev.some
  | n + 1, i, h => by
    refine Ev.succ (f := fun k => line_first.l0 k l (l.length : Int) (i : Int)) ?_
    have h1 : (i : Int) < (l.length : Int) := by omega
    have h2 : (0 : Int) ≤ (i : Int) := by omega
    simp only [line_first.l0, h1, h2, if_true, up (show i < 4611686018427387904 by omega)]
    rw [drop_rd (show i < l.length by omega)]
    unfold fnz
    by_cases e : rd l (i : Int) = 0
    · simp only [e, if_true]
      exact first_l0 l hl n (i + 1) (by omega)
    · simp only [e, if_false]
      exact Ev.some
theorem first_ev (l : List Int) (hl : l.length < 4611686018427387904) : Ev (fun k => line_first.f k l) (fnz l) := first_l0 l hl l.length 0 (by omega)

/-- Not from 0 to m. -/
def bad (m x : Int) : Bool := !(decide (0 ≤ x) && decide (x ≤ m))
theorem within_bad (m x : Int) : decide (0 ≤ x ∧ x ≤ m) = !bad m x := by
  unfold bad; by_cases h : 0 ≤ x <;> by_cases h2 : x ≤ m <;> simp [h, h2]
/-- The index of the first one that is not within, or none; the number of the error. -/
def lErr (l : List Int) (n : Nat) (m : Int) : Int × Int :=
  if l.length = 0 then (0, 10) else if n < l.length then (0, 8) else
    if idxF (bad m) l ≥ 0 then (idxF (bad m) l, 2) else (0, 0)

theorem listErr_eq (l : List Int) (n : Nat) (m : Int) : line_listErr.f l (n : Int) m = some (lErr l n m) := by
  have hb : (fun x : Int => !(decide (0 ≤ x) && decide (x ≤ m))) = bad m := rfl
  unfold line_listErr.f lErr
  rw [hb]
  by_cases h0 : l.length = 0
  · simp only [h0, if_true]
  · by_cases h1 : n < l.length
    · have h2 : (n : Int) < (l.length : Int) := by omega
      simp only [h0, h1, h2, if_true, if_false]
    · have h2 : ¬ (n : Int) < (l.length : Int) := by omega
      simp only [h0, h1, h2, if_false]
      split <;> rfl
theorem lineCheckSpectrum_eq (l : List Int) : line_CheckSpectrum.f l = some (lErr l 16 10000) := by
  have h : line_listErr.f l 16 10000 = some (lErr l 16 10000) := listErr_eq l 16 10000
  unfold line_CheckSpectrum.f; rw [h]; rfl
theorem idxF_nil (p : Int → Bool) : idxF p [] = -1 := rfl
theorem idxF_ge (p : Int → Bool) (l : List Int) : -1 ≤ idxF p l := by
  unfold idxF
  cases l.findIdx? p <;> simp <;> omega
theorem idxF_cons (p : Int → Bool) (a : Int) (r : List Int) : idxF p (a :: r) = if p a = true then 0 else if idxF p r ≥ 0 then idxF p r + 1 else -1 := by
  unfold idxF
  rw [List.findIdx?_cons]
  by_cases h : p a = true
  · simp [h]
  · simp only [h, if_false, Bool.false_eq_true]
    cases r.findIdx? p with
    | none => simp
    | some i => simp <;> omega

theorem refSpectrum_l0 (l : List Int) (hl : l.length < 4611686018427387904) : ∀ (n i : Nat), i + n = l.length →
    Ev (fun k => glidepathref02_CheckSpectrum.l0 k l (i : Int)) (if idxF (bad 10000) (l.drop i) ≥ 0 then (idxF (bad 10000) (l.drop i) + i, 2) else (0, 0))
  | 0, i, h => by
    refine Ev.succ (f := fun k => glidepathref02_CheckSpectrum.l0 k l (i : Int)) ?_
    have h1 : ¬ (i : Int) < (l.length : Int) := by omega
    simp only [glidepathref02_CheckSpectrum.l0, h1, if_false]
    rw [show l.drop i = [] from List.drop_eq_nil_of_le (by omega), idxF_nil]
    exact Ev.some
  | n + 1, i, h => by
    refine Ev.succ (f := fun k => glidepathref02_CheckSpectrum.l0 k l (i : Int)) ?_
    have h1 : (i : Int) < (l.length : Int) := by omega
    have h2 : (0 : Int) ≤ (i : Int) := by omega
    simp only [glidepathref02_CheckSpectrum.l0, h1, h2, if_true, up (show i < 4611686018427387904 by omega), Within_eq, within_bad, Option.bind_some]
    rw [drop_rd (show i < l.length by omega), idxF_cons]
    cases e : bad 10000 (rd l (i : Int)) with
    | false =>
      simp only [e, Bool.not_false, if_true, Bool.false_eq_true, if_false]
      have ih := refSpectrum_l0 l hl n (i + 1) (by omega)
      have hg := idxF_ge (bad 10000) (l.drop (i + 1))
      by_cases q : idxF (bad 10000) (l.drop (i + 1)) ≥ 0
      · simp only [q, if_true] at ih ⊢
        rw [if_pos (by omega), show idxF (bad 10000) (l.drop (i + 1)) + 1 + (i : Int) = idxF (bad 10000) (l.drop (i + 1)) + ((i + 1 : Nat) : Int) by omega]
        exact ih
      · simp only [q, if_false] at ih ⊢
        exact ih
    | true =>
      simp only [e, Bool.not_true, Bool.false_eq_true, if_false, if_true]
      rw [if_pos (by omega), Int.zero_add]
      exact Ev.some
theorem refCheckSpectrum_ev (l : List Int) : Ev (fun k => glidepathref02_CheckSpectrum.f k l) (lErr l 16 10000) := by
  unfold glidepathref02_CheckSpectrum.f lErr
  by_cases h0 : l.length = 0
  · have : (l.length : Int) = 0 := by omega
    simp only [h0, if_true]
    exact Ev.some
  · have h0' : ¬ (l.length : Int) = 0 := by omega
    by_cases h1 : 16 < l.length
    · have h2 : (l.length : Int) > 16 := by omega
      simp only [h0, h0', h1, h2, if_true, if_false]
      exact Ev.some
    · have h2 : ¬ (l.length : Int) > 16 := by omega
      simp only [h0, h0', h1, h2, if_false]
      have := refSpectrum_l0 l (by omega) l.length 0 (by omega)
      simpa using this
/-- What the program says for it (the one number without a positive twin stays as it is). -/
def gq (x y : Int) : Int := if Int.gcd x y = 9223372036854775808 then -9223372036854775808 else (Int.gcd x y : Int)

theorem size_abs {x : Int} (h : -9223372036854775808 ≤ x ∧ x ≤ 9223372036854775807) : mx x (wrap64 (-x)) = gq x 0 := by
  unfold gq
  rw [Int.gcd_zero_right]
  unfold mx wrap64
  by_cases e : x = -9223372036854775808
  · subst e; rfl
  · rw [if_neg (show ¬ x.natAbs = 9223372036854775808 by omega)]
    split <;> omega

theorem gcd_step (x y : Int) : gq y (x.tmod y) = gq x y := by
  have : Int.gcd y (x.tmod y) = Int.gcd x y := by
    show Nat.gcd y.natAbs (x.tmod y).natAbs = Nat.gcd x.natAbs y.natAbs
    rw [Int.natAbs_tmod, Nat.gcd_comm, ← Nat.gcd_rec, Nat.gcd_comm]
  unfold gq
  rw [this]

theorem tmod_in {x y : Int} (hx : -9223372036854775808 ≤ x ∧ x ≤ 9223372036854775807) (hy : -9223372036854775808 ≤ y ∧ y ≤ 9223372036854775807) (h0 : y ≠ 0) : (x.tmod y).natAbs < y.natAbs ∧ -9223372036854775808 ≤ x.tmod y ∧ x.tmod y ≤ 9223372036854775807 := by
  have h : (x.tmod y).natAbs < y.natAbs := by
    rw [Int.natAbs_tmod]
    exact Nat.mod_lt _ (by omega)
  omega

theorem gcd_l0 : ∀ (m : Nat) (x y : Int), y.natAbs ≤ m → (-9223372036854775808 ≤ x ∧ x ≤ 9223372036854775807) → (-9223372036854775808 ≤ y ∧ y ≤ 9223372036854775807) → Ev (fun k => glidepathbase_Gcd.l0 k x y) (gq x y)
  | 0, x, y, h, hx, _ => by
    refine Ev.succ (f := fun k => glidepathbase_Gcd.l0 k x y) ?_
    obtain rfl : y = 0 := by omega
    simp only [glidepathbase_Gcd.l0, if_true, Size_eq, Option.bind_some, size_abs hx]
    exact Ev.some
  | m + 1, x, y, h, hx, hy => by
    refine Ev.succ (f := fun k => glidepathbase_Gcd.l0 k x y) ?_
    by_cases h0 : y = 0
    · subst h0
      simp only [glidepathbase_Gcd.l0, if_true, Size_eq, Option.bind_some, size_abs hx]
      exact Ev.some
    · simp only [glidepathbase_Gcd.l0, h0, if_false]
      have ht := tmod_in hx hy h0
      rw [← gcd_step x y]
      exact gcd_l0 m y (x.tmod y) (by omega) hy ht.2
theorem gcd_ev {x y : Int} (hx : -9223372036854775808 ≤ x ∧ x ≤ 9223372036854775807) (hy : -9223372036854775808 ≤ y ∧ y ≤ 9223372036854775807) : Ev (fun k => glidepathbase_Gcd.f k x y) (gq x y) := gcd_l0 _ x y (Nat.le_refl _) hx hy
theorem divisor_eq : ∀ (k : Nat) (x y : Int), line_divisor.l0 k x y = glidepathbase_Gcd.l0 k x y
  | 0, _, _ => rfl
  | k + 1, x, y => by
    simp only [line_divisor.l0, glidepathbase_Gcd.l0, divisor_eq k, Size_eq, Option.bind_some]
theorem divisor_ev {x y : Int} (hx : -9223372036854775808 ≤ x ∧ x ≤ 9223372036854775807) (hy : -9223372036854775808 ≤ y ∧ y ≤ 9223372036854775807) : Ev (fun k => line_divisor.f k x y) (gq x y) :=
  Ev.congr (f := fun k => glidepathbase_Gcd.f k x y) (fun k => (divisor_eq k x y).symm) (gcd_ev hx hy)

def lmx : List Int → Int → Int
  | [], a => a
  | x :: r, a => lmx r (mx a x)
theorem lmx_le : ∀ (l : List Int) (a b : Int), lmx l a ≤ b ↔ a ≤ b ∧ ∀ x ∈ l, x ≤ b
  | [], a, b => by simp [lmx]
  | x :: r, a, b => by
    rw [lmx, lmx_le r, mx_eq]
    simp only [List.mem_cons, forall_eq_or_imp]
    constructor
    · rintro ⟨h, h2⟩; exact ⟨by omega, by omega, h2⟩
    · rintro ⟨h, h2, h3⟩; exact ⟨by omega, h3⟩
theorem max_le (l : List Int) (h0 : 0 < l.length) (b : Int) : lmx (l.drop 1) (rd l 0) ≤ b ↔ ∀ x ∈ l, x ≤ b := by
  rw [lmx_le]
  have e := drop_rd (l := l) (i := 0) h0
  simp only [List.drop_zero, Nat.zero_add] at e
  constructor
  · rintro ⟨h1, h2⟩ x hx
    rw [e] at hx
    rcases List.mem_cons.1 hx with rfl | hx
    · exact h1
    · exact h2 x hx
  · intro h
    exact ⟨h _ (by rw [e]; exact List.mem_cons_self), fun x hx => h x (List.mem_of_mem_drop hx)⟩

theorem lErr_len {l : List Int} {n : Nat} {m : Int} (h : (lErr l n m).2 = 0) : 1 ≤ l.length ∧ l.length ≤ n := by
  unfold lErr at h
  by_cases h0 : l.length = 0
  · simp [h0] at h
  · by_cases h1 : n < l.length
    · simp [h0, h1] at h
    · omega
theorem max106_l0 (l : List Int) (hl : l.length < 4611686018427387904) : ∀ (n i : Nat) (a : Int), i + n = l.length → Ev (fun k => line_spectrum_int_106.l0 k l a (i : Int)) (lmx (l.drop i) a)
  | 0, i, a, h => by
    refine Ev.succ (f := fun k => line_spectrum_int_106.l0 k l a (i : Int)) ?_
    simp only [line_spectrum_int_106.l0, show ¬ (i : Int) < (l.length : Int) by omega, if_false]
    rw [show l.drop i = [] from List.drop_eq_nil_of_le (by omega)]
    exact Ev.some
  | n + 1, i, a, h => by
    refine Ev.succ (f := fun k => line_spectrum_int_106.l0 k l a (i : Int)) ?_
    simp only [line_spectrum_int_106.l0, show (i : Int) < (l.length : Int) by omega, show (0 : Int) ≤ (i : Int) by omega, if_true, up (show i < 4611686018427387904 by omega)]
    rw [drop_rd (show i < l.length by omega)]
    exact max106_l0 l hl n (i + 1) _ (by omega)
/-- The greatest number of a list. -/
def lmax (l : List Int) : Int := lmx (l.drop 1) (rd l 0)
theorem max106_ev (l : List Int) (h0 : 0 < l.length) (hl : l.length < 4611686018427387904) : Ev (fun k => line_spectrum_int_106.f k l) (lmax l) := by
  unfold line_spectrum_int_106.f
  simp only [show ¬ (l.length : Int) < 1 by omega, show (0 : Int) < (l.length : Int) by omega, if_true, if_false]
  exact max106_l0 l hl (l.length - 1) 1 _ (by omega)
theorem lmax_le (l : List Int) (h0 : 0 < l.length) (b : Int) : lmax l ≤ b ↔ ∀ x ∈ l, x ≤ b := max_le l h0 b
theorem lmx_mem : ∀ (l : List Int) (a : Int), lmx l a = a ∨ lmx l a ∈ l
  | [], a => .inl rfl
  | x :: r, a => by
    rw [lmx]
    rcases lmx_mem r (mx a x) with h | h
    · rw [h]
      unfold mx
      split
      · exact .inr List.mem_cons_self
      · exact .inl rfl
    · exact .inr (List.mem_cons_of_mem _ h)
theorem lmax_mem (l : List Int) (h0 : 0 < l.length) : lmax l ∈ l := by
  have e := drop_rd (l := l) (i := 0) h0
  simp only [List.drop_zero, Nat.zero_add] at e
  rcases lmx_mem (l.drop 1) (rd l 0) with h | h
  · unfold lmax; rw [h]; rw [e]; exact List.mem_cons_self
  · exact List.mem_of_mem_drop h
theorem rd_mem {l : List Int} {i : Nat} (h : i < l.length) : rd l (i : Int) ∈ l := by
  rw [rd_nat, List.getD_eq_getElem?_getD, List.getElem?_eq_getElem h]; exact List.getElem_mem h
theorem mem_rd {l : List Int} {x : Int} (h : x ∈ l) : ∃ i : Nat, i < l.length ∧ rd l (i : Int) = x := by
  obtain ⟨i, hi, e⟩ := List.getElem_of_mem h
  exact ⟨i, hi, by rw [rd_nat, List.getD_eq_getElem?_getD, List.getElem?_eq_getElem hi]; exact e⟩

/-- Line i is as great as any. -/
def pk (l : List Int) (i : Nat) : Bool := l.all fun x => decide (x ≤ rd l (i : Int))
def peaksFrom (l : List Int) : Nat → Nat → List Int
  | 0, _ => []
  | n + 1, i => if pk l i = true then (i : Int) :: peaksFrom l n (i + 1) else peaksFrom l n (i + 1)
theorem mem_peaksFrom (l : List Int) : ∀ (n i : Nat) (p : Int), p ∈ peaksFrom l n i ↔ ∃ q : Nat, p = (q : Int) ∧ i ≤ q ∧ q < i + n ∧ pk l q = true
  | 0, i, p => by simp [peaksFrom]; omega
  | n + 1, i, p => by
    rw [peaksFrom]
    by_cases h : pk l i = true
    · rw [if_pos h, List.mem_cons, mem_peaksFrom l n (i + 1)]
      constructor
      · rintro (rfl | ⟨q, rfl, a, b, c⟩)
        · exact ⟨i, rfl, by omega, by omega, h⟩
        · exact ⟨q, rfl, by omega, by omega, c⟩
      · rintro ⟨q, rfl, a, b, c⟩
        by_cases e : q = i
        · subst e; exact .inl rfl
        · exact .inr ⟨q, rfl, by omega, by omega, c⟩
    · rw [if_neg h, mem_peaksFrom l n (i + 1)]
      constructor
      · rintro ⟨q, rfl, a, b, c⟩; exact ⟨q, rfl, by omega, by omega, c⟩
      · rintro ⟨q, rfl, a, b, c⟩
        exact ⟨q, rfl, by rcases Nat.lt_or_ge i q with h' | h'; exact h'; obtain rfl : q = i := by omega
                          exact absurd c h, by omega, c⟩

/-- All peaks. -/
def peaks (l : List Int) : List Int := peaksFrom l l.length 0
theorem peaks_cons (l : List Int) (h0 : 0 < l.length) : ∃ (p : Nat) (r : List Int), peaks l = (p : Int) :: r ∧ p < l.length ∧ rd l (p : Int) = lmax l := by
  obtain ⟨i, hi, e⟩ := mem_rd (lmax_mem l h0)
  have hmem : (i : Int) ∈ peaks l := (mem_peaksFrom l _ _ _).2 ⟨i, rfl, by omega, by omega, by unfold pk; rw [e]; simpa using (lmax_le l h0 _).1 (Int.le_refl _)⟩
  cases hp : peaks l with
  | nil => rw [hp] at hmem; cases hmem
  | cons p r =>
    obtain ⟨q, rfl, _, hq, hk⟩ := (mem_peaksFrom l _ _ p).1 (by show p ∈ peaks l; rw [hp]; exact List.mem_cons_self)
    refine ⟨q, r, rfl, by omega, ?_⟩
    have h1 : lmax l ≤ rd l (q : Int) := (lmax_le l h0 _).2 (by simpa [pk] using hk)
    have h2 : rd l (q : Int) ≤ lmax l := (lmax_le l h0 _).1 (Int.le_refl _) _ (rd_mem (by omega))
    omega
/-- A fraction in lowest terms, as both say it. -/
def frac (a b : Int) : Int × Int := (wrap64 (Int.tdiv a (gq a b)), wrap64 (Int.tdiv b (gq a b)))
theorem fraction_ev {a b : Int} (ha : -9223372036854775808 ≤ a ∧ a ≤ 9223372036854775807) (hb : -9223372036854775808 ≤ b ∧ b ≤ 9223372036854775807) (h0 : gq a b ≠ 0) : Ev (fun k => line_fraction.f k a b) (frac a b) := by
  unfold line_fraction.f
  refine Ev.bind (divisor_ev ha hb) ?_
  simp only [h0, if_false]
  exact Ev.some
theorem Lowest_ev {a b : Int} (ha : -9223372036854775808 ≤ a ∧ a ≤ 9223372036854775807) (hb : 0 ≤ b ∧ b ≤ 9223372036854775807) (h0 : gq a b ≠ 0) : Ev (fun k => glidepathbase_Lowest.f k a b) (frac a b) := by
  unfold glidepathbase_Lowest.f
  refine Ev.bind (gcd_ev ha (by omega)) ?_
  simp only [show ¬ b < 0 by omega, h0, if_false]
  exact Ev.some

/-- A row of a valid case, or a valid spectrum. -/
def Good (l : List Int) : Prop := (1 ≤ l.length ∧ l.length ≤ 16) ∧ ∀ x ∈ l, 0 ≤ x ∧ x ≤ 10000
theorem Good.rd {l : List Int} (h : Good l) {i : Nat} (hi : i < l.length) : 0 ≤ rd l (i : Int) ∧ rd l (i : Int) ≤ 10000 := h.2 _ (rd_mem hi)

theorem gq_pos' {a b : Int} (hb : 0 < b ∧ b ≤ 4611686018427387904) : 0 < gq a b ∧ gq a b ≤ b ∧ gq a b = (Int.gcd a b : Int) := by
  have h1 : Int.gcd a b ≤ b.natAbs := Nat.le_of_dvd (by omega) (Nat.gcd_dvd_right _ _)
  have h2 : 0 < Int.gcd a b := Int.gcd_pos_of_ne_zero_right _ (by omega)
  unfold gq
  rw [if_neg (by omega)]
  omega
theorem frac_den {a b : Int} (hb : 0 < b ∧ b ≤ 4611686018427387904) : 0 < (frac a b).2 ∧ (frac a b).2 ≤ b := by
  obtain ⟨h1, h2, h3⟩ := gq_pos' (a := a) hb
  have hd : gq a b ∣ b := by rw [h3]; exact Int.gcd_dvd_right _ _
  obtain ⟨c, hc⟩ := hd
  have e : Int.tdiv b (gq a b) = c := by
    rw [Int.tdiv_eq_ediv_of_nonneg (by omega)]
    exact Int.ediv_eq_of_eq_mul_right (by omega) hc
  have c0 : 0 < c := by
    by_cases h : 0 < c
    · exact h
    · have := Int.mul_nonneg (show (0 : Int) ≤ gq a b by omega) (show (0 : Int) ≤ -c by omega)
      rw [Int.mul_neg] at this; omega
  have c1 : c ≤ b := by
    have : 1 * c ≤ gq a b * c := Int.mul_le_mul_of_nonneg_right (by omega) (by omega)
    omega
  show 0 < wrap64 _ ∧ wrap64 _ ≤ b
  rw [e, w64 (by omega)]
  exact ⟨c0, c1⟩
theorem frac_num {a b : Int} (hb : 0 < b ∧ b ≤ 4611686018427387904) (ha : -4611686018427387904 ≤ a ∧ a ≤ 4611686018427387904) : (frac a b).1.natAbs ≤ a.natAbs ∧ (0 ≤ a → 0 ≤ (frac a b).1) := by
  obtain ⟨h1, h2, h3⟩ := gq_pos' (a := a) hb
  have h : (Int.tdiv a (gq a b)).natAbs ≤ a.natAbs := by
    rw [Int.natAbs_tdiv]
    exact Nat.div_le_self _ _
  show (wrap64 _).natAbs ≤ _ ∧ (_ → 0 ≤ wrap64 _)
  rw [w64 (by omega)]
  exact ⟨h, fun h0 => Int.tdiv_nonneg h0 (by omega)⟩
theorem frac_one {a : Int} (ha : -4611686018427387904 ≤ a ∧ a ≤ 4611686018427387904) : frac a 1 = (a, 1) := by
  have h : gq a 1 = 1 := by unfold gq; rw [Int.gcd_one_right]; rfl
  unfold frac
  rw [h, Int.tdiv_one, Int.tdiv_one, w64 (by omega), w64 (by omega)]
theorem fraction_ev' {a b : Int} (ha : -9223372036854775808 ≤ a ∧ a ≤ 9223372036854775807) (hb : 0 < b ∧ b ≤ 4611686018427387904) : Ev (fun k => line_fraction.f k a b) (frac a b) :=
  fraction_ev ha (by omega) (Int.ne_of_gt (gq_pos' hb).1)
theorem Lowest_ev' {a b : Int} (ha : -9223372036854775808 ≤ a ∧ a ≤ 9223372036854775807) (hb : 0 < b ∧ b ≤ 4611686018427387904) : Ev (fun k => glidepathbase_Lowest.f k a b) (frac a b) :=
  Lowest_ev ha (by omega) (Int.ne_of_gt (gq_pos' hb).1)
theorem fraction_one {a : Int} (ha : -4611686018427387904 ≤ a ∧ a ≤ 4611686018427387904) : Ev (fun k => line_fraction.f k a 1) (a, 1) := by
  rw [← frac_one ha]; exact fraction_ev' (by omega) (by omega)

/-- The sum of n powers from line i on, and their sum with the lines' numbers. -/
def sn (l : List Int) : Nat → Nat → Int
  | 0, _ => 0
  | n + 1, i => rd l (i : Int) + sn l n (i + 1)
def wn (l : List Int) : Nat → Nat → Int
  | 0, _ => 0
  | n + 1, i => (i : Int) * rd l (i : Int) + wn l n (i + 1)
theorem sn_in {l : List Int} (h : Good l) : ∀ (n i : Nat), i + n ≤ l.length → 0 ≤ sn l n i ∧ sn l n i ≤ 10000 * n
  | 0, i, _ => by simp [sn]
  | n + 1, i, hi => by
    have := sn_in h n (i + 1) (by omega)
    have := h.rd (i := i) (by omega)
    rw [sn]; omega
theorem wn_in {l : List Int} (h : Good l) : ∀ (n i : Nat), i + n ≤ l.length → 0 ≤ wn l n i ∧ wn l n i ≤ 160000 * n
  | 0, i, _ => by simp [wn]
  | n + 1, i, hi => by
    have := wn_in h n (i + 1) (by omega)
    have hr := h.rd (i := i) (by omega)
    have hl := h.1.2
    have h1 : 0 ≤ (i : Int) * rd l (i : Int) := Int.mul_nonneg (by omega) hr.1
    have h2 : (i : Int) * rd l (i : Int) ≤ 16 * 10000 := Int.mul_le_mul (by omega) hr.2 hr.1 (by omega)
    rw [wn]; omega
theorem sn_ge {l : List Int} (h : Good l) : ∀ (n i q : Nat), i + n ≤ l.length → i ≤ q → q < i + n → rd l (q : Int) ≤ sn l n i
  | 0, i, q, _, _, _ => by omega
  | n + 1, i, q, hi, hq, hq2 => by
    have a := sn_in h n (i + 1) (by omega)
    have b := h.rd (i := i) (by omega)
    rw [sn]
    by_cases e : q = i
    · subst e; omega
    · have := sn_ge h n (i + 1) q (by omega) (by omega) (by omega)
      omega
theorem sn_zero {l : List Int} (hz : ∀ q : Nat, q < l.length → rd l (q : Int) = 0) : ∀ (n i : Nat), i + n ≤ l.length → sn l n i = 0
  | 0, i, _ => rfl
  | n + 1, i, hi => by rw [sn, hz i (by omega), sn_zero hz n (i + 1) (by omega)]; rfl
theorem sn_snoc (l : List Int) : ∀ (n i : Nat), sn l (n + 1) i = sn l n i + rd l ((i + n : Nat) : Int)
  | 0, i => by simp [sn]
  | n + 1, i => by
    rw [sn, sn_snoc l n (i + 1), sn, show i + 1 + n = i + (n + 1) by omega]; omega
theorem max_zero {l : List Int} (h : Good l) : lmax l = 0 ↔ sn l l.length 0 = 0 := by
  have h0 := h.1.1
  obtain ⟨p, hp, hr⟩ := mem_rd (lmax_mem l (by omega))
  constructor
  · intro e
    refine sn_zero (fun q hq => ?_) _ _ (by omega)
    have a := h.rd hq
    have b := (lmax_le l (by omega) _).1 (Int.le_refl _) _ (rd_mem hq)
    omega
  · intro e
    have a := sn_ge h l.length 0 p (by omega) (by omega) (by omega)
    have b := h.rd hp
    omega

theorem sum_l0 (l : List Int) (hl : l.length < 1000) (hg : ∀ x ∈ l, 0 ≤ x ∧ x ≤ 10000) : ∀ (n i : Nat) (a : Int), i + n = l.length → 0 ≤ a → a ≤ 10000 * i →
    Ev (fun k => line_sum.l0 k a l (l.length : Int) (i : Int)) (a + sn l n i)
  | 0, i, a, h, _, _ => by
    refine Ev.succ (f := fun k => line_sum.l0 k a l (l.length : Int) (i : Int)) ?_
    simp only [line_sum.l0, show ¬ (i : Int) < (l.length : Int) by omega, if_false, sn, Int.add_zero]
    exact Ev.some
  | n + 1, i, a, h, h0, h1 => by
    refine Ev.succ (f := fun k => line_sum.l0 k a l (l.length : Int) (i : Int)) ?_
    have hr := hg _ (rd_mem (l := l) (i := i) (by omega))
    simp only [line_sum.l0, show (i : Int) < (l.length : Int) by omega, show (0 : Int) ≤ (i : Int) by omega, if_true, up (show i < 4611686018427387904 by omega), w64 (n := a + rd l (i : Int)) (by omega)]
    have := sum_l0 l hl hg n (i + 1) (a + rd l (i : Int)) (by omega) (by omega) (by omega)
    rw [sn, ← Int.add_assoc]
    exact this
theorem sum_ev (l : List Int) (hl : l.length < 1000) (hg : ∀ x ∈ l, 0 ≤ x ∧ x ≤ 10000) : Ev (fun k => line_sum.f k l) (sn l l.length 0) := by
  have := sum_l0 l hl hg l.length 0 0 (by omega) (by omega) (by omega)
  simpa [line_sum.f] using this
theorem Sum_l0 (l : List Int) (hl : l.length < 1000) (hg : ∀ x ∈ l, 0 ≤ x ∧ x ≤ 10000) : ∀ (n i : Nat) (a : Int), i + n = l.length → 0 ≤ a → a ≤ 10000 * i →
    Ev (fun k => glidepathref02_Sum.l0 k l a (i : Int)) (a + sn l n i)
  | 0, i, a, h, _, _ => by
    refine Ev.succ (f := fun k => glidepathref02_Sum.l0 k l a (i : Int)) ?_
    simp only [glidepathref02_Sum.l0, show ¬ (i : Int) < (l.length : Int) by omega, if_false, sn, Int.add_zero]
    exact Ev.some
  | n + 1, i, a, h, h0, h1 => by
    refine Ev.succ (f := fun k => glidepathref02_Sum.l0 k l a (i : Int)) ?_
    have hr := hg _ (rd_mem (l := l) (i := i) (by omega))
    simp only [glidepathref02_Sum.l0, show (i : Int) < (l.length : Int) by omega, show (0 : Int) ≤ (i : Int) by omega, if_true, up (show i < 4611686018427387904 by omega), w64 (n := a + rd l (i : Int)) (by omega)]
    have := Sum_l0 l hl hg n (i + 1) (a + rd l (i : Int)) (by omega) (by omega) (by omega)
    rw [sn, ← Int.add_assoc]
    exact this
theorem Sum_ev (l : List Int) (hl : l.length < 1000) (hg : ∀ x ∈ l, 0 ≤ x ∧ x ≤ 10000) : Ev (fun k => glidepathref02_Sum.f k l) (sn l l.length 0) := by
  have := Sum_l0 l hl hg l.length 0 0 (by omega) (by omega) (by omega)
  simpa [glidepathref02_Sum.f] using this
theorem rd_slice {l : List Int} {t f i : Nat} (h : f + i < t) (ht : t ≤ l.length) : rd ((l.take t).drop f) (i : Int) = rd l ((f + i : Nat) : Int) := by
  rw [rd_nat, rd_nat, List.getD_eq_getElem?_getD, List.getD_eq_getElem?_getD, List.getElem?_drop, List.getElem?_take, if_pos h]
theorem sn_slice {l : List Int} {t f : Nat} (ht : t ≤ l.length) : ∀ (n i : Nat), f + i + n ≤ t → sn ((l.take t).drop f) n i = sn l n (f + i)
  | 0, _, _ => rfl
  | n + 1, i, h => by rw [sn, sn, rd_slice (by omega) ht, sn_slice ht n (i + 1) (by omega), Nat.add_assoc]
theorem slice_good {l : List Int} {t f : Nat} (hg : ∀ x ∈ l, 0 ≤ x ∧ x ≤ 10000) : ∀ x ∈ (l.take t).drop f, 0 ≤ x ∧ x ≤ 10000 :=
  fun x hx => hg x (List.mem_of_mem_take (List.mem_of_mem_drop hx))

theorem peaksFrom_first (l : List Int) : ∀ (n i : Nat) (p : Int) (r : List Int), peaksFrom l n i = p :: r → ∀ q : Nat, i ≤ q → (q : Int) < p → ¬ pk l q = true
  | 0, i, p, r, h, _, _, _ => by simp [peaksFrom] at h
  | n + 1, i, p, r, h, q, hq, hp => by
    rw [peaksFrom] at h
    by_cases e : pk l i = true
    · rw [if_pos e] at h
      have := (List.cons.inj h).1
      omega
    · rw [if_neg e] at h
      by_cases e2 : q = i
      · subst e2; exact e
      · exact peaksFrom_first l n (i + 1) p r h q (by omega) hp
/-- The first line with the maximum power. -/
def fp (l : List Int) : Nat := ((peaks l).headD 0).toNat
theorem fp_is (l : List Int) (h0 : 0 < l.length) : fp l < l.length ∧ rd l (fp l : Int) = lmax l ∧ (∀ q : Nat, q < fp l → rd l (q : Int) ≠ lmax l) ∧ ∃ r, peaks l = (fp l : Int) :: r := by
  obtain ⟨p, r, e, hp, hr⟩ := peaks_cons l h0
  have hf : fp l = p := by unfold fp; rw [e]; simp
  rw [hf]
  refine ⟨hp, hr, fun q hq hrq => ?_, r, e⟩
  refine peaksFrom_first l l.length 0 p r e q (by omega) (by omega) ?_
  unfold pk
  rw [hrq]
  simpa using (lmax_le l h0 _).1 (Int.le_refl _)
theorem idx132_l0 (l : List Int) (x : Int) (hl : l.length < 1000000) (p : Nat) (hp : p < l.length) (hr : rd l (p : Int) = x) (hf : ∀ q : Nat, q < p → rd l (q : Int) ≠ x) : ∀ (n i : Nat), i + n = p → Ev (fun k => line_spectrum_int_132.l0 k l x (l.length : Int) (i : Int)) (p : Int)
  | 0, i, h => by
    refine Ev.succ (f := fun k => line_spectrum_int_132.l0 k l x (l.length : Int) (i : Int)) ?_
    obtain rfl : i = p := by omega
    simp only [line_spectrum_int_132.l0, show (i : Int) < (l.length : Int) by omega, show (0 : Int) ≤ (i : Int) by omega, if_true, hr]
    exact Ev.some
  | n + 1, i, h => by
    refine Ev.succ (f := fun k => line_spectrum_int_132.l0 k l x (l.length : Int) (i : Int)) ?_
    simp only [line_spectrum_int_132.l0, show (i : Int) < (l.length : Int) by omega, show (0 : Int) ≤ (i : Int) by omega, if_true, show ¬ x = rd l (i : Int) from fun e => hf i (by omega) e.symm, if_false, up (show i < 4611686018427387904 by omega)]
    exact idx132_l0 l x hl p hp hr hf n (i + 1) (by omega)
theorem peak_ev (l : List Int) (h0 : 0 < l.length) (hl : l.length < 1000000) : Ev (fun k => line_spectrum_peak.f k l) (fp l : Int) := by
  obtain ⟨h1, h2, h3, _⟩ := fp_is l h0
  unfold line_spectrum_peak.f
  refine Ev.bind (max106_ev l h0 (by omega)) ?_
  refine Ev.bind (f := fun k => line_spectrum_int_132.f k l (lmax l)) (idx132_l0 l _ hl (fp l) h1 h2 h3 (fp l) 0 (by omega)) Ev.some
theorem centroid_l0 {l : List Int} (hg : Good l) (f t : Nat) (hft : f ≤ t) (ht : t ≤ l.length) (hs : 0 < sn l (t - f) f) : ∀ (n i : Nat) (a : Int), i + n = t → 0 ≤ a → a ≤ 160000 * i →
    Ev (fun k => line_spectrum_centroid.l0 k l (f : Int) (t : Int) a (i : Int)) (frac (a + wn l n i) (sn l (t - f) f))
  | 0, i, a, h, a0, a1 => by
    refine Ev.succ (f := fun k => line_spectrum_centroid.l0 k l (f : Int) (t : Int) a (i : Int)) ?_
    have hl := hg.1.2
    have hb := sn_in hg (t - f) f (by omega)
    have hS := sum_ev ((l.take t).drop f) (by simp; omega) (slice_good hg.2)
    rw [show ((l.take t).drop f).length = t - f by simp; omega, sn_slice ht (t - f) 0 (by omega), Nat.add_zero] at hS
    simp only [line_spectrum_centroid.l0, show ¬ (i : Int) < (t : Int) by omega, if_false, show (0 : Int) ≤ (f : Int) by omega, show (f : Int) ≤ (t : Int) by omega, show (t : Int) ≤ (l.length : Int) by omega, if_true, Int.toNat_natCast, wn, Int.add_zero]
    refine Ev.bind hS ?_
    exact Ev.bind (fraction_ev' (by omega) (by omega)) Ev.some
  | n + 1, i, a, h, a0, a1 => by
    refine Ev.succ (f := fun k => line_spectrum_centroid.l0 k l (f : Int) (t : Int) a (i : Int)) ?_
    have hl := hg.1.2
    have hr := hg.rd (i := i) (by omega)
    have h1 : 0 ≤ (i : Int) * rd l (i : Int) := Int.mul_nonneg (by omega) hr.1
    have h2 : (i : Int) * rd l (i : Int) ≤ 16 * 10000 := Int.mul_le_mul (by omega) hr.2 hr.1 (by omega)
    simp only [line_spectrum_centroid.l0, show (i : Int) < (t : Int) by omega, show (0 : Int) ≤ (i : Int) by omega, show (i : Int) < (l.length : Int) by omega, if_true, up (show i < 4611686018427387904 by omega), w64 (n := (i : Int) * rd l (i : Int)) (by omega), w64 (n := a + (i : Int) * rd l (i : Int)) (by omega)]
    have := centroid_l0 hg f t hft ht hs n (i + 1) (a + (i : Int) * rd l (i : Int)) (by omega) (by omega) (by omega)
    rw [wn, ← Int.add_assoc]
    exact this
theorem centroid_ev {l : List Int} (hg : Good l) (f t : Nat) (hft : f ≤ t) (ht : t ≤ l.length) (hs : 0 < sn l (t - f) f) :
    Ev (fun k => line_spectrum_centroid.f k l (f : Int) (t : Int)) (frac (wn l (t - f) f) (sn l (t - f) f)) := by
  have := centroid_l0 hg f t hft ht hs (t - f) f 0 (by omega) (by omega) (by omega)
  simpa [line_spectrum_centroid.f] using this
def par (l : List Int) : Int × Int :=
  if fp l = 0 ∨ fp l + 1 = l.length then ((fp l : Int), 1) else
    if 2 * rd l (fp l : Int) - rd l ((fp l - 1 : Nat) : Int) - rd l ((fp l + 1 : Nat) : Int) ≤ 0 then ((fp l : Int), 1) else
      frac (2 * (2 * rd l (fp l : Int) - rd l ((fp l - 1 : Nat) : Int) - rd l ((fp l + 1 : Nat) : Int)) * (fp l : Int) + rd l ((fp l + 1 : Nat) : Int) - rd l ((fp l - 1 : Nat) : Int)) (2 * (2 * rd l (fp l : Int) - rd l ((fp l - 1 : Nat) : Int) - rd l ((fp l + 1 : Nat) : Int)))
theorem par_num {l : List Int} (hg : Good l) {p : Nat} (h0 : 1 ≤ p) (h1 : p + 1 < l.length) {d : Int} (hd : d = 2 * rd l (p : Int) - rd l ((p - 1 : Nat) : Int) - rd l ((p + 1 : Nat) : Int)) (hp : 0 < d) :
    d ≤ 20000 ∧ 0 ≤ 2 * d * (p : Int) ∧ 2 * d * (p : Int) ≤ 640000 := by
  have hl := hg.1.2
  have a := hg.rd (i := p) (by omega)
  have b := hg.rd (i := p - 1) (by omega)
  have c := hg.rd (i := p + 1) (by omega)
  have d1 : d ≤ 20000 := by omega
  exact ⟨d1, Int.mul_nonneg (by omega) (by omega), Int.le_trans (Int.mul_le_mul (show 2 * d ≤ 40000 by omega) (show (p : Int) ≤ 16 by omega) (by omega) (by omega)) (by omega)⟩
theorem parabola_ev {l : List Int} (hg : Good l) : Ev (fun k => line_spectrum_parabola.f k l) (par l) := by
  have hl := hg.1
  obtain ⟨f1, f2, f3, _⟩ := fp_is l (by omega)
  unfold line_spectrum_parabola.f
  refine Ev.bind (peak_ev l (by omega) (by omega)) ?_
  have hj : ∀ b : Bool, (b = true ↔ (fp l = 0 ∨ fp l + 1 = l.length)) → Ev (fun k => line_spectrum_parabola.j0 k l (fp l : Int) b) (par l) := fun b hb => by
    refine Ev.succ (f := fun k => line_spectrum_parabola.j0 k l (fp l : Int) b) ?_
    unfold par
    by_cases e : b = true
    · rw [if_pos (hb.1 e)]
      simp only [line_spectrum_parabola.j0, e, if_true]
      exact Ev.bind (fraction_one (by omega)) Ev.some
    · have ne : ¬ (fp l = 0 ∨ fp l + 1 = l.length) := fun h => e (hb.2 h)
      rw [if_neg ne]
      have r0 := hg.rd (i := fp l) (by omega)
      have r1 := hg.rd (i := fp l - 1) (by omega)
      have r2 := hg.rd (i := fp l + 1) (by omega)
      have w1 : wrap64 ((fp l : Int) - 1) = ((fp l - 1 : Nat) : Int) := by unfold wrap64; omega
      have w2 : wrap64 ((fp l : Int) + 1) = ((fp l + 1 : Nat) : Int) := up (by omega)
      obtain ⟨d, hd⟩ : ∃ d, d = 2 * rd l (fp l : Int) - rd l ((fp l - 1 : Nat) : Int) - rd l ((fp l + 1 : Nat) : Int) := ⟨_, rfl⟩
      simp only [line_spectrum_parabola.j0, e, w1, w2, if_false, show (0 : Int) ≤ (fp l : Int) by omega, show (fp l : Int) < (l.length : Int) by omega, show (0 : Int) ≤ ((fp l - 1 : Nat) : Int) by omega, show ((fp l - 1 : Nat) : Int) < (l.length : Int) by omega, show (0 : Int) ≤ ((fp l + 1 : Nat) : Int) by omega, show ((fp l + 1 : Nat) : Int) < (l.length : Int) by omega, if_true,
        w64 (n := 2 * rd l (fp l : Int)) (by omega), w64 (n := 2 * rd l (fp l : Int) - rd l ((fp l - 1 : Nat) : Int)) (by omega), w64 (n := 2 * rd l (fp l : Int) - rd l ((fp l - 1 : Nat) : Int) - rd l ((fp l + 1 : Nat) : Int)) (by omega), ← hd, w64 (n := d) (by omega), w64 (n := 2 * d) (by omega), Bool.false_eq_true]
      by_cases q : d ≤ 0
      · simp only [q, if_true]
        exact Ev.bind (fraction_one (by omega)) Ev.some
      · obtain ⟨p1, p2, p3⟩ := par_num hg (by omega) (by omega) hd (by omega)
        simp only [q, if_false, w64 (n := 2 * d * (fp l : Int)) (by omega), w64 (n := 2 * d * (fp l : Int) + rd l ((fp l + 1 : Nat) : Int)) (by omega), w64 (n := 2 * d * (fp l : Int) + rd l ((fp l + 1 : Nat) : Int) - rd l ((fp l - 1 : Nat) : Int)) (by omega)]
        exact Ev.bind (fraction_ev' (by omega) (by omega)) Ev.some
  by_cases z : fp l = 0
  · have z' : ((fp l : Nat) : Int) = 0 := by omega
    have := hj true (by simp [z])
    simp only [z'] at this ⊢
    simpa using this
  · have z' : ¬ ((fp l : Nat) : Int) = 0 := by omega
    simp only [z', if_false]
    refine hj _ ?_
    rw [w64 (by omega), beq_iff_eq]
    omega
def mdF (l : List Int) : Nat → Nat → Nat
  | 0, i => i
  | n + 1, i => if sn l l.length 0 ≤ 2 * sn l (i + 1) 0 then i else mdF l n (i + 1)
def md (l : List Int) : Nat := mdF l l.length 0
theorem mdF_lt (l : List Int) (hg : Good l) : ∀ (n i : Nat), 0 < n → i + n = l.length → mdF l n i < l.length
  | n + 1, i, _, h => by
    rw [mdF]
    by_cases e : sn l l.length 0 ≤ 2 * sn l (i + 1) 0
    · rw [if_pos e]; omega
    · rw [if_neg e]
      have : n ≠ 0 := fun h0 => by
        subst h0
        have hs := sn_in hg l.length 0 (by omega)
        exact e (by rw [show i + 1 = l.length by omega]; omega)
      exact mdF_lt l hg n (i + 1) (by omega) (by omega)
theorem median_l0 {l : List Int} (hg : Good l) : ∀ (n i : Nat), 0 < n → i + n = l.length →
    Ev (fun k => line_spectrum_median.l0 k (sn l l.length 0) (sn l i 0) l (l.length : Int) (i : Int)) ((mdF l n i : Int), 1)
  | n + 1, i, _, h => by
    have hl := hg.1
    refine Ev.succ (f := fun k => line_spectrum_median.l0 k (sn l l.length 0) (sn l i 0) l (l.length : Int) (i : Int)) ?_
    have hs := sn_in hg (i + 1) 0 (by omega)
    have e1 : sn l i 0 + rd l (i : Int) = sn l (i + 1) 0 := by rw [sn_snoc, Nat.zero_add]
    simp only [line_spectrum_median.l0, show (i : Int) < (l.length : Int) by omega, show (0 : Int) ≤ (i : Int) by omega, if_true, e1, w64 (n := sn l (i + 1) 0) (by omega), w64 (n := 2 * sn l (i + 1) 0) (by omega), up (show i < 4611686018427387904 by omega)]
    rw [mdF]
    by_cases e : sn l l.length 0 ≤ 2 * sn l (i + 1) 0
    · simp only [show 2 * sn l (i + 1) 0 ≥ sn l l.length 0 from e, e, if_true]
      exact Ev.bind (fraction_one (by omega)) Ev.some
    · have : n ≠ 0 := fun h0 => by
        subst h0
        have hs := sn_in hg l.length 0 (by omega)
        exact e (by rw [show i + 1 = l.length by omega]; omega)
      simp only [show ¬ 2 * sn l (i + 1) 0 ≥ sn l l.length 0 from e, e, if_false]
      exact median_l0 hg n (i + 1) (by omega) (by omega)
theorem median_ev {l : List Int} (hg : Good l) : Ev (fun k => line_spectrum_median.f k l) ((md l : Int), 1) := by
  have hl := hg.1
  unfold line_spectrum_median.f
  refine Ev.bind (sum_ev l (by omega) hg.2) ?_
  exact median_l0 hg l.length 0 (by omega) (by omega)
def est (l : List Int) (kind : Int) : Int × Int :=
  if sn l l.length 0 = 0 then (0, 1) else if kind = 1 then frac (wn l l.length 0) (sn l l.length 0) else if kind = 2 then par l else if kind = 3 then ((md l : Int), 1) else ((fp l : Int), 1)
theorem estimate_ev {l : List Int} (hg : Good l) {kind : Int} (hk : 0 ≤ kind ∧ kind ≤ 3) : Ev (fun k => line_spectrum_estimate.f k l kind) (est l kind) := by
  have hl := hg.1
  have hs := sn_in hg l.length 0 (by omega)
  obtain ⟨f1, _⟩ := fp_is l (by omega)
  unfold line_spectrum_estimate.f est
  refine Ev.bind (max106_ev l (by omega) (by omega)) ?_
  by_cases z : sn l l.length 0 = 0
  · simp only [(max_zero hg).2 z, z, if_true]
    exact fraction_one (by omega)
  · have z' : ¬ lmax l = 0 := fun h => z ((max_zero hg).1 h)
    simp only [z, z', if_false]
    by_cases k0 : kind = 0
    · subst k0
      simp only [if_true, show ¬ (0 : Int) = 1 by decide, show ¬ (0 : Int) = 2 by decide, show ¬ (0 : Int) = 3 by decide, if_false]
      unfold line_spectrum_highest.f
      exact Ev.bind (peak_ev l (by omega) (by omega)) (Ev.bind (fraction_one (by omega)) Ev.some)
    · by_cases k1 : kind = 1
      · subst k1
        simp only [if_true, show ¬ (1 : Int) = 0 by decide, if_false]
        unfold line_spectrum_whole.f
        exact Ev.bind (centroid_ev hg 0 l.length (by omega) (by omega) (by rw [Nat.sub_zero]; omega)) Ev.some
      · by_cases k2 : kind = 2
        · subst k2
          simp only [if_true, show ¬ (2 : Int) = 0 by decide, show ¬ (2 : Int) = 1 by decide, if_false]
          exact parabola_ev hg
        · obtain rfl : kind = 3 := by omega
          simp only [if_true, show ¬ (3 : Int) = 0 by decide, show ¬ (3 : Int) = 1 by decide, show ¬ (3 : Int) = 2 by decide, if_false]
          exact median_ev hg
theorem awake_ev : Ev (fun k => glidepathlaw02_awake.f k) true :=
  Ev.of_mono (k := 40) (fun k => glidepathlaw02_awake.mono k) (by kernel_rfl)
theorem CopyInts_eq (l : List Int) (h : l.length < 17592186044416) : glidepathbase_CopyInts.f l = some l := by
  unfold glidepathbase_CopyInts.f
  simp [h]
theorem idxF_ok (m : Int) : ∀ l : List Int, ¬ idxF (bad m) l ≥ 0 → ∀ x ∈ l, 0 ≤ x ∧ x ≤ m
  | [], _, _, hx => by cases hx
  | a :: r, h, x, hx => by
    rw [idxF_cons] at h
    cases e : bad m a with
    | true => rw [e] at h; simp at h
    | false =>
      rw [e] at h
      simp only [Bool.false_eq_true, if_false] at h
      have h' : ¬ idxF (bad m) r ≥ 0 := fun q => by rw [if_pos q] at h; exact h (by omega)
      rcases List.mem_cons.1 hx with rfl | hx
      · have := within_bad m x
        rw [e] at this
        simpa using this
      · exact idxF_ok m r h' x hx
theorem lErr_ok {l : List Int} {n : Nat} {m : Int} (h : (lErr l n m).2 = 0) : ∀ x ∈ l, 0 ≤ x ∧ x ≤ m := by
  have hlen := lErr_len h
  unfold lErr at h
  rw [if_neg (by omega), if_neg (by omega)] at h
  by_cases q : idxF (bad m) l ≥ 0
  · rw [if_pos q] at h; simp at h
  · exact idxF_ok m l q
def kErr (kind : Int) : Int := if 0 ≤ kind ∧ kind ≤ 3 then 0 else 14
theorem kindErr_eq (a : Int) : line_kindErr.f a = some (kErr a) := by
  unfold line_kindErr.f kErr
  simp only [within_eq, unless_eq, Option.bind_some, decide_eq_true_eq]
theorem kErr_ok {a : Int} (h : kErr a = 0) : 0 ≤ a ∧ a ≤ 3 := by
  unfold kErr at h
  by_cases q : 0 ≤ a ∧ a ≤ 3
  · exact q
  · rw [if_neg q] at h; simp at h

theorem Cmp_eq (a b c d : Int) : glidepathbase_Cmp.f a b c d = some (if wrap64 (a * d) < wrap64 (c * b) then -1 else if wrap64 (a * d) > wrap64 (c * b) then 1 else 0) := by
  unfold glidepathbase_Cmp.f
  split
  · rfl
  · split <;> rfl
theorem cmp_pos {x y : Int} : (if x < y then (-1 : Int) else if x > y then 1 else 0) > 0 ↔ y < x := by
  split
  · omega
  · split <;> omega
theorem lErr_good {l : List Int} (h : (lErr l 16 10000).2 = 0) : Good l := ⟨lErr_len h, lErr_ok h⟩
theorem idxF_good (m : Int) : ∀ l : List Int, (∀ x ∈ l, 0 ≤ x ∧ x ≤ m) → ¬ idxF (bad m) l ≥ 0
  | [], _ => by rw [idxF_nil]; omega
  | a :: r, h => by
    have ih := idxF_good m r (fun x hx => h x (List.mem_cons_of_mem _ hx))
    have ha := within_bad m a
    simp only [h a List.mem_cons_self, and_self, decide_true] at ha
    have hb : bad m a = false := by cases e : bad m a with
      | false => rfl
      | true => rw [e] at ha; cases ha
    rw [idxF_cons, hb]
    simp only [Bool.false_eq_true, if_false, ih]
    omega
theorem lErr_of_good {l : List Int} (h : Good l) : (lErr l 16 10000).2 = 0 := by
  have hl := h.1
  unfold lErr
  rw [if_neg (by omega), if_neg (by omega), if_neg (idxF_good 10000 l h.2)]
theorem SpectrumErr_ev (l : List Int) : Ev (fun k => glidepathref02_SpectrumErr.f k l) (lErr l 16 10000).2 := Ev.bind (refCheckSpectrum_ev l) Ev.some
theorem open_eq (l : List Int) : line_open.f l = some (l, (lErr l 16 10000).2) := by
  unfold line_open.f
  rw [lineCheckSpectrum_eq]; rfl
theorem PeakOf_ev (l : List Int) : Ev (fun k => line_PeakOf.f k l) (if (lErr l 16 10000).2 = 0 then ((fp l : Int), 0) else (0, (lErr l 16 10000).2)) := by
  unfold line_PeakOf.f
  rw [open_eq]
  simp only [Option.bind_some]
  by_cases h1 : (lErr l 16 10000).2 = 0
  · have hg := lErr_good h1
    have hl := hg.1
    simp only [h1, if_true]
    exact Ev.bind (peak_ev l (by omega) (by omega)) Ev.some
  · simp only [h1, if_false]; exact Ev.some
theorem Estimated_ev (l : List Int) (kind : Int) : Ev (fun k => line_Estimated.f k l kind) (if (lErr l 16 10000).2 = 0 then (if kErr kind = 0 then ((est l kind).1, (est l kind).2, 0) else (0, 0, kErr kind)) else (0, 0, (lErr l 16 10000).2)) := by
  unfold line_Estimated.f
  rw [open_eq, kindErr_eq]
  simp only [Option.bind_some]
  refine Ev.bind (first_ev _ (by simp)) ?_
  by_cases h1 : (lErr l 16 10000).2 = 0
  · by_cases h2 : kErr kind = 0
    · simp only [fnz, h1, h2, if_true]
      exact Ev.bind (estimate_ev (lErr_good h1) (kErr_ok h2)) Ev.some
    · simp only [fnz, h1, h2, if_true, if_false]; exact Ev.some
  · simp only [fnz, h1, if_false]; exact Ev.some
theorem frac_spec {a b : Int} (hb : 0 < b ∧ b ≤ 4611686018427387904) (ha : -4611686018427387904 ≤ a ∧ a ≤ 4611686018427387904) : ∃ g : Int, 0 < g ∧ a = (frac a b).1 * g ∧ b = (frac a b).2 * g ∧ Int.gcd (frac a b).1 (frac a b).2 = 1 := by
  obtain ⟨h1, h2, h3⟩ := gq_pos' (a := a) hb
  have n1 := frac_num hb ha
  have n2 := frac_den (a := a) hb
  have da : gq a b ∣ a := by rw [h3]; exact Int.gcd_dvd_left _ _
  have db : gq a b ∣ b := by rw [h3]; exact Int.gcd_dvd_right _ _
  have ea : Int.tdiv a (gq a b) = (frac a b).1 := by
    show _ = wrap64 _
    have : (Int.tdiv a (gq a b)).natAbs ≤ a.natAbs := by rw [Int.natAbs_tdiv]; exact Nat.div_le_self _ _
    rw [w64 (by omega)]
  have eb : Int.tdiv b (gq a b) = (frac a b).2 := by
    show _ = wrap64 _
    have : (Int.tdiv b (gq a b)).natAbs ≤ b.natAbs := by rw [Int.natAbs_tdiv]; exact Nat.div_le_self _ _
    rw [w64 (by omega)]
  refine ⟨gq a b, h1, ?_, ?_, ?_⟩
  · rw [← ea, Int.tdiv_mul_cancel da]
  · rw [← eb, Int.tdiv_mul_cancel db]
  · rw [← ea, ← eb, h3]
    rw [h3] at da db h1
    obtain ⟨x, hx⟩ := da
    obtain ⟨y, hy⟩ := db
    have hg : (Int.gcd a b : Int) ≠ 0 := by omega
    have e1 : Int.tdiv a (Int.gcd a b : Int) = x := by
      have : Int.tdiv ((Int.gcd a b : Int) * x) (Int.gcd a b : Int) = x := Int.mul_tdiv_cancel_left x hg
      rw [← hx] at this; exact this
    have e2 : Int.tdiv b (Int.gcd a b : Int) = y := by
      have : Int.tdiv ((Int.gcd a b : Int) * y) (Int.gcd a b : Int) = y := Int.mul_tdiv_cancel_left y hg
      rw [← hy] at this; exact this
    rw [e1, e2]
    have h : Int.gcd a b = (Int.gcd a b) * Int.gcd x y := by
      have q : Int.gcd a b = Int.gcd ((Int.gcd a b : Int) * x) ((Int.gcd a b : Int) * y) := by rw [← hx, ← hy]
      rw [Int.gcd_mul_left, Int.natAbs_natCast] at q
      exact q
    have p : 0 < Int.gcd a b := by omega
    have : Int.gcd a b * 1 = Int.gcd a b * Int.gcd x y := by rw [Nat.mul_one]; exact h
    exact (Nat.eq_of_mul_eq_mul_left p this).symm
/-- A quotient's parts in lowest terms are known by the quotient. -/
theorem frac_mul {a b c : Int} (hc : 0 < c) (hb : 0 < b) (hbc : b * c ≤ 4611686018427387904) (ha : (a * c).natAbs ≤ 4611686018427387904) : frac (a * c) (b * c) = frac a b := by
  have hb1 : b ≤ b * c := by
    have := Int.mul_le_mul_of_nonneg_left (show (1 : Int) ≤ c by omega) (show (0 : Int) ≤ b by omega)
    rw [Int.mul_one] at this; exact this
  have hbc0 : 0 < b * c := by omega
  obtain ⟨h1, h2, h3⟩ := gq_pos' (a := a) (b := b) ⟨hb, by omega⟩
  obtain ⟨k1, k2, k3⟩ := gq_pos' (a := a * c) (b := b * c) ⟨hbc0, hbc⟩
  have e : gq (a * c) (b * c) = gq a b * c := by
    rw [k3, h3, Int.gcd_mul_right]
    push_cast
    rw [Int.natAbs_of_nonneg (show 0 ≤ c by omega)]
  unfold frac
  rw [e, Int.mul_tdiv_mul_of_pos_left _ _ hc, Int.mul_tdiv_mul_of_pos_left _ _ hc]

/-- In lowest terms, small, from 0 to n. -/
def Nice (f : Int × Int) (n : Int) : Prop := 0 < f.2 ∧ f.2 ≤ 160000 ∧ Int.gcd f.1 f.2 = 1 ∧ 0 ≤ f.1 ∧ f.1 ≤ n * f.2
theorem nice_whole {p : Nat} {n : Int} (h : (p : Int) ≤ n) : Nice ((p : Int), 1) n := ⟨by simp, by simp, by simp, by simp only []; omega, by simp only []; omega⟩
theorem nice_frac {a b n : Int} (hb : 0 < b ∧ b ≤ 160000) (ha : 0 ≤ a ∧ a ≤ 4611686018427387904) (h : a ≤ n * b) : Nice (frac a b) n := by
  obtain ⟨g, g0, ea, eb, hg⟩ := frac_spec (a := a) (b := b) (by omega) (by omega)
  have d := frac_den (a := a) (b := b) (by omega)
  have m := frac_num (a := a) (b := b) (by omega) (by omega)
  refine ⟨d.1, by omega, hg, m.2 ha.1, ?_⟩
  have h' : (frac a b).1 * g ≤ n * (frac a b).2 * g := by rw [Int.mul_assoc, ← ea, ← eb]; exact h
  exact Int.le_of_mul_le_mul_right h' g0
theorem wn_le {l : List Int} (h : Good l) (m : Int) : ∀ (n i : Nat), i + n ≤ l.length → ((i + n : Nat) : Int) ≤ m + 1 → wn l n i ≤ m * sn l n i
  | 0, i, _, _ => by simp [wn, sn]
  | n + 1, i, hi, hm => by
    have ih := wn_le h m n (i + 1) (by omega) (by omega)
    have hr := h.rd (i := i) (by omega)
    have := Int.mul_le_mul_of_nonneg_right (show (i : Int) ≤ m by omega) hr.1
    rw [wn, sn, Int.mul_add]; omega
theorem par_parts {l : List Int} (hg : Good l) (hp : ¬ (fp l = 0 ∨ fp l + 1 = l.length)) {d : Int} (hd : d = 2 * rd l (fp l : Int) - rd l ((fp l - 1 : Nat) : Int) - rd l ((fp l + 1 : Nat) : Int)) :
    rd l ((fp l + 1 : Nat) : Int) - rd l ((fp l - 1 : Nat) : Int) ≤ d ∧ rd l ((fp l - 1 : Nat) : Int) - rd l ((fp l + 1 : Nat) : Int) ≤ d := by
  have hl := hg.1
  obtain ⟨f1, f2, f3, _⟩ := fp_is l (by omega)
  have a := (lmax_le l (by omega) _).1 (Int.le_refl _) _ (rd_mem (l := l) (i := fp l - 1) (by omega))
  have b := (lmax_le l (by omega) _).1 (Int.le_refl _) _ (rd_mem (l := l) (i := fp l + 1) (by omega))
  omega
theorem par_nice {l : List Int} (hg : Good l) : Nice (par l) ((l.length : Int) - 1) ∧ (2 * ((par l).1 - (fp l : Int) * (par l).2)).natAbs ≤ (par l).2.natAbs := by
  have hl := hg.1
  obtain ⟨f1, f2, f3, _⟩ := fp_is l (by omega)
  unfold par
  by_cases e : fp l = 0 ∨ fp l + 1 = l.length
  · rw [if_pos e]; exact ⟨nice_whole (by omega), by simp⟩
  · rw [if_neg e]
    obtain ⟨d, hd⟩ : ∃ d, d = 2 * rd l (fp l : Int) - rd l ((fp l - 1 : Nat) : Int) - rd l ((fp l + 1 : Nat) : Int) := ⟨_, rfl⟩
    rw [← hd]
    by_cases q : d ≤ 0
    · rw [if_pos q]; exact ⟨nice_whole (by omega), by simp⟩
    · rw [if_neg q]
      have r1 := hg.rd (i := fp l - 1) (by omega)
      have r2 := hg.rd (i := fp l + 1) (by omega)
      obtain ⟨p1, p2, p3⟩ := par_num hg (by omega) (by omega) hd (by omega)
      obtain ⟨s1, s2⟩ := par_parts hg e hd
      have k1 : 2 * d * 1 ≤ 2 * d * (fp l : Int) := Int.mul_le_mul_of_nonneg_left (by omega) (by omega)
      have k2 : 2 * d * ((fp l : Int) + 1) ≤ 2 * d * ((l.length : Int) - 1) := Int.mul_le_mul_of_nonneg_left (by omega) (by omega)
      rw [Int.mul_add] at k2
      rw [Int.mul_comm (2 * d) ((l.length : Int) - 1)] at k2
      refine ⟨nice_frac (by omega) (by omega) (by omega), ?_⟩
      obtain ⟨g, g0, ea, eb, _⟩ := frac_spec (a := 2 * d * (fp l : Int) + rd l ((fp l + 1 : Nat) : Int) - rd l ((fp l - 1 : Nat) : Int)) (b := 2 * d) (by omega) (by omega)
      generalize frac (2 * d * (fp l : Int) + rd l ((fp l + 1 : Nat) : Int) - rd l ((fp l - 1 : Nat) : Int)) (2 * d) = f at ea eb ⊢
      have hN : (2 * (f.1 - (fp l : Int) * f.2)) * g = 2 * (rd l ((fp l + 1 : Nat) : Int) - rd l ((fp l - 1 : Nat) : Int)) := by
        have : 2 * d * (fp l : Int) = (fp l : Int) * f.2 * g := by rw [Int.mul_assoc (fp l : Int), ← eb, Int.mul_comm]
        rw [Int.mul_assoc, Int.sub_mul, ← ea, ← this]
        omega
      have habs : (2 * (f.1 - (fp l : Int) * f.2)).natAbs * g.natAbs ≤ f.2.natAbs * g.natAbs := by
        rw [← Int.natAbs_mul, ← Int.natAbs_mul, hN, ← eb]
        omega
      exact Nat.le_of_mul_le_mul_right habs (by omega)
theorem est_nice {l : List Int} (hg : Good l) (kind : Int) : Nice (est l kind) ((l.length : Int) - 1) := by
  have hl := hg.1
  have hs := sn_in hg l.length 0 (by omega)
  have hw := wn_in hg l.length 0 (by omega)
  obtain ⟨f1, _⟩ := fp_is l (by omega)
  have hm := mdF_lt l hg l.length 0 (by omega) (by omega)
  unfold est
  by_cases z : sn l l.length 0 = 0
  · rw [if_pos z]; exact nice_whole (p := 0) (by omega)
  · rw [if_neg z]
    split
    · exact nice_frac (by omega) (by omega) (wn_le hg _ _ _ (by omega) (by omega))
    · split
      · exact (par_nice hg).1
      · split
        · exact nice_whole (by show ((mdF l l.length 0 : Nat) : Int) ≤ _; omega)
        · exact nice_whole (by omega)

def tmF (l : List Int) (c : Int) : Nat → Nat → List Int
  | 0, _ => []
  | n + 1, i => c * rd l (i : Int) :: tmF l c n (i + 1)
theorem tmF_length (l : List Int) (c : Int) : ∀ n i, (tmF l c n i).length = n
  | 0, _ => rfl
  | n + 1, i => by rw [tmF, List.length_cons, tmF_length l c n (i + 1)]
theorem rd_cons_succ (x : Int) (l : List Int) (j : Nat) : rd (x :: l) ((j + 1 : Nat) : Int) = rd l (j : Int) := by rw [rd_nat, rd_nat]; rfl
theorem rd_cons_zero (x : Int) (l : List Int) : rd (x :: l) ((0 : Nat) : Int) = x := by rw [rd_nat]; rfl
theorem tmF_rd (l : List Int) (c : Int) : ∀ (n i j : Nat), j < n → rd (tmF l c n i) (j : Int) = c * rd l ((i + j : Nat) : Int)
  | 0, _, j, h => by omega
  | n + 1, i, 0, _ => by rw [tmF, rd_cons_zero, Nat.add_zero]
  | n + 1, i, j + 1, h => by rw [tmF, rd_cons_succ, tmF_rd l c n (i + 1) j (by omega), show i + 1 + j = i + (j + 1) by omega]
theorem sn_times {l m : List Int} {c : Int} (h : ∀ j : Nat, j < l.length → rd m (j : Int) = c * rd l (j : Int)) : ∀ (n i : Nat), i + n ≤ l.length → sn m n i = c * sn l n i
  | 0, i, _ => by simp [sn]
  | n + 1, i, hi => by rw [sn, sn, h i (by omega), sn_times h n (i + 1) (by omega), Int.mul_add]
theorem wn_times {l m : List Int} {c : Int} (h : ∀ j : Nat, j < l.length → rd m (j : Int) = c * rd l (j : Int)) : ∀ (n i : Nat), i + n ≤ l.length → wn m n i = c * wn l n i
  | 0, i, _ => by simp [wn]
  | n + 1, i, hi => by rw [wn, wn, h i (by omega), wn_times h n (i + 1) (by omega), Int.mul_add, Int.mul_left_comm]
theorem fp_unique {l : List Int} (p : Nat) (hp : p < l.length) (h1 : ∀ q : Nat, q < l.length → rd l (q : Int) ≤ rd l (p : Int)) (h2 : ∀ q : Nat, q < p → rd l (q : Int) < rd l (p : Int)) : fp l = p := by
  obtain ⟨f1, f2, f3, _⟩ := fp_is l (by omega)
  have hm : rd l (p : Int) = lmax l := by
    have a := (lmax_le l (by omega) _).1 (Int.le_refl _) _ (rd_mem hp)
    have b := h1 _ f1
    omega
  rcases Nat.lt_trichotomy (fp l) p with h | h | h
  · have := h2 _ h; omega
  · exact h
  · exact absurd hm (f3 p h)
theorem fp_times {l m : List Int} {c : Int} (hc : 0 < c) (hl : 1 ≤ l.length) (hlen : m.length = l.length) (h : ∀ j : Nat, j < l.length → rd m (j : Int) = c * rd l (j : Int)) : fp m = fp l := by
  obtain ⟨f1, f2, f3, _⟩ := fp_is l (by omega)
  have hle : ∀ q : Nat, q < l.length → rd l (q : Int) ≤ rd l (fp l : Int) := fun q hq => by
    have := (lmax_le l (by omega) _).1 (Int.le_refl _) _ (rd_mem hq)
    omega
  refine fp_unique (fp l) (by omega) (fun q hq => ?_) (fun q hq => ?_)
  · rw [h q (by omega), h _ f1]
    exact Int.mul_le_mul_of_nonneg_left (hle q (by omega)) (by omega)
  · rw [h q (by omega), h _ f1]
    have a := hle q (by omega)
    have b := f3 q hq
    exact Int.mul_lt_mul_of_pos_left (by omega) hc
theorem mdF_times {l m : List Int} {c : Int} (hc : 0 < c) (hlen : m.length = l.length) (h : ∀ j : Nat, j < l.length → rd m (j : Int) = c * rd l (j : Int)) : ∀ (n i : Nat), i + n ≤ l.length → mdF m n i = mdF l n i
  | 0, i, _ => rfl
  | n + 1, i, hi => by
    have e : (sn m m.length 0 ≤ 2 * sn m (i + 1) 0) ↔ (sn l l.length 0 ≤ 2 * sn l (i + 1) 0) := by
      rw [hlen, sn_times h _ _ (by omega), sn_times h _ _ (by omega), Int.mul_left_comm]
      exact ⟨fun q => Int.le_of_mul_le_mul_left q hc, fun q => Int.mul_le_mul_of_nonneg_left q (by omega)⟩
    rw [mdF, mdF, mdF_times hc hlen h n (i + 1) (by omega)]
    by_cases q : sn l l.length 0 ≤ 2 * sn l (i + 1) 0
    · rw [if_pos q, if_pos (e.2 q)]
    · rw [if_neg q, if_neg (fun x => q (e.1 x))]
theorem par_times {l m : List Int} {c : Int} (hc : 0 < c ∧ c ≤ 5) (hg : Good l) (hlen : m.length = l.length) (h : ∀ j : Nat, j < l.length → rd m (j : Int) = c * rd l (j : Int)) : par m = par l := by
  have hl := hg.1
  obtain ⟨f1, f2, f3, _⟩ := fp_is l (by omega)
  have hf := fp_times hc.1 hl.1 hlen h
  unfold par
  rw [hf, hlen]
  by_cases e : fp l = 0 ∨ fp l + 1 = l.length
  · rw [if_pos e, if_pos e]
  · rw [if_neg e, if_neg e, h (fp l) f1, h (fp l - 1) (by omega), h (fp l + 1) (by omega)]
    obtain ⟨d, hd⟩ : ∃ d, d = 2 * rd l (fp l : Int) - rd l ((fp l - 1 : Nat) : Int) - rd l ((fp l + 1 : Nat) : Int) := ⟨_, rfl⟩
    have e1 : 2 * (c * rd l (fp l : Int)) - c * rd l ((fp l - 1 : Nat) : Int) - c * rd l ((fp l + 1 : Nat) : Int) = d * c := by
      rw [hd, Int.sub_mul, Int.sub_mul, Int.mul_comm (2 * rd l (fp l : Int)) c, Int.mul_comm (rd l ((fp l - 1 : Nat) : Int)) c, Int.mul_comm (rd l ((fp l + 1 : Nat) : Int)) c, Int.mul_left_comm c 2]
    rw [e1, ← hd]
    by_cases q : d ≤ 0
    · have q' : d * c ≤ 0 := Int.mul_nonpos_of_nonpos_of_nonneg q (by omega)
      rw [if_pos q, if_pos q']
    · have q' : ¬ d * c ≤ 0 := by have := Int.mul_pos (show 0 < d by omega) hc.1; omega
      rw [if_neg q, if_neg q']
      have r1 := hg.rd (i := fp l - 1) (by omega)
      have r2 := hg.rd (i := fp l + 1) (by omega)
      obtain ⟨p1, p2, p3⟩ := par_num hg (by omega) (by omega) hd (by omega)
      have e2 : 2 * (d * c) * (fp l : Int) + c * rd l ((fp l + 1 : Nat) : Int) - c * rd l ((fp l - 1 : Nat) : Int) = (2 * d * (fp l : Int) + rd l ((fp l + 1 : Nat) : Int) - rd l ((fp l - 1 : Nat) : Int)) * c := by
        rw [Int.sub_mul, Int.add_mul, Int.mul_comm c, Int.mul_comm c, ← Int.mul_assoc 2 d c, Int.mul_assoc (2 * d) c, Int.mul_comm c (fp l : Int), ← Int.mul_assoc]
      rw [e2, ← Int.mul_assoc 2 d c]
      have b1 : 2 * d * c ≤ 40000 * 5 := Int.mul_le_mul (by omega) hc.2 (by omega) (by omega)
      have b2 : (2 * d * (fp l : Int) + rd l ((fp l + 1 : Nat) : Int) - rd l ((fp l - 1 : Nat) : Int)).natAbs ≤ 660000 := by omega
      refine frac_mul hc.1 (by omega) (by omega) ?_
      rw [Int.natAbs_mul]
      exact Nat.le_trans (Nat.mul_le_mul b2 (show c.natAbs ≤ 5 by omega)) (by omega)
theorem est_times {l m : List Int} {c : Int} (hc : 0 < c ∧ c ≤ 5) (hg : Good l) (hlen : m.length = l.length) (h : ∀ j : Nat, j < l.length → rd m (j : Int) = c * rd l (j : Int)) (kind : Int) : est m kind = est l kind := by
  have hl := hg.1
  have hs := sn_in hg l.length 0 (by omega)
  have hw := wn_in hg l.length 0 (by omega)
  have e1 := sn_times h l.length 0 (by omega)
  have e2 := wn_times h l.length 0 (by omega)
  unfold est
  rw [hlen, e1, e2]
  by_cases z : sn l l.length 0 = 0
  · rw [if_pos z, if_pos (by rw [z]; simp)]
  · have z' : ¬ c * sn l l.length 0 = 0 := fun q => by rcases Int.mul_eq_zero.1 q with q | q <;> omega
    rw [if_neg z, if_neg z']
    have b1 : sn l l.length 0 * c ≤ 160000 * 5 := Int.mul_le_mul (by omega) hc.2 (by omega) (by omega)
    have b2 : wn l l.length 0 * c ≤ 2560000 * 5 := Int.mul_le_mul (by omega) hc.2 (by omega) (by omega)
    have b3 : 0 ≤ wn l l.length 0 * c := Int.mul_nonneg (by omega) (by omega)
    have hfr : frac (c * wn l l.length 0) (c * sn l l.length 0) = frac (wn l l.length 0) (sn l l.length 0) := by
      rw [Int.mul_comm c, Int.mul_comm c]
      exact frac_mul hc.1 (by omega) (by omega) (by omega)
    rw [hfr, par_times hc hg hlen h, fp_times hc.1 hl.1 hlen h]
    have : md m = md l := by unfold md; rw [hlen]; exact mdF_times hc.1 hlen h l.length 0 (by omega)
    rw [this]

def miF (l : List Int) : Nat → Nat → List Int
  | 0, _ => []
  | n + 1, i => rd l ((l.length - 1 - i : Nat) : Int) :: miF l n (i + 1)
theorem miF_length (l : List Int) : ∀ n i, (miF l n i).length = n
  | 0, _ => rfl
  | n + 1, i => by rw [miF, List.length_cons, miF_length l n (i + 1)]
theorem miF_rd (l : List Int) : ∀ (n i j : Nat), j < n → rd (miF l n i) (j : Int) = rd l ((l.length - 1 - (i + j) : Nat) : Int)
  | 0, _, j, h => by omega
  | n + 1, i, 0, _ => by rw [miF, rd_cons_zero, Nat.add_zero]
  | n + 1, i, j + 1, h => by rw [miF, rd_cons_succ, miF_rd l n (i + 1) j (by omega), show i + 1 + j = i + (j + 1) by omega]
theorem wn_snoc (l : List Int) : ∀ (n i : Nat), wn l (n + 1) i = wn l n i + ((i + n : Nat) : Int) * rd l ((i + n : Nat) : Int)
  | 0, i => by simp [wn]
  | n + 1, i => by
    rw [wn, wn_snoc l n (i + 1), wn, show i + 1 + n = i + (n + 1) by omega]; omega
theorem sn_mirror {l m : List Int} (h : ∀ j : Nat, j < l.length → rd m (j : Int) = rd l ((l.length - 1 - j : Nat) : Int)) : ∀ (n i : Nat), i + n ≤ l.length → sn m n i = sn l n (l.length - i - n)
  | 0, i, _ => rfl
  | n + 1, i, hi => by
    rw [sn, h i (by omega), sn_mirror h n (i + 1) (by omega), sn_snoc, show l.length - i - (n + 1) + n = l.length - 1 - i by omega, show l.length - (i + 1) - n = l.length - i - (n + 1) by omega]
    omega
theorem wn_mirror {l m : List Int} (h : ∀ j : Nat, j < l.length → rd m (j : Int) = rd l ((l.length - 1 - j : Nat) : Int)) : ∀ (n i : Nat), i + n ≤ l.length → wn m n i = ((l.length : Int) - 1) * sn l n (l.length - i - n) - wn l n (l.length - i - n)
  | 0, i, _ => by simp [wn, sn]
  | n + 1, i, hi => by
    have e : ((l.length - 1 - i : Nat) : Int) = (l.length : Int) - 1 - (i : Int) := by omega
    rw [wn, h i (by omega), wn_mirror h n (i + 1) (by omega), sn_snoc, wn_snoc, show l.length - i - (n + 1) + n = l.length - 1 - i by omega, show l.length - (i + 1) - n = l.length - i - (n + 1) by omega, Int.mul_add]
    have e2 := Int.sub_mul ((l.length : Int) - 1) (i : Int) (rd l ((l.length - 1 - i : Nat) : Int))
    rw [← e] at e2
    omega
theorem good_of_rd {l : List Int} (h0 : 1 ≤ l.length ∧ l.length ≤ 16) (h : ∀ i : Nat, i < l.length → 0 ≤ rd l (i : Int) ∧ rd l (i : Int) ≤ 10000) : Good l :=
  ⟨h0, fun x hx => by obtain ⟨i, hi, rfl⟩ := mem_rd hx; exact h i hi⟩
theorem est_mirror {l m : List Int} (hg : Good l) (hlen : m.length = l.length) (h : ∀ j : Nat, j < l.length → rd m (j : Int) = rd l ((l.length - 1 - j : Nat) : Int)) (hs0 : 0 < sn l l.length 0) :
    est m 1 = frac (((l.length : Int) - 1) * (est l 1).2 - (est l 1).1) (est l 1).2 := by
  have hl := hg.1
  have hs := sn_in hg l.length 0 (by omega)
  have hw := wn_in hg l.length 0 (by omega)
  have e1 := sn_mirror h l.length 0 (by omega)
  have e2 := wn_mirror h l.length 0 (by omega)
  rw [show l.length - 0 - l.length = 0 by omega] at e1 e2
  unfold est
  rw [hlen, e1, e2]
  simp only [show ¬ sn l l.length 0 = 0 by omega, if_false, if_true]
  obtain ⟨g, g0, ea, eb, _⟩ := frac_spec (a := wn l l.length 0) (b := sn l l.length 0) (by omega) (by omega)
  have d := frac_den (a := wn l l.length 0) (b := sn l l.length 0) (by omega)
  have hm := wn_le hg ((l.length : Int) - 1) l.length 0 (by omega) (by omega)
  have b3 : ((l.length : Int) - 1) * sn l l.length 0 ≤ 16 * 160000 := Int.mul_le_mul (by omega) (by omega) (by omega) (by omega)
  generalize frac (wn l l.length 0) (sn l l.length 0) = f at ea eb d ⊢
  have e3 : ((l.length : Int) - 1) * sn l l.length 0 - wn l l.length 0 = (((l.length : Int) - 1) * f.2 - f.1) * g := by
    rw [Int.sub_mul (((l.length : Int) - 1) * f.2) f.1 g, Int.mul_assoc, ← eb, ← ea]
  have key := frac_mul (a := ((l.length : Int) - 1) * f.2 - f.1) (b := f.2) g0 d.1 (by rw [← eb]; omega) (by rw [← e3]; omega)
  rw [← e3, ← eb] at key
  exact key
theorem IsLowest_ev {a b : Int} (ha : -9223372036854775808 ≤ a ∧ a ≤ 9223372036854775807) (hb : 0 < b ∧ b ≤ 4611686018427387904) (hg : Int.gcd a b = 1) : Ev (fun k => glidepathbase_IsLowest.f k a b) true := by
  unfold glidepathbase_IsLowest.f
  simp only [show b > 0 by omega, if_true]
  refine Ev.bind (gcd_ev ha (by omega)) ?_
  have : gq a b = 1 := by rw [(gq_pos' (a := a) hb).2.2, hg]; rfl
  simp only [this, beq_self_eq_true]
  exact Ev.some
theorem IsSmall_eq {a b : Int} (ha : -1000000000 ≤ a ∧ a ≤ 1000000000) (hb : 1 ≤ b ∧ b ≤ 1000000000) : glidepathbase_IsSmall.f a b = some true := by
  simp only [glidepathbase_IsSmall.f, Within_eq, Option.bind_some, ha, hb, and_self, decide_true, if_true]
theorem cmp_not {a b c d : Int} (h : ¬ wrap64 (c * b) < wrap64 (a * d)) : ∃ z, glidepathbase_Cmp.f a b c d = some z ∧ ¬ z > 0 := by
  refine ⟨_, Cmp_eq a b c d, ?_⟩
  rw [cmp_pos]; exact h
theorem within_l1 {l : List Int} (hg : Good l) {c : Int} (hc : 0 < c ∧ c ≤ 5) : ∀ (n i : Nat), i + n = 4 →
    Ev (fun k => glidepathlaw02_LineWithin.l1 k l (tmF l c l.length 0) (miF l l.length 0) (fp l : Int) (i : Int)) true
  | 0, i, h => by
    refine Ev.succ (f := fun k => glidepathlaw02_LineWithin.l1 k l (tmF l c l.length 0) (miF l l.length 0) (fp l : Int) (i : Int)) ?_
    simp only [glidepathlaw02_LineWithin.l1, show ¬ (i : Int) < 4 by omega, if_false]
    exact Ev.some
  | n + 1, i, h => by
    have ih := within_l1 hg hc n (i + 1) (by omega)
    have hl := hg.1
    have hk : kErr (i : Int) = 0 := by unfold kErr; rw [if_pos (by omega)]
    obtain ⟨n1, n2, n3, n4, n5⟩ := est_nice hg (i : Int)
    have hN : (est l (i : Int)).1 ≤ 16 * 160000 := Int.le_trans n5 (Int.mul_le_mul (by omega) (by omega) (by omega) (by omega))
    have hS := sn_in hg l.length 0 (by omega)
    obtain ⟨f1, _⟩ := fp_is l (by omega)
    have p1 : 0 ≤ (fp l : Int) * (est l (i : Int)).2 := Int.mul_nonneg (by omega) (by omega)
    have p2 : (fp l : Int) * (est l (i : Int)).2 ≤ 16 * 160000 := Int.mul_le_mul (by omega) (by omega) (by omega) (by omega)
    have q1 : 0 ≤ ((l.length : Int) - 1) * (est l (i : Int)).2 := Int.mul_nonneg (by omega) (by omega)
    have q2 : ((l.length : Int) - 1) * (est l (i : Int)).2 ≤ 16 * 160000 := Int.mul_le_mul (by omega) (by omega) (by omega) (by omega)
    have hE : Ev (fun k => line_Estimated.f k l (i : Int)) ((est l (i : Int)).1, (est l (i : Int)).2, 0) := by
      have := Estimated_ev l (i : Int)
      simp only [lErr_of_good hg, hk, if_true] at this
      exact this
    -- behind all that is asked of this kind
    have h7 : ∀ b : Bool, (b = true → (i : Int) = 1 ∧ 0 < sn l l.length 0) → Ev (fun k => glidepathlaw02_LineWithin.j7 k l (tmF l c l.length 0) (miF l l.length 0) (fp l : Int) (i : Int) b (est l (i : Int)).1 (est l (i : Int)).2) true := fun b hb => by
      refine Ev.succ (f := fun k => glidepathlaw02_LineWithin.j7 k l (tmF l c l.length 0) (miF l l.length 0) (fp l : Int) (i : Int) b _ _) ?_
      cases b with
      | false =>
        simp only [glidepathlaw02_LineWithin.j7, Bool.false_eq_true, if_false, up (show i < 4611686018427387904 by omega)]
        exact ih
      | true =>
        obtain ⟨e1, s0⟩ := hb rfl
        have hm : ∀ j : Nat, j < l.length → rd (miF l l.length 0) (j : Int) = rd l ((l.length - 1 - j : Nat) : Int) := fun j hj => by
          rw [miF_rd l l.length 0 j hj, Nat.zero_add]
        have hgm : Good (miF l l.length 0) := good_of_rd (by rw [miF_length]; exact hl) (fun j hj => by
          rw [miF_length] at hj
          rw [hm j hj]; exact hg.rd (by omega))
        have hEm : Ev (fun k => line_Estimated.f k (miF l l.length 0) (i : Int)) ((est (miF l l.length 0) (i : Int)).1, (est (miF l l.length 0) (i : Int)).2, 0) := by
          have := Estimated_ev (miF l l.length 0) (i : Int)
          simp only [lErr_of_good hgm, hk, if_true] at this
          exact this
        simp only [glidepathlaw02_LineWithin.j7, if_true]
        rw [CopyInts_eq _ (by rw [miF_length]; omega)]
        simp only [Option.bind_some]
        refine Ev.bind hEm ?_
        rw [w64 (n := (l.length : Int) - 1) (by omega), w64 (n := ((l.length : Int) - 1) * (est l (i : Int)).2) (by omega), w64 (n := ((l.length : Int) - 1) * (est l (i : Int)).2 - (est l (i : Int)).1) (by omega)]
        simp only [if_true]
        refine Ev.bind (Lowest_ev' (by omega) (by omega)) ?_
        have em : est (miF l l.length 0) (i : Int) = frac (((l.length : Int) - 1) * (est l (i : Int)).2 - (est l (i : Int)).1) (est l (i : Int)).2 := by
          rw [e1]; exact est_mirror hg (miF_length l l.length 0) hm s0
        rw [← em]
        simp only [beq_self_eq_true, Bool.not_true, Bool.or_self, Bool.false_eq_true, if_false, up (show i < 4611686018427387904 by omega)]
        exact ih
    have h6 : Ev (fun k => glidepathlaw02_LineWithin.j6 k l (tmF l c l.length 0) (miF l l.length 0) (fp l : Int) (i : Int) (est l (i : Int)).1 (est l (i : Int)).2) true := by
      refine Ev.succ (f := fun k => glidepathlaw02_LineWithin.j6 k l (tmF l c l.length 0) (miF l l.length 0) (fp l : Int) (i : Int) _ _) ?_
      simp only [glidepathlaw02_LineWithin.j6]
      by_cases e1 : (i : Int) = 1
      · simp only [e1, if_true]
        refine Ev.bind (Sum_ev l (by omega) hg.2) ?_
        rw [← e1]
        exact h7 _ (fun hb => ⟨e1, by simpa using hb⟩)
      · simp only [e1, if_false]
        exact h7 false (by simp)
    have h5 : Ev (fun k => glidepathlaw02_LineWithin.j5 k l (tmF l c l.length 0) (miF l l.length 0) (fp l : Int) (i : Int) false (est l (i : Int)).1 (est l (i : Int)).2) true := by
      refine Ev.succ (f := fun k => glidepathlaw02_LineWithin.j5 k l (tmF l c l.length 0) (miF l l.length 0) (fp l : Int) (i : Int) false _ _) ?_
      simp only [glidepathlaw02_LineWithin.j5, Bool.false_eq_true, if_false]
      refine Ev.bind (SpectrumErr_ev _) ?_
      by_cases ht : (lErr (tmF l c l.length 0) 16 10000).2 = 0
      · have hgt := lErr_good ht
        have hEt : Ev (fun k => line_Estimated.f k (tmF l c l.length 0) (i : Int)) ((est l (i : Int)).1, (est l (i : Int)).2, 0) := by
          have := Estimated_ev (tmF l c l.length 0) (i : Int)
          simp only [ht, hk, if_true] at this
          rw [est_times hc hg (tmF_length l c l.length 0) (fun j hj => by rw [tmF_rd l c l.length 0 j hj, Nat.zero_add]) (i : Int)] at this
          exact this
        simp only [ht, if_true]
        rw [CopyInts_eq _ (by rw [tmF_length]; omega)]
        simp only [Option.bind_some]
        refine Ev.bind hEt ?_
        simp only [if_true, beq_self_eq_true, Bool.not_true, Bool.or_self, Bool.false_eq_true, if_false]
        exact h6
      · simp only [ht, if_false]
        exact h6
    have h4 : Ev (fun k => glidepathlaw02_LineWithin.j4 k l (tmF l c l.length 0) (miF l l.length 0) (fp l : Int) (i : Int) false (est l (i : Int)).1 (est l (i : Int)).2) true := by
      refine Ev.succ (f := fun k => glidepathlaw02_LineWithin.j4 k l (tmF l c l.length 0) (miF l l.length 0) (fp l : Int) (i : Int) false _ _) ?_
      simp only [glidepathlaw02_LineWithin.j4, Bool.false_eq_true, if_false]
      by_cases e2 : (i : Int) = 2
      · simp only [e2, if_true]
        refine Ev.bind (Sum_ev l (by omega) hg.2) ?_
        by_cases s0 : sn l l.length 0 > 0
        · simp only [s0, if_true, Size_eq, Option.bind_some]
          have hp := (par_nice hg).2
          have he : est l (i : Int) = par l := by
            unfold est
            rw [if_neg (by omega), if_neg (by omega), if_pos e2]
          rw [e2] at he h5 n1 n2 n4 hN p1 p2
          have hd : ¬ mx (wrap64 (2 * wrap64 ((est l 2).1 - wrap64 ((fp l : Int) * (est l 2).2)))) (wrap64 (-(wrap64 (2 * wrap64 ((est l 2).1 - wrap64 ((fp l : Int) * (est l 2).2)))))) > (est l 2).2 := by
            rw [w64 (n := (fp l : Int) * (est l 2).2) (by omega), w64 (n := (est l 2).1 - (fp l : Int) * (est l 2).2) (by omega), w64 (n := 2 * ((est l 2).1 - (fp l : Int) * (est l 2).2)) (by omega), w64 (n := -(2 * ((est l 2).1 - (fp l : Int) * (est l 2).2))) (by omega), mx_eq]
            rw [← he] at hp
            omega
          simp only [hd, decide_false]
          exact h5
        · simp only [s0, if_false]
          rw [e2] at h5
          exact h5
      · simp only [e2, if_false]
        exact h5
    refine Ev.succ (f := fun k => glidepathlaw02_LineWithin.l1 k l (tmF l c l.length 0) (miF l l.length 0) (fp l : Int) (i : Int)) ?_
    simp only [glidepathlaw02_LineWithin.l1, show (i : Int) < 4 by omega, if_true]
    rw [CopyInts_eq l (by omega)]
    simp only [Option.bind_some]
    refine Ev.bind hE ?_
    simp only [if_true]
    refine Ev.bind (IsLowest_ev (by omega) (by omega) n3) ?_
    rw [IsSmall_eq (by omega) (by omega)]
    simp only [if_true, Option.bind_some, show ¬ (est l (i : Int)).1 < 0 by omega, if_false, glidepathbase_Whole.f]
    rw [w64 (n := (l.length : Int) - 1) (by omega)]
    obtain ⟨z, hz, hz0⟩ := cmp_not (a := (est l (i : Int)).1) (b := (est l (i : Int)).2) (c := (l.length : Int) - 1) (d := 1) (by rw [w64 (by omega), w64 (by omega)]; omega)
    rw [hz]
    simp only [Option.bind_some, hz0, decide_false]
    exact h4
theorem within_l0 {l : List Int} (hg : Good l) {c : Int} (hc : 0 < c ∧ c ≤ 5) : ∀ (n i : Nat) (x y : List Int), i + n = l.length → x.length = i → y.length = i → x ++ tmF l c n i = tmF l c l.length 0 → y ++ miF l n i = miF l l.length 0 →
    Ev (fun k => glidepathlaw02_LineWithin.l0 k l c x y (i : Int)) true
  | 0, i, x, y, h, hx, hy, ex, ey => by
    have hl := hg.1
    obtain ⟨f1, _⟩ := fp_is l (by omega)
    rw [tmF, List.append_nil] at ex
    rw [miF, List.append_nil] at ey
    subst ex ey
    refine Ev.succ (f := fun k => glidepathlaw02_LineWithin.l0 k l c _ _ (i : Int)) ?_
    simp only [glidepathlaw02_LineWithin.l0, show ¬ (i : Int) < (l.length : Int) by omega, if_false]
    rw [CopyInts_eq l (by omega)]
    simp only [Option.bind_some]
    refine Ev.bind (PeakOf_ev l) ?_
    simp only [lErr_of_good hg, if_true, Within_eq, Option.bind_some]
    rw [w64 (n := (l.length : Int) - 1) (by omega)]
    simp only [show (0 : Int) ≤ (fp l : Int) ∧ (fp l : Int) ≤ (l.length : Int) - 1 by omega, and_self, decide_true, Bool.not_true]
    refine Ev.succ (f := fun k => glidepathlaw02_LineWithin.j2 k l _ _ _ false) ?_
    simp only [glidepathlaw02_LineWithin.j2, Bool.false_eq_true, if_false]
    exact within_l1 hg hc 4 0 (by omega)
  | n + 1, i, x, y, h, hx, hy, ex, ey => by
    have hl := hg.1
    have hr := hg.rd (i := i) (by omega)
    have w1 : wrap64 (wrap64 ((l.length : Int) - 1) - (i : Int)) = ((l.length - 1 - i : Nat) : Int) := by rw [w64 (n := (l.length : Int) - 1) (by omega), w64 (by omega)]; omega
    have b1 : 0 ≤ c * rd l (i : Int) := Int.mul_nonneg (by omega) hr.1
    have b2 : c * rd l (i : Int) ≤ 5 * 10000 := Int.mul_le_mul hc.2 hr.2 hr.1 (by omega)
    refine Ev.succ (f := fun k => glidepathlaw02_LineWithin.l0 k l c x y (i : Int)) ?_
    simp only [glidepathlaw02_LineWithin.l0, show (i : Int) < (l.length : Int) by omega, show (0 : Int) ≤ (i : Int) by omega, if_true, w1, w64 (n := c * rd l (i : Int)) (by omega), Option.bind_some, List.length_singleton, show x.length + 1 < 17592186044416 by omega, show y.length + 1 < 17592186044416 by omega, show (0 : Int) ≤ ((l.length - 1 - i : Nat) : Int) by omega, show ((l.length - 1 - i : Nat) : Int) < (l.length : Int) by omega, up (show i < 4611686018427387904 by omega)]
    refine within_l0 hg hc n (i + 1) (x ++ [c * rd l (i : Int)]) (y ++ [rd l ((l.length - 1 - i : Nat) : Int)]) (by omega) (by simp; omega) (by simp; omega) ?_ ?_
    · rw [← ex, tmF]; simp
    · rw [← ey, miF]; simp
theorem LineWithin_ev (l : List Int) (c : Int) : Ev (fun k => glidepathlaw02_LineWithin.f k l c) true := by
  unfold glidepathlaw02_LineWithin.f
  refine Ev.bind awake_ev ?_
  simp only [if_true]
  refine Ev.bind (SpectrumErr_ev l) ?_
  have hj : ∀ b : Bool, (b = false → (lErr l 16 10000).2 = 0 ∧ 1 ≤ c ∧ c ≤ 5) → Ev (fun k => glidepathlaw02_LineWithin.j0 k l c b) true := fun b hb => by
    refine Ev.succ (f := fun k => glidepathlaw02_LineWithin.j0 k l c b) ?_
    cases b with
    | true => simp only [glidepathlaw02_LineWithin.j0, if_true]; exact Ev.some
    | false =>
      obtain ⟨h1, h2⟩ := hb rfl
      simp only [glidepathlaw02_LineWithin.j0, Bool.false_eq_true, if_false]
      exact within_l0 (lErr_good h1) (show 0 < c ∧ c ≤ 5 by omega) l.length 0 [] [] (by omega) rfl rfl rfl rfl
  by_cases h1 : (lErr l 16 10000).2 = 0
  · simp only [h1, if_true, Within_eq, Option.bind_some]
    refine hj _ (fun hb => ?_)
    simp only [Bool.not_eq_false', decide_eq_true_eq] at hb
    exact ⟨h1, hb⟩
  · simp only [h1, if_false]
    exact hj true (by simp)
theorem LineWithin_pure (l : List Int) (_ : l.length ≤ maxLen) (_ : ∀ x ∈ l, (Lit.int .i64 x).wf = true) (c : Int) (_ : (Lit.int .i64 c).wf = true) :
    ∃ k, glidepathlaw02_LineWithin.f k l c = some true := (LineWithin_ev l c).ex
end Go.Proofs.YtjnkphmcndaijaaDoor.P
