/-
PLAIN LAW: what the walks compute answers as the statement says (no program in sight; Ev: from some number of rounds on).
-/
import Derived.Test.YtjnkphmcndaijaaDoorSpe12
import Derived.Test.YtjnkphmcndaijaaDoorSpe04
import Derived.Test.YtjnkphmcndaijaaDoorSpe13
import Derived.Test.YtjnkphmcndaijaaDoorSpe09
import Derived.Test.YtjnkphmcndaijaaDoorSpe06
namespace Go.Proofs.YtjnkphmcndaijaaDoor.P
open Go Go.RowKit Go.Proofs.YtjnkphmcndaijaaDoor.A Go.Proofs.YtjnkphmcndaijaaDoorW.PrintWords Go.Proofs.YtjnkphmcndaijaaDoorW.PrintLast Go.Proofs.YtjnkphmcndaijaaDoorW.PrintMore
set_option linter.unusedSimpArgs false
set_option linter.unusedVariables false
/-- From some number of rounds on, f says r. -/
def Ev {α : Type} (f : Nat → Option α) (r : α) : Prop := ∃ k, ∀ j, k ≤ j → f j = some r

theorem Ev.some {α : Type} {r : α} : Ev (fun _ => Option.some r) r := ⟨0, fun _ _ => rfl⟩
theorem Ev.bind {α β : Type} {f : Nat → Option α} {g : Nat → α → Option β} {a : α} {b : β} (h : Ev f a) (h2 : Ev (fun k => g k a) b) : Ev (fun k => (f k).bind (g k)) b := by
 obtain ⟨k, hk⟩ := h
 obtain ⟨m, hm⟩ := h2
 exact ⟨max k m, fun j hj => by show (f j).bind (g j) = _; rw [hk j (by omega)]; exact hm j (by omega)⟩
theorem Ev.succ {α : Type} {f : Nat → Option α} {r : α} (h : Ev (fun k => f (k + 1)) r) : Ev f r := by
 obtain ⟨k, hk⟩ := h
 exact ⟨k + 1, fun j hj => by obtain ⟨m, rfl⟩ : ∃ m, j = m + 1 := ⟨j - 1, by omega⟩; exact hk m (by omega)⟩
theorem Ev.ex {α : Type} {f : Nat → Option α} {r : α} (h : Ev f r) : ∃ k, f k = Option.some r := let ⟨k, hk⟩ := h; ⟨k, hk k (Nat.le_refl _)⟩
theorem Ev.of_mono {α : Type} {f : Nat → Option α} {r : α} (hm : ∀ k, LeO (f k) (f (k + 1))) {k : Nat} (h : f k = Option.some r) : Ev f r := by
  refine ⟨k, fun j hj => ?_⟩
  induction j with
  | zero => obtain rfl : k = 0 := by omega
            exact h
  | succ j ih =>
    by_cases e : k = j + 1
    · subst e; exact h
    · exact hm j r (ih (by omega))
theorem up {i : Nat} (h : i < 4611686018427387904) : wrap64 ((i : Int) + 1) = ((i + 1 : Nat) : Int) := by
 unfold wrap64; omega
theorem rd_nat (l : List Int) (i : Nat) : rd l (i : Int) = l.getD i 0 := by unfold rd; simp
theorem drop_rd {l : List Int} {i : Nat} (h : i < l.length) : l.drop i = rd l (i : Int) :: l.drop (i + 1) := by
 rw [rd_nat, List.drop_eq_getElem_cons h]
 simp [List.getD_eq_getElem?_getD, h]

theorem mx_eq (a b : Int) : mx a b = max a b := by unfold mx; split <;> omega

theorem Within_eq (a b c : Int) : Bs_Within.f a b c = some (decide (b ≤ a ∧ a ≤ c)) := by
 unfold Bs_Within.f
 by_cases h : b ≤ a <;> simp [h]
theorem unless_eq (b : Bool) (e : Int) : line_unless.f b e = some (if b = true then 0 else e) := by
 unfold line_unless.f
 cases b <;> simp
theorem short_eq (l : List Int) : Lw_short.f l = some (decide ((l.length : Int) ≤ 20)) := rfl

/-- The first number that is not 0. -/
def fnz : List Int → Int
 | [] => 0
 | x :: r => if x = 0 then fnz r else x

theorem first_l0 (l : List Int) (hl : l.length < 4611686018427387904) : ∀ (n i : Nat), i + n = l.length → Ev (fun k => line_first.l0 k l (l.length : Int) (i : Int)) (fnz (l.drop i))
 | 0, i, h => by
  refine Ev.succ (f := fun k => line_first.l0 k l (l.length : Int) (i : Int)) ?_
  have h1 : ¬ (i : Int) < (l.length : Int) := by omega
  simp only [line_first.l0, h1, if_false]
  rw [show l.drop i = [] from List.drop_eq_nil_of_le (by omega)]
  exact Ev.some
 | n + 1, i, h => by
  refine Ev.succ (f := fun k => line_first.l0 k l (l.length : Int) (i : Int)) ?_
  have h1 : (i : Int) < (l.length : Int) := by omega
  have h2 : (0 : Int) ≤ (i : Int) := by omega
  simp only [line_first.l0, h1, h2, if_true, up (show i < 4611686018427387904 by omega)]
  rw [drop_rd (show i < l.length by omega)]
  unfold fnz
  by_cases e : rd l (i : Int) = 0
  ·simp only [e, if_true]
   exact first_l0 l hl n (i + 1) (by omega)
  ·simp only [e, if_false]
   exact Ev.some
theorem first_ev (l : List Int) (hl : l.length < 4611686018427387904) : Ev (fun k => line_first.f k l) (fnz l) := first_l0 l hl l.length 0 (by omega)

/-- Not from 0 to m. -/
def bad (m x : Int) : Bool := !(decide (0 ≤ x) && decide (x ≤ m))
theorem within_bad (m x : Int) : decide (0 ≤ x ∧ x ≤ m) = !bad m x := by
 unfold bad; by_cases h : 0 ≤ x <;> by_cases h2 : x ≤ m <;> simp [h, h2]
/-- The index of the first one that is not within, or none; the number of the error. -/
def lErr (l : List Int) (n : Nat) (m : Int) : Int × Int :=
 if l.length = 0 then (0, 10) else if n < l.length then (0, 8) else
  if idxF (bad m) l ≥ 0 then (idxF (bad m) l, 2) else (0, 0)

theorem listErr_eq (l : List Int) (n : Nat) (m : Int) : line_listErr.f l (n : Int) m = some (lErr l n m) := by
 have hb : (fun x : Int => !(decide (0 ≤ x) && decide (x ≤ m))) = bad m := rfl
 unfold line_listErr.f lErr
 rw [hb]
 by_cases h0 : l.length = 0
 ·simp only [h0, if_true]
 ·by_cases h1 : n < l.length
  ·have h2 : (n : Int) < (l.length : Int) := by omega
   simp only [h0, h1, h2, if_true, if_false]
  ·have h2 : ¬ (n : Int) < (l.length : Int) := by omega
   simp only [h0, h1, h2, if_false]
   split <;> rfl
theorem lineCheckSpectrum_eq (l : List Int) : line_CheckSpectrum.f l = some (lErr l 16 10000) := by
 have h : line_listErr.f l 16 10000 = some (lErr l 16 10000) := listErr_eq l 16 10000
 unfold line_CheckSpectrum.f; rw [h]; rfl
theorem idxF_nil (p : Int → Bool) : idxF p [] = -1 := rfl
theorem idxF_ge (p : Int → Bool) (l : List Int) : -1 ≤ idxF p l := by
 unfold idxF
 cases l.findIdx? p <;> simp <;> omega
theorem idxF_cons (p : Int → Bool) (a : Int) (r : List Int) : idxF p (a :: r) = if p a = true then 0 else if idxF p r ≥ 0 then idxF p r + 1 else -1 := by
  unfold idxF
  rw [List.findIdx?_cons]
  by_cases h : p a = true
  · simp [h]
  · simp only [h, if_false, Bool.false_eq_true]
    cases r.findIdx? p with
    | none => simp
    | some i => simp <;> omega

theorem refSpectrum_l0 (l : List Int) (hl : l.length < 4611686018427387904) : ∀ (n i : Nat), i + n = l.length →
  Ev (fun k => Rf_CheckSpectrum.l0 k l (i : Int)) (if idxF (bad 10000) (l.drop i) ≥ 0 then (idxF (bad 10000) (l.drop i) + i, 2) else (0, 0))
 | 0, i, h => by
  refine Ev.succ (f := fun k => Rf_CheckSpectrum.l0 k l (i : Int)) ?_
  have h1 : ¬ (i : Int) < (l.length : Int) := by omega
  simp only [Rf_CheckSpectrum.l0, h1, if_false]
  rw [show l.drop i = [] from List.drop_eq_nil_of_le (by omega), idxF_nil]
  exact Ev.some
 | n + 1, i, h => by
  refine Ev.succ (f := fun k => Rf_CheckSpectrum.l0 k l (i : Int)) ?_
  have h1 : (i : Int) < (l.length : Int) := by omega
  have h2 : (0 : Int) ≤ (i : Int) := by omega
  simp only [Rf_CheckSpectrum.l0, h1, h2, if_true, up (show i < 4611686018427387904 by omega), Within_eq, within_bad, Option.bind_some]
  rw [drop_rd (show i < l.length by omega), idxF_cons]
  cases e : bad 10000 (rd l (i : Int)) with
  | false =>
   simp only [e, Bool.not_false, if_true, Bool.false_eq_true, if_false]
   have ih := refSpectrum_l0 l hl n (i + 1) (by omega)
   have hg := idxF_ge (bad 10000) (l.drop (i + 1))
   by_cases q : idxF (bad 10000) (l.drop (i + 1)) ≥ 0
   ·simp only [q, if_true] at ih ⊢
    rw [if_pos (by omega), show idxF (bad 10000) (l.drop (i + 1)) + 1 + (i : Int) = idxF (bad 10000) (l.drop (i + 1)) + ((i + 1 : Nat) : Int) by omega]
    exact ih
   ·simp only [q, if_false] at ih ⊢
    exact ih
  | true =>
   simp only [e, Bool.not_true, Bool.false_eq_true, if_false, if_true]
   rw [if_pos (by omega), Int.zero_add]
   exact Ev.some
theorem refCheckSpectrum_ev (l : List Int) : Ev (fun k => Rf_CheckSpectrum.f k l) (lErr l 16 10000) := by
 unfold Rf_CheckSpectrum.f lErr
 by_cases h0 : l.length = 0
 ·have : (l.length : Int) = 0 := by omega
  simp only [h0, if_true]
  exact Ev.some
 ·have h0' : ¬ (l.length : Int) = 0 := by omega
  by_cases h1 : 16 < l.length
  ·have h2 : (l.length : Int) > 16 := by omega
   simp only [h0, h0', h1, h2, if_true, if_false]
   exact Ev.some
  ·have h2 : ¬ (l.length : Int) > 16 := by omega
   simp only [h0, h0', h1, h2, if_false]
   have := refSpectrum_l0 l (by omega) l.length 0 (by omega)
   simpa using this
/-- What the program says for it (the one number without a positive twin stays as it is). -/
def gq (x y : Int) : Int := if Int.gcd x y = 9223372036854775808 then -9223372036854775808 else (Int.gcd x y : Int)

def lmx : List Int → Int → Int
 | [], a => a
 | x :: r, a => lmx r (mx a x)
theorem lmx_le : ∀ (l : List Int) (a b : Int), lmx l a ≤ b ↔ a ≤ b ∧ ∀ x ∈ l, x ≤ b
 | [], a, b => by simp [lmx]
 | x :: r, a, b => by
  rw [lmx, lmx_le r, mx_eq]
  simp only [List.mem_cons, forall_eq_or_imp]
  constructor
  ·rintro ⟨h, h2⟩; exact ⟨by omega, by omega, h2⟩
  ·rintro ⟨h, h2, h3⟩; exact ⟨by omega, h3⟩
theorem max_le (l : List Int) (h0 : 0 < l.length) (b : Int) : lmx (l.drop 1) (rd l 0) ≤ b ↔ ∀ x ∈ l, x ≤ b := by
 rw [lmx_le]
 have e := drop_rd (l := l) (i := 0) h0
 simp only [List.drop_zero, Nat.zero_add] at e
 constructor
 ·rintro ⟨h1, h2⟩ x hx
  rw [e] at hx
  rcases List.mem_cons.1 hx with rfl | hx
  ·exact h1
  ·exact h2 x hx
 ·intro h
  exact ⟨h _ (by rw [e]; exact List.mem_cons_self), fun x hx => h x (List.mem_of_mem_drop hx)⟩

theorem lErr_len {l : List Int} {n : Nat} {m : Int} (h : (lErr l n m).2 = 0) : 1 ≤ l.length ∧ l.length ≤ n := by
 unfold lErr at h
 by_cases h0 : l.length = 0
 ·simp [h0] at h
 ·by_cases h1 : n < l.length
  ·simp [h0, h1] at h
  ·omega
theorem max106_l0 (l : List Int) (hl : l.length < 4611686018427387904) : ∀ (n i : Nat) (a : Int), i + n = l.length → Ev (fun k => Sp_int_106.l0 k l a (i : Int)) (lmx (l.drop i) a)
 | 0, i, a, h => by
  refine Ev.succ (f := fun k => Sp_int_106.l0 k l a (i : Int)) ?_
  simp only [Sp_int_106.l0, show ¬ (i : Int) < (l.length : Int) by omega, if_false]
  rw [show l.drop i = [] from List.drop_eq_nil_of_le (by omega)]
  exact Ev.some
 | n + 1, i, a, h => by
  refine Ev.succ (f := fun k => Sp_int_106.l0 k l a (i : Int)) ?_
  simp only [Sp_int_106.l0, show (i : Int) < (l.length : Int) by omega, show (0 : Int) ≤ (i : Int) by omega, if_true, up (show i < 4611686018427387904 by omega)]
  rw [drop_rd (show i < l.length by omega)]
  exact max106_l0 l hl n (i + 1) _ (by omega)
/-- The greatest number of a list. -/
def lmax (l : List Int) : Int := lmx (l.drop 1) (rd l 0)
theorem max106_ev (l : List Int) (h0 : 0 < l.length) (hl : l.length < 4611686018427387904) : Ev (fun k => Sp_int_106.f k l) (lmax l) := by
 unfold Sp_int_106.f
 simp only [show ¬ (l.length : Int) < 1 by omega, show (0 : Int) < (l.length : Int) by omega, if_true, if_false]
 exact max106_l0 l hl (l.length - 1) 1 _ (by omega)
theorem lmax_le (l : List Int) (h0 : 0 < l.length) (b : Int) : lmax l ≤ b ↔ ∀ x ∈ l, x ≤ b := max_le l h0 b
theorem lmx_mem : ∀ (l : List Int) (a : Int), lmx l a = a ∨ lmx l a ∈ l
 | [], a => .inl rfl
 | x :: r, a => by
  rw [lmx]
  rcases lmx_mem r (mx a x) with h | h
  ·rw [h]
   unfold mx
   split
   ·exact .inr List.mem_cons_self
   ·exact .inl rfl
  ·exact .inr (List.mem_cons_of_mem _ h)
theorem lmax_mem (l : List Int) (h0 : 0 < l.length) : lmax l ∈ l := by
 have e := drop_rd (l := l) (i := 0) h0
 simp only [List.drop_zero, Nat.zero_add] at e
 rcases lmx_mem (l.drop 1) (rd l 0) with h | h
 ·unfold lmax; rw [h]; rw [e]; exact List.mem_cons_self
 ·exact List.mem_of_mem_drop h
theorem rd_mem {l : List Int} {i : Nat} (h : i < l.length) : rd l (i : Int) ∈ l := by
 rw [rd_nat, List.getD_eq_getElem?_getD, List.getElem?_eq_getElem h]; exact List.getElem_mem h
theorem mem_rd {l : List Int} {x : Int} (h : x ∈ l) : ∃ i : Nat, i < l.length ∧ rd l (i : Int) = x := by
 obtain ⟨i, hi, e⟩ := List.getElem_of_mem h
 exact ⟨i, hi, by rw [rd_nat, List.getD_eq_getElem?_getD, List.getElem?_eq_getElem hi]; exact e⟩

/-- Line i is as great as any. -/
def pk (l : List Int) (i : Nat) : Bool := l.all fun x => decide (x ≤ rd l (i : Int))
def peaksFrom (l : List Int) : Nat → Nat → List Int
 | 0, _ => []
 | n + 1, i => if pk l i = true then (i : Int) :: peaksFrom l n (i + 1) else peaksFrom l n (i + 1)
theorem mem_peaksFrom (l : List Int) : ∀ (n i : Nat) (p : Int), p ∈ peaksFrom l n i ↔ ∃ q : Nat, p = (q : Int) ∧ i ≤ q ∧ q < i + n ∧ pk l q = true
  | 0, i, p => by simp [peaksFrom]; omega
  | n + 1, i, p => by
    rw [peaksFrom]
    by_cases h : pk l i = true
    · rw [if_pos h, List.mem_cons, mem_peaksFrom l n (i + 1)]
      constructor
      · rintro (rfl | ⟨q, rfl, a, b, c⟩)
        · exact ⟨i, rfl, by omega, by omega, h⟩
        · exact ⟨q, rfl, by omega, by omega, c⟩
      · rintro ⟨q, rfl, a, b, c⟩
        by_cases e : q = i
        · subst e; exact .inl rfl
        · exact .inr ⟨q, rfl, by omega, by omega, c⟩
    · rw [if_neg h, mem_peaksFrom l n (i + 1)]
      constructor
      · rintro ⟨q, rfl, a, b, c⟩; exact ⟨q, rfl, by omega, by omega, c⟩
      · rintro ⟨q, rfl, a, b, c⟩
        exact ⟨q, rfl, by rcases Nat.lt_or_ge i q with h' | h'; exact h'; obtain rfl : q = i := by omega
                          exact absurd c h, by omega, c⟩

theorem Peaks_l1 (l : List Int) (hl : l.length < 17592186044416) (acc : List Int) (i : Nat) (hi : i < l.length) (ha : acc.length ≤ i) (R : List Int → List Int)
    (hnext : ∀ acc' : List Int, acc'.length ≤ i + 1 → Ev (fun k => Rf_Peaks.l0 k l acc' ((i + 1 : Nat) : Int)) (R acc')) : ∀ (n j : Nat) (b : Bool), j + n = l.length →
    Ev (fun k => Rf_Peaks.l1 k l acc (i : Int) b (j : Int)) (R (if (b && (l.drop j).all fun x => decide (x ≤ rd l (i : Int))) = true then acc ++ [(i : Int)] else acc))
  | 0, j, b, h => by
    refine Ev.succ (f := fun k => Rf_Peaks.l1 k l acc (i : Int) b (j : Int)) ?_
    simp only [Rf_Peaks.l1, show ¬ (j : Int) < (l.length : Int) by omega, if_false, up (show i < 4611686018427387904 by omega), show acc.length < 17592186044416 by omega, if_true]
    rw [show l.drop j = [] from List.drop_eq_nil_of_le (by omega), List.all_nil, Bool.and_true]
    cases b with
    | true => simp only [if_true]; exact hnext _ (by simp; omega)
    | false => simp only [Bool.false_eq_true, if_false]; exact hnext _ (by omega)
  | n + 1, j, b, h => by
    refine Ev.succ (f := fun k => Rf_Peaks.l1 k l acc (i : Int) b (j : Int)) ?_
    simp only [Rf_Peaks.l1, show (j : Int) < (l.length : Int) by omega, show (0 : Int) ≤ (j : Int) by omega, show (0 : Int) ≤ (i : Int) by omega, show (i : Int) < (l.length : Int) by omega, if_true, up (show j < 4611686018427387904 by omega)]
    rw [drop_rd (show j < l.length by omega), List.all_cons]
    cases b with
    | true =>
      simp only [if_true, Bool.true_and]
      exact Peaks_l1 l hl acc i hi ha R hnext n (j + 1) _ (by omega)
    | false =>
      simp only [Bool.false_eq_true, if_false, Bool.false_and]
      have := Peaks_l1 l hl acc i hi ha R hnext n (j + 1) false (by omega)
      simpa using this
theorem Peaks_l0 (l : List Int) (hl : l.length < 17592186044416) : ∀ (n i : Nat) (acc : List Int), i + n = l.length → acc.length ≤ i →
  Ev (fun k => Rf_Peaks.l0 k l acc (i : Int)) (acc ++ peaksFrom l n i)
 | 0, i, acc, h, ha => by
  refine Ev.succ (f := fun k => Rf_Peaks.l0 k l acc (i : Int)) ?_
  simp only [Rf_Peaks.l0, show ¬ (i : Int) < (l.length : Int) by omega, if_false, peaksFrom, List.append_nil]
  exact Ev.some
 | n + 1, i, acc, h, ha => by
  refine Ev.succ (f := fun k => Rf_Peaks.l0 k l acc (i : Int)) ?_
  simp only [Rf_Peaks.l0, show (i : Int) < (l.length : Int) by omega, if_true]
  have := Peaks_l1 l hl acc i (by omega) ha (fun a => a ++ peaksFrom l n (i + 1)) (fun acc' h' => Peaks_l0 l hl n (i + 1) acc' (by omega) h') l.length 0 true (by omega)
  rw [peaksFrom]
  simp only [Bool.true_and, List.drop_zero] at this
  by_cases q : pk l i = true
  ·have q' : (l.all fun x => decide (x ≤ rd l (i : Int))) = true := q
   rw [if_pos q]
   rw [if_pos q'] at this
   simpa using this
  ·have q' : ¬ (l.all fun x => decide (x ≤ rd l (i : Int))) = true := q
   rw [if_neg q]
   rw [if_neg q'] at this
   simpa using this
/-- All peaks. -/
def peaks (l : List Int) : List Int := peaksFrom l l.length 0
theorem Peaks_ev (l : List Int) (hl : l.length < 17592186044416) : Ev (fun k => Rf_Peaks.f k l) (peaks l) := by
 have := Peaks_l0 l hl l.length 0 [] (by omega) (by simp)
 simpa [Rf_Peaks.f, peaks] using this
theorem peaks_cons (l : List Int) (h0 : 0 < l.length) : ∃ (p : Nat) (r : List Int), peaks l = (p : Int) :: r ∧ p < l.length ∧ rd l (p : Int) = lmax l := by
  obtain ⟨i, hi, e⟩ := mem_rd (lmax_mem l h0)
  have hmem : (i : Int) ∈ peaks l := (mem_peaksFrom l _ _ _).2 ⟨i, rfl, by omega, by omega, by unfold pk; rw [e]; simpa using (lmax_le l h0 _).1 (Int.le_refl _)⟩
  cases hp : peaks l with
  | nil => rw [hp] at hmem; cases hmem
  | cons p r =>
    obtain ⟨q, rfl, _, hq, hk⟩ := (mem_peaksFrom l _ _ p).1 (by show p ∈ peaks l; rw [hp]; exact List.mem_cons_self)
    refine ⟨q, r, rfl, by omega, ?_⟩
    have h1 : lmax l ≤ rd l (q : Int) := (lmax_le l h0 _).2 (by simpa [pk] using hk)
    have h2 : rd l (q : Int) ≤ lmax l := (lmax_le l h0 _).1 (Int.le_refl _) _ (rd_mem (by omega))
    omega
/-- A fraction in lowest terms, as both say it. -/
def frac (a b : Int) : Int × Int := (wrap64 (Int.tdiv a (gq a b)), wrap64 (Int.tdiv b (gq a b)))
/-- A row of a valid case, or a valid spectrum. -/
def Good (l : List Int) : Prop := (1 ≤ l.length ∧ l.length ≤ 16) ∧ ∀ x ∈ l, 0 ≤ x ∧ x ≤ 10000
/-- The sum of n powers from line i on, and their sum with the lines' numbers. -/
def sn (l : List Int) : Nat → Nat → Int
 | 0, _ => 0
 | n + 1, i => rd l (i : Int) + sn l n (i + 1)
def wn (l : List Int) : Nat → Nat → Int
 | 0, _ => 0
 | n + 1, i => (i : Int) * rd l (i : Int) + wn l n (i + 1)
theorem peaksFrom_first (l : List Int) : ∀ (n i : Nat) (p : Int) (r : List Int), peaksFrom l n i = p :: r → ∀ q : Nat, i ≤ q → (q : Int) < p → ¬ pk l q = true
 | 0, i, p, r, h, _, _, _ => by simp [peaksFrom] at h
 | n + 1, i, p, r, h, q, hq, hp => by
  rw [peaksFrom] at h
  by_cases e : pk l i = true
  ·rw [if_pos e] at h
   have := (List.cons.inj h).1
   omega
  ·rw [if_neg e] at h
   by_cases e2 : q = i
   ·subst e2; exact e
   ·exact peaksFrom_first l n (i + 1) p r h q (by omega) hp
/-- The first line with the maximum power. -/
def fp (l : List Int) : Nat := ((peaks l).headD 0).toNat
theorem fp_is (l : List Int) (h0 : 0 < l.length) : fp l < l.length ∧ rd l (fp l : Int) = lmax l ∧ (∀ q : Nat, q < fp l → rd l (q : Int) ≠ lmax l) ∧ ∃ r, peaks l = (fp l : Int) :: r := by
 obtain ⟨p, r, e, hp, hr⟩ := peaks_cons l h0
 have hf : fp l = p := by unfold fp; rw [e]; simp
 rw [hf]
 refine ⟨hp, hr, fun q hq hrq => ?_, r, e⟩
 refine peaksFrom_first l l.length 0 p r e q (by omega) (by omega) ?_
 unfold pk
 rw [hrq]
 simpa using (lmax_le l h0 _).1 (Int.le_refl _)
theorem idx132_l0 (l : List Int) (x : Int) (hl : l.length < 1000000) (p : Nat) (hp : p < l.length) (hr : rd l (p : Int) = x) (hf : ∀ q : Nat, q < p → rd l (q : Int) ≠ x) : ∀ (n i : Nat), i + n = p → Ev (fun k => Sp_int_132.l0 k l x (l.length : Int) (i : Int)) (p : Int)
 | 0, i, h => by
  refine Ev.succ (f := fun k => Sp_int_132.l0 k l x (l.length : Int) (i : Int)) ?_
  obtain rfl : i = p := by omega
  simp only [Sp_int_132.l0, show (i : Int) < (l.length : Int) by omega, show (0 : Int) ≤ (i : Int) by omega, if_true, hr]
  exact Ev.some
 | n + 1, i, h => by
  refine Ev.succ (f := fun k => Sp_int_132.l0 k l x (l.length : Int) (i : Int)) ?_
  simp only [Sp_int_132.l0, show (i : Int) < (l.length : Int) by omega, show (0 : Int) ≤ (i : Int) by omega, if_true, show ¬ x = rd l (i : Int) from fun e => hf i (by omega) e.symm, if_false, up (show i < 4611686018427387904 by omega)]
  exact idx132_l0 l x hl p hp hr hf n (i + 1) (by omega)
theorem peak_ev (l : List Int) (h0 : 0 < l.length) (hl : l.length < 1000000) : Ev (fun k => Sp_peak.f k l) (fp l : Int) := by
 obtain ⟨h1, h2, h3, _⟩ := fp_is l h0
 unfold Sp_peak.f
 refine Ev.bind (max106_ev l h0 (by omega)) ?_
 refine Ev.bind (f := fun k => Sp_int_132.f k l (lmax l)) (idx132_l0 l _ hl (fp l) h1 h2 h3 (fp l) 0 (by omega)) Ev.some
theorem Peak_fp (l : List Int) (h0 : 0 < l.length) (hl : l.length < 1000000) : Ev (fun k => Rf_Peak.f k l) (fp l : Int) := by
 obtain ⟨h1, h2, h3, r, e⟩ := fp_is l h0
 unfold Rf_Peak.f
 refine Ev.bind (Peaks_ev l (by omega)) ?_
 rw [e]
 simp only [List.length_cons, show (0 : Int) < ((r.length + 1 : Nat) : Int) by omega, if_true]
 exact Ev.some

def par (l : List Int) : Int × Int :=
 if fp l = 0 ∨ fp l + 1 = l.length then ((fp l : Int), 1) else
  if 2 * rd l (fp l : Int) - rd l ((fp l - 1 : Nat) : Int) - rd l ((fp l + 1 : Nat) : Int) ≤ 0 then ((fp l : Int), 1) else
   frac (2 * (2 * rd l (fp l : Int) - rd l ((fp l - 1 : Nat) : Int) - rd l ((fp l + 1 : Nat) : Int)) * (fp l : Int) + rd l ((fp l + 1 : Nat) : Int) - rd l ((fp l - 1 : Nat) : Int)) (2 * (2 * rd l (fp l : Int) - rd l ((fp l - 1 : Nat) : Int) - rd l ((fp l + 1 : Nat) : Int)))
def mdF (l : List Int) : Nat → Nat → Nat
 | 0, i => i
 | n + 1, i => if sn l l.length 0 ≤ 2 * sn l (i + 1) 0 then i else mdF l n (i + 1)
def md (l : List Int) : Nat := mdF l l.length 0
def est (l : List Int) (kind : Int) : Int × Int :=
 if sn l l.length 0 = 0 then (0, 1) else if kind = 1 then frac (wn l l.length 0) (sn l l.length 0) else if kind = 2 then par l else if kind = 3 then ((md l : Int), 1) else ((fp l : Int), 1)
theorem awake_ev : Ev (fun k => Lw_awake.f k) true :=
 Ev.of_mono (k := 40) (fun k => Lw_awake.mono k) (by kernel_rfl)
theorem CopyInts_eq (l : List Int) (h : l.length < 17592186044416) : Bs_CopyInts.f l = some l := by
 unfold Bs_CopyInts.f
 simp [h]
theorem idxF_ok (m : Int) : ∀ l : List Int, ¬ idxF (bad m) l ≥ 0 → ∀ x ∈ l, 0 ≤ x ∧ x ≤ m
  | [], _, _, hx => by cases hx
  | a :: r, h, x, hx => by
    rw [idxF_cons] at h
    cases e : bad m a with
    | true => rw [e] at h; simp at h
    | false =>
      rw [e] at h
      simp only [Bool.false_eq_true, if_false] at h
      have h' : ¬ idxF (bad m) r ≥ 0 := fun q => by rw [if_pos q] at h; exact h (by omega)
      rcases List.mem_cons.1 hx with rfl | hx
      · have := within_bad m x
        rw [e] at this
        simpa using this
      · exact idxF_ok m r h' x hx
theorem lErr_ok {l : List Int} {n : Nat} {m : Int} (h : (lErr l n m).2 = 0) : ∀ x ∈ l, 0 ≤ x ∧ x ≤ m := by
 have hlen := lErr_len h
 unfold lErr at h
 rw [if_neg (by omega), if_neg (by omega)] at h
 by_cases q : idxF (bad m) l ≥ 0
 ·rw [if_pos q] at h; simp at h
 ·exact idxF_ok m l q
theorem Ints_l0 (l : List Int) (hl : l.length < 4611686018427387904) : ∀ (n i : Nat), i + n = l.length → Ev (fun k => Bs_Ints.l0 k l l (i : Int)) true
 | 0, i, h => by
  refine Ev.succ (f := fun k => Bs_Ints.l0 k l l (i : Int)) ?_
  simp only [Bs_Ints.l0, show ¬ (i : Int) < (l.length : Int) by omega, if_false]
  exact Ev.some
 | n + 1, i, h => by
  refine Ev.succ (f := fun k => Bs_Ints.l0 k l l (i : Int)) ?_
  simp only [Bs_Ints.l0, show (i : Int) < (l.length : Int) by omega, show (0 : Int) ≤ (i : Int) by omega, if_true, up (show i < 4611686018427387904 by omega)]
  exact Ints_l0 l hl n (i + 1) (by omega)
theorem Ints_ev (l : List Int) (hl : l.length < 4611686018427387904) : Ev (fun k => Bs_Ints.f k l l) true := by
 unfold Bs_Ints.f
 simp only [if_true]
 exact Ints_l0 l hl l.length 0 (by omega)
theorem lErr_good {l : List Int} (h : (lErr l 16 10000).2 = 0) : Good l := ⟨lErr_len h, lErr_ok h⟩
theorem SpectrumErr_ev (l : List Int) : Ev (fun k => Rf_SpectrumErr.f k l) (lErr l 16 10000).2 := Ev.bind (refCheckSpectrum_ev l) Ev.some
theorem open_eq (l : List Int) : line_open.f l = some (l, (lErr l 16 10000).2) := by
 unfold line_open.f
 rw [lineCheckSpectrum_eq]; rfl
theorem PeakOf_ev (l : List Int) : Ev (fun k => line_PeakOf.f k l) (if (lErr l 16 10000).2 = 0 then ((fp l : Int), 0) else (0, (lErr l 16 10000).2)) := by
 unfold line_PeakOf.f
 rw [open_eq]
 simp only [Option.bind_some]
 by_cases h1 : (lErr l 16 10000).2 = 0
 ·have hg := lErr_good h1
  have hl := hg.1
  simp only [h1, if_true]
  exact Ev.bind (peak_ev l (by omega) (by omega)) Ev.some
 ·simp only [h1, if_false]; exact Ev.some
theorem pk_iff {l : List Int} {i : Nat} (hi : i < l.length) : pk l i = true ↔ rd l (i : Int) = lmax l := by
 have a := (lmax_le l (by omega) (rd l (i : Int)))
 have b := (lmax_le l (by omega) _).1 (Int.le_refl _) _ (rd_mem hi)
 unfold pk
 constructor
 ·intro h
  have := a.2 (by simpa using h)
  omega
 ·intro h
  simpa using a.1 (by omega)
theorem peaksFrom_length (l : List Int) : ∀ n i, (peaksFrom l n i).length ≤ n
 | 0, _ => Nat.le_refl _
 | n + 1, i => by
  have := peaksFrom_length l n (i + 1)
  rw [peaksFrom]; split <;> simp <;> omega
theorem PeaksOf_l0 (l : List Int) (hl : l.length < 1000) : ∀ (n i : Nat) (acc : List Int), i + n = l.length → acc.length ≤ i →
  Ev (fun k => line_PeaksOf.l0 k acc (lmax l) l (l.length : Int) (i : Int)) (acc ++ peaksFrom l n i, 0)
 | 0, i, acc, h, ha => by
  refine Ev.succ (f := fun k => line_PeaksOf.l0 k acc (lmax l) l (l.length : Int) (i : Int)) ?_
  simp only [line_PeaksOf.l0, show ¬ (i : Int) < (l.length : Int) by omega, if_false, peaksFrom, List.append_nil]
  exact Ev.some
 | n + 1, i, acc, h, ha => by
  refine Ev.succ (f := fun k => line_PeaksOf.l0 k acc (lmax l) l (l.length : Int) (i : Int)) ?_
  have e := pk_iff (l := l) (i := i) (by omega)
  simp only [line_PeaksOf.l0, show (i : Int) < (l.length : Int) by omega, show (0 : Int) ≤ (i : Int) by omega, if_true, show acc.length < 17592186044416 by omega, up (show i < 4611686018427387904 by omega)]
  rw [peaksFrom]
  by_cases q : rd l (i : Int) = lmax l
  ·simp only [q, e.2 q, if_true]
   have := PeaksOf_l0 l hl n (i + 1) (acc ++ [(i : Int)]) (by omega) (by simp; omega)
   simpa using this
  ·simp only [q, if_false, show ¬ pk l i = true from fun h => q (e.1 h)]
   exact PeaksOf_l0 l hl n (i + 1) acc (by omega) (by omega)
theorem PeaksOf_ev (l : List Int) : Ev (fun k => line_PeaksOf.f k l) (if (lErr l 16 10000).2 = 0 then (peaks l, 0) else ([], (lErr l 16 10000).2)) := by
 unfold line_PeaksOf.f
 rw [open_eq]
 simp only [Option.bind_some]
 by_cases h1 : (lErr l 16 10000).2 = 0
 ·have hg := lErr_good h1
  have hl := hg.1
  simp only [h1, if_true]
  refine Ev.bind (max106_ev l (by omega) (by omega)) ?_
  have := PeaksOf_l0 l (by omega) l.length 0 [] (by omega) (by simp)
  simpa [peaks] using this
 ·simp only [h1, if_false]; exact Ev.some
def whF (l b : List Int) : Nat → Nat → List Int
 | 0, _ => []
 | n + 1, i => mx 0 (wrap64 (rd l (i : Int) - rd b (i : Int))) :: whF l b n (i + 1)
theorem whF_length (l b : List Int) : ∀ n i, (whF l b n i).length = n
 | 0, _ => rfl
 | n + 1, i => by rw [whF, List.length_cons, whF_length l b n (i + 1)]
theorem Whitened_l0 (l b : List Int) (hl : l.length < 1000) (hb : l.length = b.length) : ∀ (n i : Nat) (acc : List Int), i + n = l.length → acc.length = i →
  Ev (fun k => line_Whitened.l0 k b acc l (l.length : Int) (i : Int)) (acc ++ whF l b n i, 0)
 | 0, i, acc, h, ha => by
  refine Ev.succ (f := fun k => line_Whitened.l0 k b acc l (l.length : Int) (i : Int)) ?_
  simp only [line_Whitened.l0, show ¬ (i : Int) < (l.length : Int) by omega, if_false, whF, List.append_nil]
  exact Ev.some
 | n + 1, i, acc, h, ha => by
  refine Ev.succ (f := fun k => line_Whitened.l0 k b acc l (l.length : Int) (i : Int)) ?_
  simp only [line_Whitened.l0, show (i : Int) < (l.length : Int) by omega, show (0 : Int) ≤ (i : Int) by omega, show (i : Int) < (b.length : Int) by omega, if_true, show acc.length < 17592186044416 by omega, up (show i < 4611686018427387904 by omega)]
  have := Whitened_l0 l b hl hb n (i + 1) (acc ++ [mx 0 (wrap64 (rd l (i : Int) - rd b (i : Int)))]) (by omega) (by simp; omega)
  rw [whF]
  simpa using this
theorem refWhitened_l0 (l b : List Int) (hl : l.length < 1000) (hb : l.length = b.length) : ∀ (n i : Nat) (acc : List Int), i + n = l.length → acc.length = i →
  Ev (fun k => Rf_Whitened.l0 k l b acc (i : Int)) (acc ++ whF l b n i)
 | 0, i, acc, h, ha => by
  refine Ev.succ (f := fun k => Rf_Whitened.l0 k l b acc (i : Int)) ?_
  simp only [Rf_Whitened.l0, show ¬ (i : Int) < (l.length : Int) by omega, if_false, whF, List.append_nil]
  exact Ev.some
 | n + 1, i, acc, h, ha => by
  refine Ev.succ (f := fun k => Rf_Whitened.l0 k l b acc (i : Int)) ?_
  simp only [Rf_Whitened.l0, show (i : Int) < (l.length : Int) by omega, show (0 : Int) ≤ (i : Int) by omega, show (i : Int) < (b.length : Int) by omega, if_true, show acc.length < 17592186044416 by omega, up (show i < 4611686018427387904 by omega)]
  have := refWhitened_l0 l b hl hb n (i + 1) (acc ++ [mx 0 (wrap64 (rd l (i : Int) - rd b (i : Int)))]) (by omega) (by simp; omega)
  rw [whF]
  simpa using this
def bErr (l b : List Int) : Int := if (lErr l 16 10000).2 = 0 then (if (lErr b 16 10000).2 = 0 then (if l.length = b.length then 0 else 13) else (lErr b 16 10000).2) else (lErr l 16 10000).2
theorem Whitened_ev (l b : List Int) : Ev (fun k => line_Whitened.f k l b) (if bErr l b = 0 then (whF l b l.length 0, 0) else ([], bErr l b)) := by
 unfold line_Whitened.f bErr
 rw [open_eq, open_eq]
 simp only [Option.bind_some, unless_eq, beq_iff_eq]
 refine Ev.bind (first_ev _ (by simp)) ?_
 by_cases h1 : (lErr l 16 10000).2 = 0
 ·by_cases h2 : (lErr b 16 10000).2 = 0
  ·by_cases h3 : l.length = b.length
   ·have hl := (lErr_good h1).1
    simp only [fnz, h1, h2, h3, if_true]
    have := Whitened_l0 l b (by omega) h3 l.length 0 [] (by omega) (by simp)
    simp only [h3] at this
    simpa using this
   ·have h3' : ¬ (l.length : Int) = (b.length : Int) := by omega
    simp only [fnz, h1, h2, h3, h3', if_true, if_false, show ¬ (13 : Int) = 0 by decide]; exact Ev.some
  ·simp only [fnz, h1, h2, if_true, if_false]; exact Ev.some
 ·simp only [fnz, h1, if_false]; exact Ev.some
theorem BothErr_ev (l b : List Int) : Ev (fun k => Rf_BothErr.f k l b) (bErr l b) := by
 unfold Rf_BothErr.f bErr
 refine Ev.bind (SpectrumErr_ev l) ?_
 by_cases h1 : (lErr l 16 10000).2 = 0
 ·simp only [h1, if_true]
  refine Ev.bind (SpectrumErr_ev b) ?_
  by_cases h2 : (lErr b 16 10000).2 = 0
  ·by_cases h3 : l.length = b.length
   ·simp only [h2, h3, if_true]; exact Ev.some
   ·have h3' : ¬ (l.length : Int) = (b.length : Int) := by omega
    simp only [h2, h3, h3', if_true, if_false]; exact Ev.some
  ·simp only [h2, if_false]; exact Ev.some
 ·simp only [h1, if_false]; exact Ev.some
theorem LineSpectra_ev (l b : List Int) : Ev (fun k => Lw_LineSpectra.f k l b) true := by
  unfold Lw_LineSpectra.f
  refine Ev.bind awake_ev ?_
  simp only [if_true, short_eq, Option.bind_some]
  have hj : ∀ c : Bool, (c = false → l.length ≤ 20 ∧ b.length ≤ 20) → Ev (fun k => Lw_LineSpectra.j0 k l b c) true := fun c hc => by
    refine Ev.succ (f := fun k => Lw_LineSpectra.j0 k l b c) ?_
    cases c with
    | true => simp only [Lw_LineSpectra.j0, if_true]; exact Ev.some
    | false =>
      obtain ⟨a1, a2⟩ := hc rfl
      simp only [Lw_LineSpectra.j0, Bool.false_eq_true, if_false]
      rw [CopyInts_eq l (by omega), CopyInts_eq b (by omega)]
      simp only [Option.bind_some, lineCheckSpectrum_eq]
      refine Ev.bind (PeakOf_ev l) ?_
      refine Ev.bind (PeaksOf_ev l) ?_
      refine Ev.bind (Whitened_ev l b) ?_
      refine Ev.bind (refCheckSpectrum_ev l) ?_
      simp only [if_true, bne_self_eq_false]
      refine Ev.succ (f := fun k => Lw_LineSpectra.j1 k l b _ _ _ _ _ _ _ _) ?_
      simp only [Lw_LineSpectra.j1, Bool.false_eq_true, if_false]
      have hj2 : Ev (fun k => Lw_LineSpectra.j2 k l b (if bErr l b = 0 then (whF l b l.length 0, (0 : Int)) else ([], bErr l b)).1 (if bErr l b = 0 then (whF l b l.length 0, (0 : Int)) else ([], bErr l b)).2 false) true := by
        refine Ev.succ (f := fun k => Lw_LineSpectra.j2 k l b _ _ _) ?_
        simp only [Lw_LineSpectra.j2, Bool.false_eq_true, if_false]
        refine Ev.bind (BothErr_ev l b) ?_
        by_cases hb : bErr l b = 0
        · have hlb : l.length = b.length := by
            unfold bErr at hb
            by_cases h1 : (lErr l 16 10000).2 = 0
            · by_cases h2 : (lErr b 16 10000).2 = 0
              · by_cases h3 : l.length = b.length
                · exact h3
                · simp only [h1, h2, h3, if_true, if_false] at hb; simp at hb
              · simp only [h1, h2, if_true, if_false] at hb
            · simp only [h1, if_false] at hb
          simp only [hb, if_true]
          refine Ev.bind (a := whF l b l.length 0) ?_ ?_
          · have := refWhitened_l0 l b (by omega) hlb l.length 0 [] (by omega) (by simp)
            simpa [Rf_Whitened.f] using this
          · exact Ev.bind (Ints_ev _ (by rw [whF_length]; omega)) Ev.some
        · simp only [hb, if_true, if_false]; exact Ev.some
      by_cases h1 : (lErr l 16 10000).2 = 0
      · have hg := lErr_good h1
        have hl := hg.1
        simp only [h1, if_true]
        refine Ev.bind (Peak_fp l (by omega) (by omega)) ?_
        simp only [if_true]
        refine Ev.bind (Peaks_ev l (by omega)) ?_
        refine Ev.bind (Ints_ev _ (by have := peaksFrom_length l l.length 0; unfold peaks; omega)) ?_
        exact hj2
      · simp only [h1, if_false, if_true, List.length_nil, Int.ofNat_zero]
        exact hj2
  by_cases h1 : (l.length : Int) ≤ 20
  · simp only [h1, decide_true, if_true]
    refine hj _ (fun hb => ?_)
    simp only [Bool.not_eq_false', decide_eq_true_eq] at hb
    omega
  · simp only [h1, decide_false, Bool.false_eq_true, if_false]
    exact hj true (by simp)
theorem LineSpectra_pure (l : List Int) (_ : l.length ≤ maxLen) (_ : ∀ x ∈ l, (Lit.int .i64 x).wf = true) (b : List Int) (_ : b.length ≤ maxLen) (_ : ∀ x ∈ b, (Lit.int .i64 x).wf = true) :
  ∃ k, Lw_LineSpectra.f k l b = some true := (LineSpectra_ev l b).ex
end Go.Proofs.YtjnkphmcndaijaaDoor.P
