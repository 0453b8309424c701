/-
PLAIN LAW: what the walks compute answers as the statement says (no program in sight; Ev: from some number of rounds on).
-/
import Derived.Test.YtjnkphmcndaijaaDoorApa13
import Derived.Test.YtjnkphmcndaijaaDoorApa14
import Derived.Test.YtjnkphmcndaijaaDoorApa15
import Derived.Test.YtjnkphmcndaijaaDoorApa04
import Derived.Test.YtjnkphmcndaijaaDoorApa05
import Derived.Test.YtjnkphmcndaijaaDoorApa08
namespace Go.Proofs.YtjnkphmcndaijaaDoor.P
open Go Go.RowKit Go.Proofs.YtjnkphmcndaijaaDoor.A Go.Proofs.YtjnkphmcndaijaaDoorW.PrintWords Go.Proofs.YtjnkphmcndaijaaDoorW.PrintLast Go.Proofs.YtjnkphmcndaijaaDoorW.PrintMore
set_option linter.unusedSimpArgs false
set_option linter.unusedVariables false
/-- From some number of rounds on, f says r. -/
def Ev {α : Type} (f : Nat → Option α) (r : α) : Prop := ∃ k, ∀ j, k ≤ j → f j = some r

theorem Ev.some {α : Type} {r : α} : Ev (fun _ => Option.some r) r := ⟨0, fun _ _ => rfl⟩
theorem Ev.bind {α β : Type} {f : Nat → Option α} {g : Nat → α → Option β} {a : α} {b : β} (h : Ev f a) (h2 : Ev (fun k => g k a) b) : Ev (fun k => (f k).bind (g k)) b := by
  obtain ⟨k, hk⟩ := h
  obtain ⟨m, hm⟩ := h2
  exact ⟨max k m, fun j hj => by show (f j).bind (g j) = _; rw [hk j (by omega)]; exact hm j (by omega)⟩
theorem Ev.succ {α : Type} {f : Nat → Option α} {r : α} (h : Ev (fun k => f (k + 1)) r) : Ev f r := by
  obtain ⟨k, hk⟩ := h
  exact ⟨k + 1, fun j hj => by obtain ⟨m, rfl⟩ : ∃ m, j = m + 1 := ⟨j - 1, by omega⟩; exact hk m (by omega)⟩
theorem Ev.congr {α : Type} {f g : Nat → Option α} {r : α} (e : ∀ k, f k = g k) (h : Ev f r) : Ev g r := by
  obtain ⟨k, hk⟩ := h
  exact ⟨k, fun j hj => by rw [← e j]; exact hk j hj⟩
theorem Ev.ex {α : Type} {f : Nat → Option α} {r : α} (h : Ev f r) : ∃ k, f k = Option.some r := let ⟨k, hk⟩ := h; ⟨k, hk k (Nat.le_refl _)⟩
theorem Ev.of_mono {α : Type} {f : Nat → Option α} {r : α} (hm : ∀ k, LeO (f k) (f (k + 1))) {k : Nat} (h : f k = Option.some r) : Ev f r := by
  refine ⟨k, fun j hj => ?_⟩
  induction j with
  | zero => obtain rfl : k = 0 := by omega
            exact h
  | succ j ih =>
    by_cases e : k = j + 1
    · subst e; exact h
    · exact hm j r (ih (by omega))
theorem up {i : Nat} (h : i < 4611686018427387904) : wrap64 ((i : Int) + 1) = ((i + 1 : Nat) : Int) := by
  unfold wrap64; omega
theorem w64 {n : Int} (h : -9223372036854775808 ≤ n ∧ n ≤ 9223372036854775807) : wrap64 n = n := by unfold wrap64; omega
theorem rd_nat (l : List Int) (i : Nat) : rd l (i : Int) = l.getD i 0 := by unfold rd; simp
theorem drop_rd {l : List Int} {i : Nat} (h : i < l.length) : l.drop i = rd l (i : Int) :: l.drop (i + 1) := by
  rw [rd_nat, List.drop_eq_getElem_cons h]
  simp [List.getD_eq_getElem?_getD, h]

theorem mx_eq (a b : Int) : mx a b = max a b := by unfold mx; split <;> omega

theorem within_eq (a b c : Int) : line_within.f a b c = some (decide (b ≤ a ∧ a ≤ c)) := by
  unfold line_within.f
  by_cases h : b ≤ a <;> simp [h]
theorem Within_eq (a b c : Int) : glidepathbase_Within.f a b c = some (decide (b ≤ a ∧ a ≤ c)) := by
  unfold glidepathbase_Within.f
  by_cases h : b ≤ a <;> simp [h]
theorem unless_eq (b : Bool) (e : Int) : line_unless.f b e = some (if b = true then 0 else e) := by
  unfold line_unless.f
  cases b <;> simp
/-- The first number that is not 0. -/
def fnz : List Int → Int
  | [] => 0
  | x :: r => if x = 0 then fnz r else x

theorem first_l0 (l : List Int) (hl : l.length < 4611686018427387904) : ∀ (n i : Nat), i + n = l.length → Ev (fun k => line_first.l0 k l (l.length : Int) (i : Int)) (fnz (l.drop i))
  | 0, i, h => by
    refine Ev.succ (f := fun k => line_first.l0 k l (l.length : Int) (i : Int)) ?_
    have h1 : ¬ (i : Int) < (l.length : Int) := by omega
    simp only [line_first.l0, h1, if_false]
    rw [show l.drop i = [] from List.drop_eq_nil_of_le (by omega)]
    exact Ev.some
  | n + 1, i, h => by
    refine Ev.succ (f := fun k => line_first.l0 k l (l.length : Int) (i : Int)) ?_
    have h1 : (i : Int) < (l.length : Int) := by omega
    have h2 : (0 : Int) ≤ (i : Int) := by omega
    simp only [line_first.l0, h1, h2, if_true, up (show i < 4611686018427387904 by omega)]
    rw [drop_rd (show i < l.length by omega)]
    unfold fnz
    by_cases e : rd l (i : Int) = 0
    · simp only [e, if_true]
      exact first_l0 l hl n (i + 1) (by omega)
    · simp only [e, if_false]
      exact Ev.some
theorem first_ev (l : List Int) (hl : l.length < 4611686018427387904) : Ev (fun k => line_first.f k l) (fnz l) := first_l0 l hl l.length 0 (by omega)

/-- Not from 0 to m. -/
def bad (m x : Int) : Bool := !(decide (0 ≤ x) && decide (x ≤ m))
theorem within_bad (m x : Int) : decide (0 ≤ x ∧ x ≤ m) = !bad m x := by
  unfold bad; by_cases h : 0 ≤ x <;> by_cases h2 : x ≤ m <;> simp [h, h2]
/-- The index of the first one that is not within, or none; the number of the error. -/
def lErr (l : List Int) (n : Nat) (m : Int) : Int × Int :=
  if l.length = 0 then (0, 10) else if n < l.length then (0, 8) else
    if idxF (bad m) l ≥ 0 then (idxF (bad m) l, 2) else (0, 0)

theorem listErr_eq (l : List Int) (n : Nat) (m : Int) : line_listErr.f l (n : Int) m = some (lErr l n m) := by
  have hb : (fun x : Int => !(decide (0 ≤ x) && decide (x ≤ m))) = bad m := rfl
  unfold line_listErr.f lErr
  rw [hb]
  by_cases h0 : l.length = 0
  · simp only [h0, if_true]
  · by_cases h1 : n < l.length
    · have h2 : (n : Int) < (l.length : Int) := by omega
      simp only [h0, h1, h2, if_true, if_false]
    · have h2 : ¬ (n : Int) < (l.length : Int) := by omega
      simp only [h0, h1, h2, if_false]
      split <;> rfl
theorem lineCheckSpectrum_eq (l : List Int) : line_CheckSpectrum.f l = some (lErr l 16 10000) := by
  have h : line_listErr.f l 16 10000 = some (lErr l 16 10000) := listErr_eq l 16 10000
  unfold line_CheckSpectrum.f; rw [h]; rfl
theorem idxF_nil (p : Int → Bool) : idxF p [] = -1 := rfl
theorem idxF_ge (p : Int → Bool) (l : List Int) : -1 ≤ idxF p l := by
  unfold idxF
  cases l.findIdx? p <;> simp <;> omega
theorem idxF_cons (p : Int → Bool) (a : Int) (r : List Int) : idxF p (a :: r) = if p a = true then 0 else if idxF p r ≥ 0 then idxF p r + 1 else -1 := by
  unfold idxF
  rw [List.findIdx?_cons]
  by_cases h : p a = true
  · simp [h]
  · simp only [h, if_false, Bool.false_eq_true]
    cases r.findIdx? p with
    | none => simp
    | some i => simp <;> omega

theorem refSpectrum_l0 (l : List Int) (hl : l.length < 4611686018427387904) : ∀ (n i : Nat), i + n = l.length →
    Ev (fun k => glidepathref02_CheckSpectrum.l0 k l (i : Int)) (if idxF (bad 10000) (l.drop i) ≥ 0 then (idxF (bad 10000) (l.drop i) + i, 2) else (0, 0))
  | 0, i, h => by
    refine Ev.succ (f := fun k => glidepathref02_CheckSpectrum.l0 k l (i : Int)) ?_
    have h1 : ¬ (i : Int) < (l.length : Int) := by omega
    simp only [glidepathref02_CheckSpectrum.l0, h1, if_false]
    rw [show l.drop i = [] from List.drop_eq_nil_of_le (by omega), idxF_nil]
    exact Ev.some
  | n + 1, i, h => by
    refine Ev.succ (f := fun k => glidepathref02_CheckSpectrum.l0 k l (i : Int)) ?_
    have h1 : (i : Int) < (l.length : Int) := by omega
    have h2 : (0 : Int) ≤ (i : Int) := by omega
    simp only [glidepathref02_CheckSpectrum.l0, h1, h2, if_true, up (show i < 4611686018427387904 by omega), Within_eq, within_bad, Option.bind_some]
    rw [drop_rd (show i < l.length by omega), idxF_cons]
    cases e : bad 10000 (rd l (i : Int)) with
    | false =>
      simp only [e, Bool.not_false, if_true, Bool.false_eq_true, if_false]
      have ih := refSpectrum_l0 l hl n (i + 1) (by omega)
      have hg := idxF_ge (bad 10000) (l.drop (i + 1))
      by_cases q : idxF (bad 10000) (l.drop (i + 1)) ≥ 0
      · simp only [q, if_true] at ih ⊢
        rw [if_pos (by omega), show idxF (bad 10000) (l.drop (i + 1)) + 1 + (i : Int) = idxF (bad 10000) (l.drop (i + 1)) + ((i + 1 : Nat) : Int) by omega]
        exact ih
      · simp only [q, if_false] at ih ⊢
        exact ih
    | true =>
      simp only [e, Bool.not_true, Bool.false_eq_true, if_false, if_true]
      rw [if_pos (by omega), Int.zero_add]
      exact Ev.some
theorem refCheckSpectrum_ev (l : List Int) : Ev (fun k => glidepathref02_CheckSpectrum.f k l) (lErr l 16 10000) := by
  unfold glidepathref02_CheckSpectrum.f lErr
  by_cases h0 : l.length = 0
  · have : (l.length : Int) = 0 := by omega
    simp only [h0, if_true]
    exact Ev.some
  · have h0' : ¬ (l.length : Int) = 0 := by omega
    by_cases h1 : 16 < l.length
    · have h2 : (l.length : Int) > 16 := by omega
      simp only [h0, h0', h1, h2, if_true, if_false]
      exact Ev.some
    · have h2 : ¬ (l.length : Int) > 16 := by omega
      simp only [h0, h0', h1, h2, if_false]
      have := refSpectrum_l0 l (by omega) l.length 0 (by omega)
      simpa using this
/-- What the program says for it (the one number without a positive twin stays as it is). -/
def gq (x y : Int) : Int := if Int.gcd x y = 9223372036854775808 then -9223372036854775808 else (Int.gcd x y : Int)

def lmx : List Int → Int → Int
  | [], a => a
  | x :: r, a => lmx r (mx a x)
theorem lmx_le : ∀ (l : List Int) (a b : Int), lmx l a ≤ b ↔ a ≤ b ∧ ∀ x ∈ l, x ≤ b
  | [], a, b => by simp [lmx]
  | x :: r, a, b => by
    rw [lmx, lmx_le r, mx_eq]
    simp only [List.mem_cons, forall_eq_or_imp]
    constructor
    · rintro ⟨h, h2⟩; exact ⟨by omega, by omega, h2⟩
    · rintro ⟨h, h2, h3⟩; exact ⟨by omega, h3⟩
theorem max_le (l : List Int) (h0 : 0 < l.length) (b : Int) : lmx (l.drop 1) (rd l 0) ≤ b ↔ ∀ x ∈ l, x ≤ b := by
  rw [lmx_le]
  have e := drop_rd (l := l) (i := 0) h0
  simp only [List.drop_zero, Nat.zero_add] at e
  constructor
  · rintro ⟨h1, h2⟩ x hx
    rw [e] at hx
    rcases List.mem_cons.1 hx with rfl | hx
    · exact h1
    · exact h2 x hx
  · intro h
    exact ⟨h _ (by rw [e]; exact List.mem_cons_self), fun x hx => h x (List.mem_of_mem_drop hx)⟩

theorem lErr_len {l : List Int} {n : Nat} {m : Int} (h : (lErr l n m).2 = 0) : 1 ≤ l.length ∧ l.length ≤ n := by
  unfold lErr at h
  by_cases h0 : l.length = 0
  · simp [h0] at h
  · by_cases h1 : n < l.length
    · simp [h0, h1] at h
    · omega
theorem max106_l0 (l : List Int) (hl : l.length < 4611686018427387904) : ∀ (n i : Nat) (a : Int), i + n = l.length → Ev (fun k => line_spectrum_int_106.l0 k l a (i : Int)) (lmx (l.drop i) a)
  | 0, i, a, h => by
    refine Ev.succ (f := fun k => line_spectrum_int_106.l0 k l a (i : Int)) ?_
    simp only [line_spectrum_int_106.l0, show ¬ (i : Int) < (l.length : Int) by omega, if_false]
    rw [show l.drop i = [] from List.drop_eq_nil_of_le (by omega)]
    exact Ev.some
  | n + 1, i, a, h => by
    refine Ev.succ (f := fun k => line_spectrum_int_106.l0 k l a (i : Int)) ?_
    simp only [line_spectrum_int_106.l0, show (i : Int) < (l.length : Int) by omega, show (0 : Int) ≤ (i : Int) by omega, if_true, up (show i < 4611686018427387904 by omega)]
    rw [drop_rd (show i < l.length by omega)]
    exact max106_l0 l hl n (i + 1) _ (by omega)
/-- The greatest number of a list. -/
def lmax (l : List Int) : Int := lmx (l.drop 1) (rd l 0)
theorem max106_ev (l : List Int) (h0 : 0 < l.length) (hl : l.length < 4611686018427387904) : Ev (fun k => line_spectrum_int_106.f k l) (lmax l) := by
  unfold line_spectrum_int_106.f
  simp only [show ¬ (l.length : Int) < 1 by omega, show (0 : Int) < (l.length : Int) by omega, if_true, if_false]
  exact max106_l0 l hl (l.length - 1) 1 _ (by omega)
theorem lmax_le (l : List Int) (h0 : 0 < l.length) (b : Int) : lmax l ≤ b ↔ ∀ x ∈ l, x ≤ b := max_le l h0 b
theorem lmx_mem : ∀ (l : List Int) (a : Int), lmx l a = a ∨ lmx l a ∈ l
  | [], a => .inl rfl
  | x :: r, a => by
    rw [lmx]
    rcases lmx_mem r (mx a x) with h | h
    · rw [h]
      unfold mx
      split
      · exact .inr List.mem_cons_self
      · exact .inl rfl
    · exact .inr (List.mem_cons_of_mem _ h)
theorem lmax_mem (l : List Int) (h0 : 0 < l.length) : lmax l ∈ l := by
  have e := drop_rd (l := l) (i := 0) h0
  simp only [List.drop_zero, Nat.zero_add] at e
  rcases lmx_mem (l.drop 1) (rd l 0) with h | h
  · unfold lmax; rw [h]; rw [e]; exact List.mem_cons_self
  · exact List.mem_of_mem_drop h
theorem rd_mem {l : List Int} {i : Nat} (h : i < l.length) : rd l (i : Int) ∈ l := by
  rw [rd_nat, List.getD_eq_getElem?_getD, List.getElem?_eq_getElem h]; exact List.getElem_mem h
theorem mem_rd {l : List Int} {x : Int} (h : x ∈ l) : ∃ i : Nat, i < l.length ∧ rd l (i : Int) = x := by
  obtain ⟨i, hi, e⟩ := List.getElem_of_mem h
  exact ⟨i, hi, by rw [rd_nat, List.getD_eq_getElem?_getD, List.getElem?_eq_getElem hi]; exact e⟩

/-- Line i is as great as any. -/
def pk (l : List Int) (i : Nat) : Bool := l.all fun x => decide (x ≤ rd l (i : Int))
def peaksFrom (l : List Int) : Nat → Nat → List Int
  | 0, _ => []
  | n + 1, i => if pk l i = true then (i : Int) :: peaksFrom l n (i + 1) else peaksFrom l n (i + 1)
theorem mem_peaksFrom (l : List Int) : ∀ (n i : Nat) (p : Int), p ∈ peaksFrom l n i ↔ ∃ q : Nat, p = (q : Int) ∧ i ≤ q ∧ q < i + n ∧ pk l q = true
  | 0, i, p => by simp [peaksFrom]; omega
  | n + 1, i, p => by
    rw [peaksFrom]
    by_cases h : pk l i = true
    · rw [if_pos h, List.mem_cons, mem_peaksFrom l n (i + 1)]
      constructor
      · rintro (rfl | ⟨q, rfl, a, b, c⟩)
        · exact ⟨i, rfl, by omega, by omega, h⟩
        · exact ⟨q, rfl, by omega, by omega, c⟩
      · rintro ⟨q, rfl, a, b, c⟩
        by_cases e : q = i
        · subst e; exact .inl rfl
        · exact .inr ⟨q, rfl, by omega, by omega, c⟩
    · rw [if_neg h, mem_peaksFrom l n (i + 1)]
      constructor
      · rintro ⟨q, rfl, a, b, c⟩; exact ⟨q, rfl, by omega, by omega, c⟩
      · rintro ⟨q, rfl, a, b, c⟩
        exact ⟨q, rfl, by rcases Nat.lt_or_ge i q with h' | h'; exact h'; obtain rfl : q = i := by omega
                          exact absurd c h, by omega, c⟩

/-- All peaks. -/
def peaks (l : List Int) : List Int := peaksFrom l l.length 0
theorem peaks_cons (l : List Int) (h0 : 0 < l.length) : ∃ (p : Nat) (r : List Int), peaks l = (p : Int) :: r ∧ p < l.length ∧ rd l (p : Int) = lmax l := by
  obtain ⟨i, hi, e⟩ := mem_rd (lmax_mem l h0)
  have hmem : (i : Int) ∈ peaks l := (mem_peaksFrom l _ _ _).2 ⟨i, rfl, by omega, by omega, by unfold pk; rw [e]; simpa using (lmax_le l h0 _).1 (Int.le_refl _)⟩
  cases hp : peaks l with
  | nil => rw [hp] at hmem; cases hmem
  | cons p r =>
    obtain ⟨q, rfl, _, hq, hk⟩ := (mem_peaksFrom l _ _ p).1 (by show p ∈ peaks l; rw [hp]; exact List.mem_cons_self)
    refine ⟨q, r, rfl, by omega, ?_⟩
    have h1 : lmax l ≤ rd l (q : Int) := (lmax_le l h0 _).2 (by simpa [pk] using hk)
    have h2 : rd l (q : Int) ≤ lmax l := (lmax_le l h0 _).1 (Int.le_refl _) _ (rd_mem (by omega))
    omega
/-- A fraction in lowest terms, as both say it. -/
def frac (a b : Int) : Int × Int := (wrap64 (Int.tdiv a (gq a b)), wrap64 (Int.tdiv b (gq a b)))
/-- A row of a valid case, or a valid spectrum. -/
def Good (l : List Int) : Prop := (1 ≤ l.length ∧ l.length ≤ 16) ∧ ∀ x ∈ l, 0 ≤ x ∧ x ≤ 10000
/-- The sum of n powers from line i on, and their sum with the lines' numbers. -/
def sn (l : List Int) : Nat → Nat → Int
  | 0, _ => 0
  | n + 1, i => rd l (i : Int) + sn l n (i + 1)
def wn (l : List Int) : Nat → Nat → Int
  | 0, _ => 0
  | n + 1, i => (i : Int) * rd l (i : Int) + wn l n (i + 1)
theorem rd_slice {l : List Int} {t f i : Nat} (h : f + i < t) (ht : t ≤ l.length) : rd ((l.take t).drop f) (i : Int) = rd l ((f + i : Nat) : Int) := by
  rw [rd_nat, rd_nat, List.getD_eq_getElem?_getD, List.getD_eq_getElem?_getD, List.getElem?_drop, List.getElem?_take, if_pos h]
theorem peaksFrom_first (l : List Int) : ∀ (n i : Nat) (p : Int) (r : List Int), peaksFrom l n i = p :: r → ∀ q : Nat, i ≤ q → (q : Int) < p → ¬ pk l q = true
  | 0, i, p, r, h, _, _, _ => by simp [peaksFrom] at h
  | n + 1, i, p, r, h, q, hq, hp => by
    rw [peaksFrom] at h
    by_cases e : pk l i = true
    · rw [if_pos e] at h
      have := (List.cons.inj h).1
      omega
    · rw [if_neg e] at h
      by_cases e2 : q = i
      · subst e2; exact e
      · exact peaksFrom_first l n (i + 1) p r h q (by omega) hp
/-- The first line with the maximum power. -/
def fp (l : List Int) : Nat := ((peaks l).headD 0).toNat
theorem fp_is (l : List Int) (h0 : 0 < l.length) : fp l < l.length ∧ rd l (fp l : Int) = lmax l ∧ (∀ q : Nat, q < fp l → rd l (q : Int) ≠ lmax l) ∧ ∃ r, peaks l = (fp l : Int) :: r := by
  obtain ⟨p, r, e, hp, hr⟩ := peaks_cons l h0
  have hf : fp l = p := by unfold fp; rw [e]; simp
  rw [hf]
  refine ⟨hp, hr, fun q hq hrq => ?_, r, e⟩
  refine peaksFrom_first l l.length 0 p r e q (by omega) (by omega) ?_
  unfold pk
  rw [hrq]
  simpa using (lmax_le l h0 _).1 (Int.le_refl _)
theorem idx132_l0 (l : List Int) (x : Int) (hl : l.length < 1000000) (p : Nat) (hp : p < l.length) (hr : rd l (p : Int) = x) (hf : ∀ q : Nat, q < p → rd l (q : Int) ≠ x) : ∀ (n i : Nat), i + n = p → Ev (fun k => line_spectrum_int_132.l0 k l x (l.length : Int) (i : Int)) (p : Int)
  | 0, i, h => by
    refine Ev.succ (f := fun k => line_spectrum_int_132.l0 k l x (l.length : Int) (i : Int)) ?_
    obtain rfl : i = p := by omega
    simp only [line_spectrum_int_132.l0, show (i : Int) < (l.length : Int) by omega, show (0 : Int) ≤ (i : Int) by omega, if_true, hr]
    exact Ev.some
  | n + 1, i, h => by
    refine Ev.succ (f := fun k => line_spectrum_int_132.l0 k l x (l.length : Int) (i : Int)) ?_
    simp only [line_spectrum_int_132.l0, show (i : Int) < (l.length : Int) by omega, show (0 : Int) ≤ (i : Int) by omega, if_true, show ¬ x = rd l (i : Int) from fun e => hf i (by omega) e.symm, if_false, up (show i < 4611686018427387904 by omega)]
    exact idx132_l0 l x hl p hp hr hf n (i + 1) (by omega)
theorem peak_ev (l : List Int) (h0 : 0 < l.length) (hl : l.length < 1000000) : Ev (fun k => line_spectrum_peak.f k l) (fp l : Int) := by
  obtain ⟨h1, h2, h3, _⟩ := fp_is l h0
  unfold line_spectrum_peak.f
  refine Ev.bind (max106_ev l h0 (by omega)) ?_
  refine Ev.bind (f := fun k => line_spectrum_int_132.f k l (lmax l)) (idx132_l0 l _ hl (fp l) h1 h2 h3 (fp l) 0 (by omega)) Ev.some
def par (l : List Int) : Int × Int :=
  if fp l = 0 ∨ fp l + 1 = l.length then ((fp l : Int), 1) else
    if 2 * rd l (fp l : Int) - rd l ((fp l - 1 : Nat) : Int) - rd l ((fp l + 1 : Nat) : Int) ≤ 0 then ((fp l : Int), 1) else
      frac (2 * (2 * rd l (fp l : Int) - rd l ((fp l - 1 : Nat) : Int) - rd l ((fp l + 1 : Nat) : Int)) * (fp l : Int) + rd l ((fp l + 1 : Nat) : Int) - rd l ((fp l - 1 : Nat) : Int)) (2 * (2 * rd l (fp l : Int) - rd l ((fp l - 1 : Nat) : Int) - rd l ((fp l + 1 : Nat) : Int)))
def mdF (l : List Int) : Nat → Nat → Nat
  | 0, i => i
  | n + 1, i => if sn l l.length 0 ≤ 2 * sn l (i + 1) 0 then i else mdF l n (i + 1)
def md (l : List Int) : Nat := mdF l l.length 0
def est (l : List Int) (kind : Int) : Int × Int :=
  if sn l l.length 0 = 0 then (0, 1) else if kind = 1 then frac (wn l l.length 0) (sn l l.length 0) else if kind = 2 then par l else if kind = 3 then ((md l : Int), 1) else ((fp l : Int), 1)
theorem awake_ev : Ev (fun k => glidepathlaw02_awake.f k) true :=
  Ev.of_mono (k := 40) (fun k => glidepathlaw02_awake.mono k) (by kernel_rfl)
theorem CopyInts_eq (l : List Int) (h : l.length < 17592186044416) : glidepathbase_CopyInts.f l = some l := by
  unfold glidepathbase_CopyInts.f
  simp [h]
theorem idxF_ok (m : Int) : ∀ l : List Int, ¬ idxF (bad m) l ≥ 0 → ∀ x ∈ l, 0 ≤ x ∧ x ≤ m
  | [], _, _, hx => by cases hx
  | a :: r, h, x, hx => by
    rw [idxF_cons] at h
    cases e : bad m a with
    | true => rw [e] at h; simp at h
    | false =>
      rw [e] at h
      simp only [Bool.false_eq_true, if_false] at h
      have h' : ¬ idxF (bad m) r ≥ 0 := fun q => by rw [if_pos q] at h; exact h (by omega)
      rcases List.mem_cons.1 hx with rfl | hx
      · have := within_bad m x
        rw [e] at this
        simpa using this
      · exact idxF_ok m r h' x hx
theorem lErr_ok {l : List Int} {n : Nat} {m : Int} (h : (lErr l n m).2 = 0) : ∀ x ∈ l, 0 ≤ x ∧ x ≤ m := by
  have hlen := lErr_len h
  unfold lErr at h
  rw [if_neg (by omega), if_neg (by omega)] at h
  by_cases q : idxF (bad m) l ≥ 0
  · rw [if_pos q] at h; simp at h
  · exact idxF_ok m l q
theorem lErr_good {l : List Int} (h : (lErr l 16 10000).2 = 0) : Good l := ⟨lErr_len h, lErr_ok h⟩
theorem idxF_good (m : Int) : ∀ l : List Int, (∀ x ∈ l, 0 ≤ x ∧ x ≤ m) → ¬ idxF (bad m) l ≥ 0
  | [], _ => by rw [idxF_nil]; omega
  | a :: r, h => by
    have ih := idxF_good m r (fun x hx => h x (List.mem_cons_of_mem _ hx))
    have ha := within_bad m a
    simp only [h a List.mem_cons_self, and_self, decide_true] at ha
    have hb : bad m a = false := by cases e : bad m a with
      | false => rfl
      | true => rw [e] at ha; cases ha
    rw [idxF_cons, hb]
    simp only [Bool.false_eq_true, if_false, ih]
    omega
theorem lErr_of_good {l : List Int} (h : Good l) : (lErr l 16 10000).2 = 0 := by
  have hl := h.1
  unfold lErr
  rw [if_neg (by omega), if_neg (by omega), if_neg (idxF_good 10000 l h.2)]
theorem SpectrumErr_ev (l : List Int) : Ev (fun k => glidepathref02_SpectrumErr.f k l) (lErr l 16 10000).2 := Ev.bind (refCheckSpectrum_ev l) Ev.some
theorem open_eq (l : List Int) : line_open.f l = some (l, (lErr l 16 10000).2) := by
  unfold line_open.f
  rw [lineCheckSpectrum_eq]; rfl
def thE (t : Int) : Int := if 0 ≤ t ∧ t ≤ 11000 then 0 else 2
theorem lineThreshold_eq (t : Int) : line_thresholdErr.f t = some (thE t) := by
  unfold line_thresholdErr.f thE
  simp only [within_eq, unless_eq, Option.bind_some, decide_eq_true_eq]
theorem refThreshold_eq (t : Int) : glidepathref02_ThresholdErr.f t = some (thE t) := by
  unfold glidepathref02_ThresholdErr.f thE
  simp only [Within_eq, Option.bind_some, decide_eq_true_eq]
  split <;> rfl
/-- Line j keeps line i from being one. -/
def dbad (l : List Int) (ap : Int) (i j : Nat) : Bool := decide ((j < i ∧ (i : Int) - j ≤ ap ∧ rd l (i : Int) ≤ rd l (j : Int)) ∨ (i < j ∧ (j : Int) - i ≤ ap ∧ rd l (i : Int) < rd l (j : Int)))
def noBad (l : List Int) (ap : Int) (i : Nat) : Nat → Nat → Bool
  | 0, _ => true
  | n + 1, j => !dbad l ap i j && noBad l ap i n (j + 1)
def isDet (l : List Int) (t ap : Int) (i : Nat) : Bool := decide (t ≤ rd l (i : Int)) && noBad l ap i l.length 0
def detF (l : List Int) (t ap : Int) : Nat → Nat → List Int
  | 0, _ => []
  | n + 1, i => if isDet l t ap i = true then (i : Int) :: detF l t ap n (i + 1) else detF l t ap n (i + 1)
theorem detF_length (l : List Int) (t ap : Int) : ∀ n i, (detF l t ap n i).length ≤ n
  | 0, _ => Nat.le_refl _
  | n + 1, i => by
    have := detF_length l t ap n (i + 1)
    rw [detF]; split <;> simp <;> omega
theorem noBad_iff (l : List Int) (ap : Int) (i : Nat) : ∀ n j, noBad l ap i n j = true ↔ ∀ q : Nat, j ≤ q → q < j + n → dbad l ap i q = false
  | 0, j => by simp [noBad]; omega
  | n + 1, j => by
    rw [noBad, Bool.and_eq_true, noBad_iff l ap i n (j + 1), Bool.not_eq_true']
    constructor
    · rintro ⟨a, b⟩ q h1 h2
      by_cases e : q = j
      · subst e; exact a
      · exact b q (by omega) (by omega)
    · intro h
      exact ⟨h j (by omega) (by omega), fun q h1 h2 => h q (by omega) (by omega)⟩

def df (ap : Int) (i : Nat) : Nat := i - ap.toNat
def dt (l : List Int) (ap : Int) (i : Nat) : Nat := min l.length (i + ap.toNat + 1)
theorem mn_eq' (a b : Int) : mn a b = min a b := by unfold mn; split <;> omega
theorem mem_slice {l : List Int} {t f : Nat} (ht : t ≤ l.length) (x : Int) : x ∈ (l.take t).drop f ↔ ∃ q : Nat, f ≤ q ∧ q < t ∧ rd l (q : Int) = x := by
  constructor
  · intro h
    obtain ⟨i, hi, e⟩ := mem_rd h
    simp only [List.length_drop, List.length_take] at hi
    rw [rd_slice (by omega) ht] at e
    exact ⟨f + i, by omega, by omega, e⟩
  · rintro ⟨q, h1, h2, rfl⟩
    have : rd ((l.take t).drop f) ((q - f : Nat) : Int) ∈ (l.take t).drop f := rd_mem (by simp; omega)
    rw [rd_slice (by omega) ht, show f + (q - f) = q by omega] at this
    exact this
theorem isDet_iff {l : List Int} (t : Int) {ap : Int} (hap : 0 ≤ ap ∧ ap ≤ 16) {i : Nat} (hi : i < l.length) :
    isDet l t ap i = true ↔ (t ≤ rd l (i : Int) ∧ rd l (i : Int) = lmax ((l.take (dt l ap i)).drop i) ∧ ((l.take i).drop (df ap i)).any (fun m => decide (rd l (i : Int) ≤ m)) = false) := by
  have hdt : i < dt l ap i ∧ dt l ap i ≤ l.length := by unfold dt; omega
  have hlen : ((l.take (dt l ap i)).drop i).length = dt l ap i - i := by simp; omega
  have hmax := lmax_le ((l.take (dt l ap i)).drop i) (by omega)
  unfold isDet
  rw [Bool.and_eq_true, decide_eq_true_eq, noBad_iff]
  refine and_congr_right (fun _ => ?_)
  constructor
  · intro h
    constructor
    · have h1 : lmax ((l.take (dt l ap i)).drop i) ≤ rd l (i : Int) := (hmax _).2 (fun x hx => by
        obtain ⟨q, q1, q2, rfl⟩ := (mem_slice hdt.2 x).1 hx
        have := h q (by omega) (by omega)
        unfold dbad at this
        simp only [decide_eq_false_iff_not] at this
        by_cases e : q = i
        · subst e; exact Int.le_refl _
        · have : ¬ rd l (i : Int) < rd l (q : Int) := fun c => this (.inr ⟨by omega, by unfold dt at q2; omega, c⟩)
          omega)
      have h2 : rd l (i : Int) ≤ lmax ((l.take (dt l ap i)).drop i) := (hmax _).1 (Int.le_refl _) _ ((mem_slice hdt.2 _).2 ⟨i, by omega, by omega, rfl⟩)
      omega
    · rw [Bool.eq_false_iff]
      intro hany
      obtain ⟨x, hx, hd⟩ := List.any_eq_true.1 hany
      obtain ⟨q, q1, q2, rfl⟩ := (mem_slice (by omega) x).1 hx
      have := h q (by omega) (by omega)
      unfold dbad at this
      simp only [decide_eq_false_iff_not] at this
      exact this (.inl ⟨q2, by unfold df at q1; omega, by simpa using hd⟩)
  · rintro ⟨h1, h2⟩ q _ hq
    unfold dbad
    simp only [decide_eq_false_iff_not]
    rintro (⟨a, b, c⟩ | ⟨a, b, c⟩)
    · rw [Bool.eq_false_iff] at h2
      exact h2 (List.any_eq_true.2 ⟨rd l (q : Int), (mem_slice (by omega) _).2 ⟨q, by unfold df; omega, a, rfl⟩, by simpa using c⟩)
    · have := (hmax _).1 (Int.le_refl _) _ ((mem_slice hdt.2 (rd l (q : Int))).2 ⟨q, by omega, by unfold dt; omega, rfl⟩)
      omega
theorem DetectionsIn_l0 {l : List Int} (hl : 1 ≤ l.length ∧ l.length < 1000) (t : Int) {ap : Int} (hap : 0 ≤ ap ∧ ap ≤ 16) : ∀ (n i : Nat) (acc : List Int), i + n = l.length → acc.length ≤ i →
    Ev (fun k => line_DetectionsIn.l0 k l acc l (l.length : Int) (i : Int) t ap) (acc ++ detF l t ap n i, 0)
  | 0, i, acc, h, ha => by
    refine Ev.succ (f := fun k => line_DetectionsIn.l0 k l acc l (l.length : Int) (i : Int) t ap) ?_
    simp only [line_DetectionsIn.l0, show ¬ (i : Int) < (l.length : Int) by omega, if_false, detF, List.append_nil]
    exact Ev.some
  | n + 1, i, acc, h, ha => by
    refine Ev.succ (f := fun k => line_DetectionsIn.l0 k l acc l (l.length : Int) (i : Int) t ap) ?_
    have hdt : i < dt l ap i ∧ dt l ap i ≤ l.length := by unfold dt; omega
    have e1 : mx 0 (wrap64 ((i : Int) - ap)) = (df ap i : Int) := by rw [w64 (by omega), mx_eq]; unfold df; omega
    have e2 : mn (l.length : Int) (wrap64 (wrap64 ((i : Int) + ap) + 1)) = (dt l ap i : Int) := by rw [w64 (n := (i : Int) + ap) (by omega), w64 (by omega), mn_eq']; unfold dt; omega
    have hlen : ((l.take (dt l ap i)).drop i).length = dt l ap i - i := by simp; omega
    have hd := isDet_iff (l := l) t hap (i := i) (by omega)
    have hmax := lmax_le ((l.take (dt l ap i)).drop i) (by omega)
    simp only [line_DetectionsIn.l0, show (i : Int) < (l.length : Int) by omega, show (0 : Int) ≤ (i : Int) by omega, if_true, e1, e2, show (0 : Int) ≤ (df ap i : Int) by omega, show (df ap i : Int) ≤ (i : Int) by unfold df; omega, show (i : Int) ≤ (l.length : Int) by omega, show (i : Int) ≤ (dt l ap i : Int) by omega, show (dt l ap i : Int) ≤ (l.length : Int) by omega, Int.toNat_natCast, up (show i < 4611686018427387904 by omega), show acc.length < 17592186044416 by omega, line_ContainsFunc_ge.f, Option.bind_some]
    have hskip : isDet l t ap i ≠ true → Ev (fun k => line_DetectionsIn.l0 k l acc l (l.length : Int) ((i + 1 : Nat) : Int) t ap) (acc ++ detF l t ap (n + 1) i, 0) := fun q => by
      rw [detF, if_neg q]
      exact DetectionsIn_l0 hl t hap n (i + 1) acc (by omega) (by omega)
    by_cases c1 : t ≤ rd l (i : Int)
    · simp only [show rd l (i : Int) ≥ t from c1, if_true]
      refine Ev.bind (max106_ev ((l.take (dt l ap i)).drop i) (by omega) (by omega)) ?_
      by_cases c2 : rd l (i : Int) = lmax ((l.take (dt l ap i)).drop i)
      · refine Ev.congr (fun k => (if_pos c2).symm) ?_
        cases c3 : ((l.take i).drop (df ap i)).any (fun m => decide (rd l (i : Int) ≤ m)) with
        | true =>
          simp only [if_true]
          exact hskip (fun q => by rw [(hd.1 q).2.2] at c3; cases c3)
        | false =>
          simp only [Bool.false_eq_true, if_false]
          have q := hd.2 ⟨c1, c2, c3⟩
          rw [detF, if_pos q]
          have := DetectionsIn_l0 hl t hap n (i + 1) (acc ++ [(i : Int)]) (by omega) (by simp; omega)
          simpa using this
      · refine Ev.congr (fun k => (if_neg c2).symm) ?_
        exact hskip (fun q => c2 (hd.1 q).2.1)
    · simp only [show ¬ rd l (i : Int) ≥ t from c1, if_false]
      exact hskip (fun q => c1 (hd.1 q).1)
def rErr (t ap : Int) : Int := if thE t = 0 then (if 0 ≤ ap ∧ ap ≤ 16 then 0 else 2) else thE t
theorem DetectionsIn_ev (l : List Int) (t ap : Int) : Ev (fun k => line_DetectionsIn.f k l t ap) (if (lErr l 16 10000).2 = 0 then (if rErr t ap = 0 then (detF l t ap l.length 0, 0) else ([], rErr t ap)) else ([], (lErr l 16 10000).2)) := by
  unfold line_DetectionsIn.f rErr
  rw [open_eq, lineThreshold_eq, within_eq]
  simp only [Option.bind_some, unless_eq, decide_eq_true_eq]
  refine Ev.bind (first_ev _ (by simp)) ?_
  by_cases h1 : (lErr l 16 10000).2 = 0
  · have hl := (lErr_good h1).1
    by_cases h2 : thE t = 0
    · by_cases h3 : 0 ≤ ap ∧ ap ≤ 16
      · simp only [fnz, h1, h2, h3, and_self, if_true]
        have := DetectionsIn_l0 (l := l) (by omega) t h3 l.length 0 [] (by omega) (by simp)
        simpa using this
      · simp only [fnz, h1, h2, h3, if_true, if_false, show ¬ (2 : Int) = 0 by decide]; exact Ev.some
    · simp only [fnz, h1, h2, if_true, if_false]; exact Ev.some
  · simp only [fnz, h1, if_false]; exact Ev.some
theorem RuleErr_eq (t ap : Int) : glidepathref02_RuleErr.f t ap = some (rErr t ap) := by
  unfold glidepathref02_RuleErr.f rErr
  rw [refThreshold_eq]
  simp only [Option.bind_some, Within_eq, decide_eq_true_eq]
  by_cases h2 : thE t = 0
  · by_cases h3 : 0 ≤ ap ∧ ap ≤ 16
    · simp only [h2, h3, and_self, if_true]
    · simp only [h2, h3, if_true, if_false]
  · simp only [h2, if_false]

theorem PeakOf_ev (l : List Int) : Ev (fun k => line_PeakOf.f k l) (if (lErr l 16 10000).2 = 0 then ((fp l : Int), 0) else (0, (lErr l 16 10000).2)) := by
  unfold line_PeakOf.f
  rw [open_eq]
  simp only [Option.bind_some]
  by_cases h1 : (lErr l 16 10000).2 = 0
  · have hg := lErr_good h1
    have hl := hg.1
    simp only [h1, if_true]
    exact Ev.bind (peak_ev l (by omega) (by omega)) Ev.some
  · simp only [h1, if_false]; exact Ev.some
theorem Has_l0 (l : List Int) (x : Int) (hl : l.length < 4611686018427387904) : ∀ (n i : Nat), i + n = l.length → Ev (fun k => glidepathbase_Has.l0 k l x (i : Int)) (decide (x ∈ l.drop i))
  | 0, i, h => by
    refine Ev.succ (f := fun k => glidepathbase_Has.l0 k l x (i : Int)) ?_
    simp only [glidepathbase_Has.l0, show ¬ (i : Int) < (l.length : Int) by omega, if_false]
    rw [show l.drop i = [] from List.drop_eq_nil_of_le (by omega)]
    simp only [List.not_mem_nil, decide_false]
    exact Ev.some
  | n + 1, i, h => by
    refine Ev.succ (f := fun k => glidepathbase_Has.l0 k l x (i : Int)) ?_
    simp only [glidepathbase_Has.l0, show (i : Int) < (l.length : Int) by omega, show (0 : Int) ≤ (i : Int) by omega, if_true, up (show i < 4611686018427387904 by omega)]
    have ih := Has_l0 l x hl n (i + 1) (by omega)
    rw [drop_rd (show i < l.length by omega)]
    by_cases e : rd l (i : Int) = x
    · simp only [e, if_true, List.mem_cons, true_or, decide_true]; exact Ev.some
    · have e' : ¬ x = rd l (i : Int) := fun h => e h.symm
      simp only [e, e', if_false, List.mem_cons, false_or]; exact ih
theorem Has_ev (l : List Int) (x : Int) (hl : l.length < 4611686018427387904) : Ev (fun k => glidepathbase_Has.f k l x) (decide (x ∈ l)) := by
  have := Has_l0 l x hl l.length 0 (by omega)
  simpa [glidepathbase_Has.f] using this
theorem mem_detF (l : List Int) (t ap : Int) : ∀ (n i : Nat) (p : Int), p ∈ detF l t ap n i ↔ ∃ q : Nat, p = (q : Int) ∧ i ≤ q ∧ q < i + n ∧ isDet l t ap q = true
  | 0, i, p => by simp [detF]; omega
  | n + 1, i, p => by
    rw [detF]
    by_cases h : isDet l t ap i = true
    · rw [if_pos h, List.mem_cons, mem_detF l t ap n (i + 1)]
      constructor
      · rintro (rfl | ⟨q, rfl, a, b, c⟩)
        · exact ⟨i, rfl, by omega, by omega, h⟩
        · exact ⟨q, rfl, by omega, by omega, c⟩
      · rintro ⟨q, rfl, a, b, c⟩
        by_cases e : q = i
        · subst e; exact .inl rfl
        · exact .inr ⟨q, rfl, by omega, by omega, c⟩
    · rw [if_neg h, mem_detF l t ap n (i + 1)]
      constructor
      · rintro ⟨q, rfl, a, b, c⟩; exact ⟨q, rfl, by omega, by omega, c⟩
      · rintro ⟨q, rfl, a, b, c⟩
        exact ⟨q, rfl, by rcases Nat.lt_or_ge i q with h' | h'; exact h'; obtain rfl : q = i := by omega
                          exact absurd c h, by omega, c⟩
/-- Two detections are far from each other. -/
theorem det_apart {l : List Int} {t ap : Int} {p q : Nat} (hp : isDet l t ap p = true) (hq : isDet l t ap q = true) (h : p < q) (hql : q < l.length) : ap < (q : Int) - p := by
  unfold isDet at hp hq
  rw [Bool.and_eq_true, noBad_iff] at hp hq
  have a := hp.2 q (by omega) (by omega)
  have b := hq.2 p (by omega) (by omega)
  unfold dbad at a b
  simp only [decide_eq_false_iff_not] at a b
  by_cases c : (q : Int) - p ≤ ap
  · exfalso
    by_cases d : rd l (q : Int) ≤ rd l (p : Int)
    · exact b (.inl ⟨h, c, d⟩)
    · exact a (.inr ⟨h, c, by omega⟩)
  · omega
theorem detF_pair {l : List Int} {t ap : Int} (hap : 0 ≤ ap) : ∀ (n i : Nat), i + n ≤ l.length → (detF l t ap n i).Pairwise (fun x y => ap < y - x)
  | 0, i, _ => List.Pairwise.nil
  | n + 1, i, h => by
    have ih := detF_pair (l := l) (t := t) hap n (i + 1) (by omega)
    rw [detF]
    by_cases e : isDet l t ap i = true
    · rw [if_pos e]
      refine List.Pairwise.cons (fun y hy => ?_) ih
      obtain ⟨q, rfl, q1, q2, q3⟩ := (mem_detF l t ap n (i + 1) y).1 hy
      exact det_apart (l := l) (t := t) e q3 (by omega) (by omega)
    · rw [if_neg e]; exact ih
theorem detF_step {l : List Int} {t ap : Int} (hap : 0 ≤ ap) {m : Nat} (hm : m + 1 < (detF l t ap l.length 0).length) : ap < rd (detF l t ap l.length 0) ((m + 1 : Nat) : Int) - rd (detF l t ap l.length 0) (m : Int) := by
  have h := List.pairwise_iff_getElem.1 (detF_pair (l := l) (t := t) hap l.length 0 (by omega)) m (m + 1) (by omega) hm (by omega)
  rw [rd_nat, rd_nat, List.getD_eq_getElem?_getD, List.getD_eq_getElem?_getD, List.getElem?_eq_getElem hm, List.getElem?_eq_getElem (show m < (detF l t ap l.length 0).length by omega)]
  exact h
theorem fp_det {l : List Int} (hl : 1 ≤ l.length) (t ap : Int) : isDet l t ap (fp l) = true ↔ t ≤ rd l (fp l : Int) := by
  obtain ⟨f1, f2, f3, _⟩ := fp_is l (by omega)
  unfold isDet
  rw [Bool.and_eq_true, decide_eq_true_eq]
  constructor
  · exact fun h => h.1
  · intro h
    refine ⟨h, (noBad_iff l ap (fp l) l.length 0).2 (fun q _ hq => ?_)⟩
    have hle := (lmax_le l (by omega) _).1 (Int.le_refl _) _ (rd_mem (l := l) (i := q) (by omega))
    unfold dbad
    simp only [decide_eq_false_iff_not]
    rintro (⟨a, b, c⟩ | ⟨a, b, c⟩)
    · exact f3 q a (by omega)
    · omega
theorem rErr_ok {t ap : Int} (h : rErr t ap = 0) : (0 ≤ t ∧ t ≤ 11000) ∧ 0 ≤ ap ∧ ap ≤ 16 := by
  unfold rErr at h
  by_cases e1 : thE t = 0
  · by_cases e2 : 0 ≤ ap ∧ ap ≤ 16
    · refine ⟨?_, e2⟩
      unfold thE at e1
      by_cases e3 : 0 ≤ t ∧ t ≤ 11000
      · exact e3
      · rw [if_neg e3] at e1; simp at e1
    · simp only [e1, e2, if_true, if_false] at h; simp at h
  · simp only [e1, if_false] at h
theorem apart_l1 {l : List Int} (hg : Good l) {t t2 ap : Int} (h2 : t ≤ t2) : ∀ (n i : Nat), i + n = l.length →
    Ev (fun k => glidepathlaw02_LineApart.l1 k l (detF l t ap l.length 0) (detF l t2 ap l.length 0) (i : Int) t2 ap) true
  | 0, i, h => by
    refine Ev.succ (f := fun k => glidepathlaw02_LineApart.l1 k l (detF l t ap l.length 0) (detF l t2 ap l.length 0) (i : Int) t2 ap) ?_
    simp only [glidepathlaw02_LineApart.l1, show ¬ (i : Int) < (l.length : Int) by omega, if_false]
    exact Ev.some
  | n + 1, i, h => by
    have hl := hg.1
    refine Ev.succ (f := fun k => glidepathlaw02_LineApart.l1 k l (detF l t ap l.length 0) (detF l t2 ap l.length 0) (i : Int) t2 ap) ?_
    simp only [glidepathlaw02_LineApart.l1, show (i : Int) < (l.length : Int) by omega, show (0 : Int) ≤ (i : Int) by omega, if_true, up (show i < 4611686018427387904 by omega)]
    have l1 := detF_length l t ap l.length 0
    have l2 := detF_length l t2 ap l.length 0
    refine Ev.bind (Has_ev _ _ (by omega)) ?_
    refine Ev.bind (Has_ev _ _ (by omega)) ?_
    have ih := apart_l1 hg (ap := ap) h2 n (i + 1) (by omega)
    have m1 : (i : Int) ∈ detF l t ap l.length 0 ↔ isDet l t ap i = true := by
      rw [mem_detF]
      constructor
      · rintro ⟨q, e, _, _, c⟩; obtain rfl : i = q := by omega
        exact c
      · intro c; exact ⟨i, rfl, by omega, by omega, c⟩
    have m2 : (i : Int) ∈ detF l t2 ap l.length 0 ↔ isDet l t2 ap i = true := by
      rw [mem_detF]
      constructor
      · rintro ⟨q, e, _, _, c⟩; obtain rfl : i = q := by omega
        exact c
      · intro c; exact ⟨i, rfl, by omega, by omega, c⟩
    have d1 : isDet l t2 ap i = true ↔ isDet l t ap i = true ∧ t2 ≤ rd l (i : Int) := by
      unfold isDet
      rw [Bool.and_eq_true, Bool.and_eq_true, decide_eq_true_eq, decide_eq_true_eq]
      constructor
      · rintro ⟨a, b⟩; exact ⟨⟨by omega, b⟩, a⟩
      · rintro ⟨⟨_, b⟩, a⟩; exact ⟨a, b⟩
    by_cases a : isDet l t ap i = true
    · by_cases b : t2 ≤ rd l (i : Int)
      · simp only [m1, m2, d1, a, b, and_self, decide_true, if_true, show rd l (i : Int) ≥ t2 from b, bne_self_eq_false, Bool.false_eq_true, if_false]
        exact ih
      · simp only [m1, m2, d1, a, b, and_false, decide_true, decide_false, if_true, show ¬ rd l (i : Int) ≥ t2 from b, bne_self_eq_false, Bool.false_eq_true, if_false]
        exact ih
    · simp only [m1, m2, d1, a, false_and, decide_false, if_true, bne_self_eq_false, Bool.false_eq_true, if_false]
      exact ih
theorem apart_l0 {l : List Int} (hg : Good l) {t ap more : Int} (hr : (0 ≤ t ∧ t ≤ 11000) ∧ 0 ≤ ap ∧ ap ≤ 16) (hm : 0 ≤ more ∧ more ≤ 100) : ∀ (n i : Nat), i + n = (detF l t ap l.length 0).length →
    Ev (fun k => glidepathlaw02_LineApart.l0 k l more (detF l t ap l.length 0) (fp l : Int) (i : Int) t ap) true
  | 0, i, h => by
    have hl := hg.1
    obtain ⟨f1, f2, f3, _⟩ := fp_is l (by omega)
    have l1 := detF_length l t ap l.length 0
    refine Ev.succ (f := fun k => glidepathlaw02_LineApart.l0 k l more (detF l t ap l.length 0) (fp l : Int) (i : Int) t ap) ?_
    simp only [glidepathlaw02_LineApart.l0, show ¬ (i : Int) < ((detF l t ap l.length 0).length : Int) by omega, if_false]
    refine Ev.bind (Has_ev _ _ (by omega)) ?_
    have m1 : (fp l : Int) ∈ detF l t ap l.length 0 ↔ t ≤ rd l (fp l : Int) := by
      rw [mem_detF, ← fp_det hl.1 t ap]
      constructor
      · rintro ⟨q, e, _, _, c⟩; obtain rfl : fp l = q := by omega
        exact c
      · intro c; exact ⟨fp l, rfl, by omega, by omega, c⟩
    have ge : (rd l (fp l : Int) ≥ t) = (t ≤ rd l (fp l : Int)) := rfl
    simp only [show (0 : Int) ≤ (fp l : Int) by omega, show (fp l : Int) < (l.length : Int) by omega, if_true, m1, ge, bne_self_eq_false, Bool.false_eq_true, if_false, RuleErr_eq, Option.bind_some]
    rw [w64 (n := t + more) (by omega)]
    by_cases h2 : rErr (t + more) ap = 0
    · simp only [h2, if_true]
      rw [CopyInts_eq l (by omega)]
      simp only [Option.bind_some]
      refine Ev.bind (DetectionsIn_ev l (t + more) ap) ?_
      by_cases h1 : (lErr l 16 10000).2 = 0
      · simp only [h1, h2, if_true]
        exact apart_l1 hg (show t ≤ t + more by omega) l.length 0 (by omega)
      · exact absurd (lErr_of_good hg) h1
    · simp only [h2, if_false]; exact Ev.some
  | n + 1, i, h => by
    have hl := hg.1
    have l1 := detF_length l t ap l.length 0
    refine Ev.succ (f := fun k => glidepathlaw02_LineApart.l0 k l more (detF l t ap l.length 0) (fp l : Int) (i : Int) t ap) ?_
    have ih := apart_l0 hg hr hm n (i + 1) (by omega)
    obtain ⟨q, e, _, q2, q3⟩ := (mem_detF l t ap l.length 0 _).1 (rd_mem (l := detF l t ap l.length 0) (i := i) (by omega))
    have q4 : t ≤ rd l (q : Int) := by
      unfold isDet at q3
      rw [Bool.and_eq_true, decide_eq_true_eq] at q3
      exact q3.1
    simp only [glidepathlaw02_LineApart.l0, show (i : Int) < ((detF l t ap l.length 0).length : Int) by omega, show (0 : Int) ≤ (i : Int) by omega, if_true, up (show i < 4611686018427387904 by omega), Within_eq, Option.bind_some, decide_eq_true_eq]
    rw [w64 (n := (l.length : Int) - 1) (by omega)]
    by_cases i0 : i = 0
    · subst i0
      simp only [e, show (0 : Int) ≤ (q : Int) ∧ (q : Int) ≤ (l.length : Int) - 1 by omega, and_self, show (0 : Int) ≤ (q : Int) by omega, show (q : Int) < (l.length : Int) by omega, show ¬ rd l (q : Int) < t by omega, show ¬ ((0 : Nat) : Int) > 0 by omega, if_true, if_false]
      exact ih
    · obtain ⟨m, rfl⟩ : ∃ m, i = m + 1 := ⟨i - 1, by omega⟩
      have hs := detF_step (l := l) (t := t) hr.2.1 (m := m) (by omega)
      have w1 : wrap64 (((m + 1 : Nat) : Int) - 1) = (m : Int) := by unfold wrap64; omega
      obtain ⟨q', e', _, q2', q3'⟩ := (mem_detF l t ap l.length 0 _).1 (rd_mem (l := detF l t ap l.length 0) (i := m) (by omega))
      rw [e, e'] at hs
      simp only [e, e', w1, show (0 : Int) ≤ (q : Int) ∧ (q : Int) ≤ (l.length : Int) - 1 by omega, and_self, show (0 : Int) ≤ (q : Int) by omega, show (q : Int) < (l.length : Int) by omega, show ¬ rd l (q : Int) < t by omega, show ((m + 1 : Nat) : Int) > 0 by omega, show (0 : Int) ≤ (m : Int) by omega, show (m : Int) < ((detF l t ap l.length 0).length : Int) by omega, show ¬ (q : Int) ≤ (q' : Int) by omega, w64 (n := (q : Int) - (q' : Int)) (by omega), show ¬ (q : Int) - (q' : Int) ≤ ap by omega, if_true, if_false]
      exact ih
theorem LineApart_ev (l : List Int) (t ap more : Int) : Ev (fun k => glidepathlaw02_LineApart.f k l t ap more) true := by
  unfold glidepathlaw02_LineApart.f
  refine Ev.bind awake_ev ?_
  simp only [if_true]
  refine Ev.bind (SpectrumErr_ev l) ?_
  have hj : ∀ c : Bool, (c = false → (lErr l 16 10000).2 = 0 ∧ rErr t ap = 0 ∧ 0 ≤ more ∧ more ≤ 100) → Ev (fun k => glidepathlaw02_LineApart.j0 k l more c t ap) true := fun c hc => by
    refine Ev.succ (f := fun k => glidepathlaw02_LineApart.j0 k l more c t ap) ?_
    cases c with
    | true => simp only [glidepathlaw02_LineApart.j0, if_true]; exact Ev.some
    | false =>
      obtain ⟨h1, h2, h3⟩ := hc rfl
      have hg := lErr_good h1
      have hl := hg.1
      obtain ⟨f1, f2, f3, _⟩ := fp_is l (by omega)
      have l1 := detF_length l t ap l.length 0
      simp only [glidepathlaw02_LineApart.j0, Bool.false_eq_true, if_false]
      rw [CopyInts_eq l (by omega)]
      simp only [Option.bind_some]
      refine Ev.bind (DetectionsIn_ev l t ap) ?_
      refine Ev.bind (PeakOf_ev l) ?_
      simp only [h1, h2, if_true, Within_eq, Option.bind_some, decide_eq_true_eq]
      rw [w64 (n := (l.length : Int) - 1) (by omega)]
      simp only [show (0 : Int) ≤ (fp l : Int) ∧ (fp l : Int) ≤ (l.length : Int) - 1 by omega, and_self, if_true]
      refine Ev.succ (f := fun k => glidepathlaw02_LineApart.j1 k l more _ _ _ t ap) ?_
      simp only [glidepathlaw02_LineApart.j1, show ¬ ((detF l t ap l.length 0).length : Int) > (l.length : Int) by omega, decide_false, Bool.false_eq_true, if_false]
      exact apart_l0 hg (rErr_ok h2) h3 (detF l t ap l.length 0).length 0 (by omega)
  by_cases h1 : (lErr l 16 10000).2 = 0
  · simp only [h1, if_true, RuleErr_eq, Option.bind_some]
    by_cases h2 : rErr t ap = 0
    · simp only [h2, if_true, Within_eq, Option.bind_some]
      refine hj _ (fun hb => ?_)
      simp only [Bool.not_eq_false', decide_eq_true_eq] at hb
      exact ⟨h1, h2, hb⟩
    · simp only [h2, if_false]
      exact hj true (by simp)
  · simp only [h1, if_false]
    exact hj true (by simp)
theorem LineApart_pure (l : List Int) (_ : l.length ≤ maxLen) (_ : ∀ x ∈ l, (Lit.int .i64 x).wf = true) (t : Int) (_ : (Lit.int .i64 t).wf = true) (ap : Int) (_ : (Lit.int .i64 ap).wf = true) (a : Int) (_ : (Lit.int .i64 a).wf = true) :
    ∃ k, glidepathlaw02_LineApart.f k l t ap a = some true := (LineApart_ev l t ap a).ex
end Go.Proofs.YtjnkphmcndaijaaDoor.P
