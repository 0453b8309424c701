/-
PLAIN LAW: what the walks compute answers as the statement says (no program in sight; Ev: from some number of rounds on).
-/
import Derived.Test.YtjnkphmcndaijaaDoorHar13
import Derived.Test.YtjnkphmcndaijaaDoorHar12
import Derived.Test.YtjnkphmcndaijaaDoorHar04
import Derived.Test.YtjnkphmcndaijaaDoorHar15
import Derived.Test.YtjnkphmcndaijaaDoorHar14
import Derived.Test.YtjnkphmcndaijaaDoorHar09
import Derived.Test.YtjnkphmcndaijaaDoorHar06
namespace Go.Proofs.YtjnkphmcndaijaaDoor.P
open Go Go.RowKit Go.Proofs.YtjnkphmcndaijaaDoor.A Go.Proofs.YtjnkphmcndaijaaDoorW.PrintWords Go.Proofs.YtjnkphmcndaijaaDoorW.PrintLast Go.Proofs.YtjnkphmcndaijaaDoorW.PrintMore
set_option linter.unusedSimpArgs false
set_option linter.unusedVariables false
/-- From some number of rounds on, f says r. -/
def Ev {α : Type} (f : Nat → Option α) (r : α) : Prop := ∃ k, ∀ j, k ≤ j → f j = some r

theorem Ev.some {α : Type} {r : α} : Ev (fun _ => Option.some r) r := ⟨0, fun _ _ => rfl⟩
theorem Ev.bind {α β : Type} {f : Nat → Option α} {g : Nat → α → Option β} {a : α} {b : β} (h : Ev f a) (h2 : Ev (fun k => g k a) b) : Ev (fun k => (f k).bind (g k)) b := by
 obtain ⟨k, hk⟩ := h
 obtain ⟨m, hm⟩ := h2
 exact ⟨max k m, fun j hj => by show (f j).bind (g j) = _; rw [hk j (by omega)]; exact hm j (by omega)⟩
theorem Ev.succ {α : Type} {f : Nat → Option α} {r : α} (h : Ev (fun k => f (k + 1)) r) : Ev f r := by
 obtain ⟨k, hk⟩ := h
 exact ⟨k + 1, fun j hj => by obtain ⟨m, rfl⟩ : ∃ m, j = m + 1 := ⟨j - 1, by omega⟩; exact hk m (by omega)⟩
theorem Ev.ex {α : Type} {f : Nat → Option α} {r : α} (h : Ev f r) : ∃ k, f k = Option.some r := let ⟨k, hk⟩ := h; ⟨k, hk k (Nat.le_refl _)⟩
theorem Ev.of_mono {α : Type} {f : Nat → Option α} {r : α} (hm : ∀ k, LeO (f k) (f (k + 1))) {k : Nat} (h : f k = Option.some r) : Ev f r := by
  refine ⟨k, fun j hj => ?_⟩
  induction j with
  | zero => obtain rfl : k = 0 := by omega
            exact h
  | succ j ih =>
    by_cases e : k = j + 1
    · subst e; exact h
    · exact hm j r (ih (by omega))
theorem up {i : Nat} (h : i < 4611686018427387904) : wrap64 ((i : Int) + 1) = ((i + 1 : Nat) : Int) := by
 unfold wrap64; omega
theorem w64 {n : Int} (h : -9223372036854775808 ≤ n ∧ n ≤ 9223372036854775807) : wrap64 n = n := by unfold wrap64; omega
theorem rd_nat (l : List Int) (i : Nat) : rd l (i : Int) = l.getD i 0 := by unfold rd; simp
theorem drop_rd {l : List Int} {i : Nat} (h : i < l.length) : l.drop i = rd l (i : Int) :: l.drop (i + 1) := by
 rw [rd_nat, List.drop_eq_getElem_cons h]
 simp [List.getD_eq_getElem?_getD, h]

theorem mx_eq (a b : Int) : mx a b = max a b := by unfold mx; split <;> omega

theorem within_eq (a b c : Int) : line_within.f a b c = some (decide (b ≤ a ∧ a ≤ c)) := by
 unfold line_within.f
 by_cases h : b ≤ a <;> simp [h]
theorem Within_eq (a b c : Int) : Bs_Within.f a b c = some (decide (b ≤ a ∧ a ≤ c)) := by
 unfold Bs_Within.f
 by_cases h : b ≤ a <;> simp [h]
theorem unless_eq (b : Bool) (e : Int) : line_unless.f b e = some (if b = true then 0 else e) := by
 unfold line_unless.f
 cases b <;> simp
theorem short_eq (l : List Int) : Lw_short.f l = some (decide ((l.length : Int) ≤ 20)) := rfl

/-- The first number that is not 0. -/
def fnz : List Int → Int
 | [] => 0
 | x :: r => if x = 0 then fnz r else x

theorem first_l0 (l : List Int) (hl : l.length < 4611686018427387904) : ∀ (n i : Nat), i + n = l.length → Ev (fun k => line_first.l0 k l (l.length : Int) (i : Int)) (fnz (l.drop i))
 | 0, i, h => by
  refine Ev.succ (f := fun k => line_first.l0 k l (l.length : Int) (i : Int)) ?_
  have h1 : ¬ (i : Int) < (l.length : Int) := by omega
  simp only [line_first.l0, h1, if_false]
  rw [show l.drop i = [] from List.drop_eq_nil_of_le (by omega)]
  exact Ev.some
 | n + 1, i, h => by
  refine Ev.succ (f := fun k => line_first.l0 k l (l.length : Int) (i : Int)) ?_
  have h1 : (i : Int) < (l.length : Int) := by omega
  have h2 : (0 : Int) ≤ (i : Int) := by omega
  simp only [line_first.l0, h1, h2, if_true, up (show i < 4611686018427387904 by omega)]
  rw [drop_rd (show i < l.length by omega)]
  unfold fnz
  by_cases e : rd l (i : Int) = 0
  ·simp only [e, if_true]
   exact first_l0 l hl n (i + 1) (by omega)
  ·simp only [e, if_false]
   exact Ev.some
theorem first_ev (l : List Int) (hl : l.length < 4611686018427387904) : Ev (fun k => line_first.f k l) (fnz l) := first_l0 l hl l.length 0 (by omega)

/-- Not from 0 to m. -/
def bad (m x : Int) : Bool := !(decide (0 ≤ x) && decide (x ≤ m))
theorem within_bad (m x : Int) : decide (0 ≤ x ∧ x ≤ m) = !bad m x := by
 unfold bad; by_cases h : 0 ≤ x <;> by_cases h2 : x ≤ m <;> simp [h, h2]
/-- The index of the first one that is not within, or none; the number of the error. -/
def lErr (l : List Int) (n : Nat) (m : Int) : Int × Int :=
 if l.length = 0 then (0, 10) else if n < l.length then (0, 8) else
  if idxF (bad m) l ≥ 0 then (idxF (bad m) l, 2) else (0, 0)

theorem listErr_eq (l : List Int) (n : Nat) (m : Int) : line_listErr.f l (n : Int) m = some (lErr l n m) := by
 have hb : (fun x : Int => !(decide (0 ≤ x) && decide (x ≤ m))) = bad m := rfl
 unfold line_listErr.f lErr
 rw [hb]
 by_cases h0 : l.length = 0
 ·simp only [h0, if_true]
 ·by_cases h1 : n < l.length
  ·have h2 : (n : Int) < (l.length : Int) := by omega
   simp only [h0, h1, h2, if_true, if_false]
  ·have h2 : ¬ (n : Int) < (l.length : Int) := by omega
   simp only [h0, h1, h2, if_false]
   split <;> rfl
theorem lineCheckSpectrum_eq (l : List Int) : line_CheckSpectrum.f l = some (lErr l 16 10000) := by
 have h : line_listErr.f l 16 10000 = some (lErr l 16 10000) := listErr_eq l 16 10000
 unfold line_CheckSpectrum.f; rw [h]; rfl
theorem idxF_nil (p : Int → Bool) : idxF p [] = -1 := rfl
theorem idxF_ge (p : Int → Bool) (l : List Int) : -1 ≤ idxF p l := by
 unfold idxF
 cases l.findIdx? p <;> simp <;> omega
theorem idxF_cons (p : Int → Bool) (a : Int) (r : List Int) : idxF p (a :: r) = if p a = true then 0 else if idxF p r ≥ 0 then idxF p r + 1 else -1 := by
  unfold idxF
  rw [List.findIdx?_cons]
  by_cases h : p a = true
  · simp [h]
  · simp only [h, if_false, Bool.false_eq_true]
    cases r.findIdx? p with
    | none => simp
    | some i => simp <;> omega

theorem refSpectrum_l0 (l : List Int) (hl : l.length < 4611686018427387904) : ∀ (n i : Nat), i + n = l.length →
  Ev (fun k => Rf_CheckSpectrum.l0 k l (i : Int)) (if idxF (bad 10000) (l.drop i) ≥ 0 then (idxF (bad 10000) (l.drop i) + i, 2) else (0, 0))
 | 0, i, h => by
  refine Ev.succ (f := fun k => Rf_CheckSpectrum.l0 k l (i : Int)) ?_
  have h1 : ¬ (i : Int) < (l.length : Int) := by omega
  simp only [Rf_CheckSpectrum.l0, h1, if_false]
  rw [show l.drop i = [] from List.drop_eq_nil_of_le (by omega), idxF_nil]
  exact Ev.some
 | n + 1, i, h => by
  refine Ev.succ (f := fun k => Rf_CheckSpectrum.l0 k l (i : Int)) ?_
  have h1 : (i : Int) < (l.length : Int) := by omega
  have h2 : (0 : Int) ≤ (i : Int) := by omega
  simp only [Rf_CheckSpectrum.l0, h1, h2, if_true, up (show i < 4611686018427387904 by omega), Within_eq, within_bad, Option.bind_some]
  rw [drop_rd (show i < l.length by omega), idxF_cons]
  cases e : bad 10000 (rd l (i : Int)) with
  | false =>
   simp only [e, Bool.not_false, if_true, Bool.false_eq_true, if_false]
   have ih := refSpectrum_l0 l hl n (i + 1) (by omega)
   have hg := idxF_ge (bad 10000) (l.drop (i + 1))
   by_cases q : idxF (bad 10000) (l.drop (i + 1)) ≥ 0
   ·simp only [q, if_true] at ih ⊢
    rw [if_pos (by omega), show idxF (bad 10000) (l.drop (i + 1)) + 1 + (i : Int) = idxF (bad 10000) (l.drop (i + 1)) + ((i + 1 : Nat) : Int) by omega]
    exact ih
   ·simp only [q, if_false] at ih ⊢
    exact ih
  | true =>
   simp only [e, Bool.not_true, Bool.false_eq_true, if_false, if_true]
   rw [if_pos (by omega), Int.zero_add]
   exact Ev.some
theorem refCheckSpectrum_ev (l : List Int) : Ev (fun k => Rf_CheckSpectrum.f k l) (lErr l 16 10000) := by
 unfold Rf_CheckSpectrum.f lErr
 by_cases h0 : l.length = 0
 ·have : (l.length : Int) = 0 := by omega
  simp only [h0, if_true]
  exact Ev.some
 ·have h0' : ¬ (l.length : Int) = 0 := by omega
  by_cases h1 : 16 < l.length
  ·have h2 : (l.length : Int) > 16 := by omega
   simp only [h0, h0', h1, h2, if_true, if_false]
   exact Ev.some
  ·have h2 : ¬ (l.length : Int) > 16 := by omega
   simp only [h0, h0', h1, h2, if_false]
   have := refSpectrum_l0 l (by omega) l.length 0 (by omega)
   simpa using this
/-- What the program says for it (the one number without a positive twin stays as it is). -/
def gq (x y : Int) : Int := if Int.gcd x y = 9223372036854775808 then -9223372036854775808 else (Int.gcd x y : Int)

theorem lErr_len {l : List Int} {n : Nat} {m : Int} (h : (lErr l n m).2 = 0) : 1 ≤ l.length ∧ l.length ≤ n := by
 unfold lErr at h
 by_cases h0 : l.length = 0
 ·simp [h0] at h
 ·by_cases h1 : n < l.length
  ·simp [h0, h1] at h
  ·omega
theorem rd_mem {l : List Int} {i : Nat} (h : i < l.length) : rd l (i : Int) ∈ l := by
 rw [rd_nat, List.getD_eq_getElem?_getD, List.getElem?_eq_getElem h]; exact List.getElem_mem h
theorem mem_rd {l : List Int} {x : Int} (h : x ∈ l) : ∃ i : Nat, i < l.length ∧ rd l (i : Int) = x := by
 obtain ⟨i, hi, e⟩ := List.getElem_of_mem h
 exact ⟨i, hi, by rw [rd_nat, List.getD_eq_getElem?_getD, List.getElem?_eq_getElem hi]; exact e⟩

/-- Line i is as great as any. -/
def pk (l : List Int) (i : Nat) : Bool := l.all fun x => decide (x ≤ rd l (i : Int))
def peaksFrom (l : List Int) : Nat → Nat → List Int
 | 0, _ => []
 | n + 1, i => if pk l i = true then (i : Int) :: peaksFrom l n (i + 1) else peaksFrom l n (i + 1)
/-- All peaks. -/
def peaks (l : List Int) : List Int := peaksFrom l l.length 0
/-- A fraction in lowest terms, as both say it. -/
def frac (a b : Int) : Int × Int := (wrap64 (Int.tdiv a (gq a b)), wrap64 (Int.tdiv b (gq a b)))
/-- A row of a valid case, or a valid spectrum. -/
def Good (l : List Int) : Prop := (1 ≤ l.length ∧ l.length ≤ 16) ∧ ∀ x ∈ l, 0 ≤ x ∧ x ≤ 10000
theorem Good.rd {l : List Int} (h : Good l) {i : Nat} (hi : i < l.length) : 0 ≤ rd l (i : Int) ∧ rd l (i : Int) ≤ 10000 := h.2 _ (rd_mem hi)

/-- The sum of n powers from line i on, and their sum with the lines' numbers. -/
def sn (l : List Int) : Nat → Nat → Int
 | 0, _ => 0
 | n + 1, i => rd l (i : Int) + sn l n (i + 1)
def wn (l : List Int) : Nat → Nat → Int
 | 0, _ => 0
 | n + 1, i => (i : Int) * rd l (i : Int) + wn l n (i + 1)
theorem sn_in {l : List Int} (h : Good l) : ∀ (n i : Nat), i + n ≤ l.length → 0 ≤ sn l n i ∧ sn l n i ≤ 10000 * n
 | 0, i, _ => by simp [sn]
 | n + 1, i, hi => by
  have := sn_in h n (i + 1) (by omega)
  have := h.rd (i := i) (by omega)
  rw [sn]; omega
theorem sum_l0 (l : List Int) (hl : l.length < 1000) (hg : ∀ x ∈ l, 0 ≤ x ∧ x ≤ 10000) : ∀ (n i : Nat) (a : Int), i + n = l.length → 0 ≤ a → a ≤ 10000 * i →
  Ev (fun k => line_sum.l0 k a l (l.length : Int) (i : Int)) (a + sn l n i)
 | 0, i, a, h, _, _ => by
  refine Ev.succ (f := fun k => line_sum.l0 k a l (l.length : Int) (i : Int)) ?_
  simp only [line_sum.l0, show ¬ (i : Int) < (l.length : Int) by omega, if_false, sn, Int.add_zero]
  exact Ev.some
 | n + 1, i, a, h, h0, h1 => by
  refine Ev.succ (f := fun k => line_sum.l0 k a l (l.length : Int) (i : Int)) ?_
  have hr := hg _ (rd_mem (l := l) (i := i) (by omega))
  simp only [line_sum.l0, show (i : Int) < (l.length : Int) by omega, show (0 : Int) ≤ (i : Int) by omega, if_true, up (show i < 4611686018427387904 by omega), w64 (n := a + rd l (i : Int)) (by omega)]
  have := sum_l0 l hl hg n (i + 1) (a + rd l (i : Int)) (by omega) (by omega) (by omega)
  rw [sn, ← Int.add_assoc]
  exact this
theorem sum_ev (l : List Int) (hl : l.length < 1000) (hg : ∀ x ∈ l, 0 ≤ x ∧ x ≤ 10000) : Ev (fun k => line_sum.f k l) (sn l l.length 0) := by
 have := sum_l0 l hl hg l.length 0 0 (by omega) (by omega) (by omega)
 simpa [line_sum.f] using this
theorem Sum_l0 (l : List Int) (hl : l.length < 1000) (hg : ∀ x ∈ l, 0 ≤ x ∧ x ≤ 10000) : ∀ (n i : Nat) (a : Int), i + n = l.length → 0 ≤ a → a ≤ 10000 * i →
  Ev (fun k => Rf_Sum.l0 k l a (i : Int)) (a + sn l n i)
 | 0, i, a, h, _, _ => by
  refine Ev.succ (f := fun k => Rf_Sum.l0 k l a (i : Int)) ?_
  simp only [Rf_Sum.l0, show ¬ (i : Int) < (l.length : Int) by omega, if_false, sn, Int.add_zero]
  exact Ev.some
 | n + 1, i, a, h, h0, h1 => by
  refine Ev.succ (f := fun k => Rf_Sum.l0 k l a (i : Int)) ?_
  have hr := hg _ (rd_mem (l := l) (i := i) (by omega))
  simp only [Rf_Sum.l0, show (i : Int) < (l.length : Int) by omega, show (0 : Int) ≤ (i : Int) by omega, if_true, up (show i < 4611686018427387904 by omega), w64 (n := a + rd l (i : Int)) (by omega)]
  have := Sum_l0 l hl hg n (i + 1) (a + rd l (i : Int)) (by omega) (by omega) (by omega)
  rw [sn, ← Int.add_assoc]
  exact this
theorem Sum_ev (l : List Int) (hl : l.length < 1000) (hg : ∀ x ∈ l, 0 ≤ x ∧ x ≤ 10000) : Ev (fun k => Rf_Sum.f k l) (sn l l.length 0) := by
 have := Sum_l0 l hl hg l.length 0 0 (by omega) (by omega) (by omega)
 simpa [Rf_Sum.f] using this
theorem rd_slice {l : List Int} {t f i : Nat} (h : f + i < t) (ht : t ≤ l.length) : rd ((l.take t).drop f) (i : Int) = rd l ((f + i : Nat) : Int) := by
 rw [rd_nat, rd_nat, List.getD_eq_getElem?_getD, List.getD_eq_getElem?_getD, List.getElem?_drop, List.getElem?_take, if_pos h]
theorem sn_slice {l : List Int} {t f : Nat} (ht : t ≤ l.length) : ∀ (n i : Nat), f + i + n ≤ t → sn ((l.take t).drop f) n i = sn l n (f + i)
 | 0, _, _ => rfl
 | n + 1, i, h => by rw [sn, sn, rd_slice (by omega) ht, sn_slice ht n (i + 1) (by omega), Nat.add_assoc]
theorem slice_good {l : List Int} {t f : Nat} (hg : ∀ x ∈ l, 0 ≤ x ∧ x ≤ 10000) : ∀ x ∈ (l.take t).drop f, 0 ≤ x ∧ x ≤ 10000 :=
 fun x hx => hg x (List.mem_of_mem_take (List.mem_of_mem_drop hx))

/-- The first line with the maximum power. -/
def fp (l : List Int) : Nat := ((peaks l).headD 0).toNat
def par (l : List Int) : Int × Int :=
 if fp l = 0 ∨ fp l + 1 = l.length then ((fp l : Int), 1) else
  if 2 * rd l (fp l : Int) - rd l ((fp l - 1 : Nat) : Int) - rd l ((fp l + 1 : Nat) : Int) ≤ 0 then ((fp l : Int), 1) else
   frac (2 * (2 * rd l (fp l : Int) - rd l ((fp l - 1 : Nat) : Int) - rd l ((fp l + 1 : Nat) : Int)) * (fp l : Int) + rd l ((fp l + 1 : Nat) : Int) - rd l ((fp l - 1 : Nat) : Int)) (2 * (2 * rd l (fp l : Int) - rd l ((fp l - 1 : Nat) : Int) - rd l ((fp l + 1 : Nat) : Int)))
def mdF (l : List Int) : Nat → Nat → Nat
 | 0, i => i
 | n + 1, i => if sn l l.length 0 ≤ 2 * sn l (i + 1) 0 then i else mdF l n (i + 1)
def md (l : List Int) : Nat := mdF l l.length 0
def est (l : List Int) (kind : Int) : Int × Int :=
 if sn l l.length 0 = 0 then (0, 1) else if kind = 1 then frac (wn l l.length 0) (sn l l.length 0) else if kind = 2 then par l else if kind = 3 then ((md l : Int), 1) else ((fp l : Int), 1)
theorem awake_ev : Ev (fun k => Lw_awake.f k) true :=
 Ev.of_mono (k := 40) (fun k => Lw_awake.mono k) (by kernel_rfl)
theorem CopyInts_eq (l : List Int) (h : l.length < 17592186044416) : Bs_CopyInts.f l = some l := by
 unfold Bs_CopyInts.f
 simp [h]
theorem i64_in {n : Int} (h : (Lit.int .i64 n).wf = true) : -9223372036854775808 ≤ n ∧ n ≤ 9223372036854775807 := by
 simp [Lit.wf, IntKind.min, IntKind.max, IntKind.signed, IntKind.bits] at h
 omega
theorem idxF_ok (m : Int) : ∀ l : List Int, ¬ idxF (bad m) l ≥ 0 → ∀ x ∈ l, 0 ≤ x ∧ x ≤ m
  | [], _, _, hx => by cases hx
  | a :: r, h, x, hx => by
    rw [idxF_cons] at h
    cases e : bad m a with
    | true => rw [e] at h; simp at h
    | false =>
      rw [e] at h
      simp only [Bool.false_eq_true, if_false] at h
      have h' : ¬ idxF (bad m) r ≥ 0 := fun q => by rw [if_pos q] at h; exact h (by omega)
      rcases List.mem_cons.1 hx with rfl | hx
      · have := within_bad m x
        rw [e] at this
        simpa using this
      · exact idxF_ok m r h' x hx
theorem lErr_ok {l : List Int} {n : Nat} {m : Int} (h : (lErr l n m).2 = 0) : ∀ x ∈ l, 0 ≤ x ∧ x ≤ m := by
 have hlen := lErr_len h
 unfold lErr at h
 rw [if_neg (by omega), if_neg (by omega)] at h
 by_cases q : idxF (bad m) l ≥ 0
 ·rw [if_pos q] at h; simp at h
 ·exact idxF_ok m l q
theorem Ints_l0 (l : List Int) (hl : l.length < 4611686018427387904) : ∀ (n i : Nat), i + n = l.length → Ev (fun k => Bs_Ints.l0 k l l (i : Int)) true
 | 0, i, h => by
  refine Ev.succ (f := fun k => Bs_Ints.l0 k l l (i : Int)) ?_
  simp only [Bs_Ints.l0, show ¬ (i : Int) < (l.length : Int) by omega, if_false]
  exact Ev.some
 | n + 1, i, h => by
  refine Ev.succ (f := fun k => Bs_Ints.l0 k l l (i : Int)) ?_
  simp only [Bs_Ints.l0, show (i : Int) < (l.length : Int) by omega, show (0 : Int) ≤ (i : Int) by omega, if_true, up (show i < 4611686018427387904 by omega)]
  exact Ints_l0 l hl n (i + 1) (by omega)
theorem Ints_ev (l : List Int) (hl : l.length < 4611686018427387904) : Ev (fun k => Bs_Ints.f k l l) true := by
 unfold Bs_Ints.f
 simp only [if_true]
 exact Ints_l0 l hl l.length 0 (by omega)
theorem lErr_good {l : List Int} (h : (lErr l 16 10000).2 = 0) : Good l := ⟨lErr_len h, lErr_ok h⟩
theorem idxF_good (m : Int) : ∀ l : List Int, (∀ x ∈ l, 0 ≤ x ∧ x ≤ m) → ¬ idxF (bad m) l ≥ 0
  | [], _ => by rw [idxF_nil]; omega
  | a :: r, h => by
    have ih := idxF_good m r (fun x hx => h x (List.mem_cons_of_mem _ hx))
    have ha := within_bad m a
    simp only [h a List.mem_cons_self, and_self, decide_true] at ha
    have hb : bad m a = false := by cases e : bad m a with
      | false => rfl
      | true => rw [e] at ha; cases ha
    rw [idxF_cons, hb]
    simp only [Bool.false_eq_true, if_false, ih]
    omega
theorem lErr_of_good {l : List Int} (h : Good l) : (lErr l 16 10000).2 = 0 := by
 have hl := h.1
 unfold lErr
 rw [if_neg (by omega), if_neg (by omega), if_neg (idxF_good 10000 l h.2)]
theorem SpectrumErr_ev (l : List Int) : Ev (fun k => Rf_SpectrumErr.f k l) (lErr l 16 10000).2 := Ev.bind (refCheckSpectrum_ev l) Ev.some
theorem open_eq (l : List Int) : line_open.f l = some (l, (lErr l 16 10000).2) := by
 unfold line_open.f
 rw [lineCheckSpectrum_eq]; rfl
theorem Has_l0 (l : List Int) (x : Int) (hl : l.length < 4611686018427387904) : ∀ (n i : Nat), i + n = l.length → Ev (fun k => Bs_Has.l0 k l x (i : Int)) (decide (x ∈ l.drop i))
 | 0, i, h => by
  refine Ev.succ (f := fun k => Bs_Has.l0 k l x (i : Int)) ?_
  simp only [Bs_Has.l0, show ¬ (i : Int) < (l.length : Int) by omega, if_false]
  rw [show l.drop i = [] from List.drop_eq_nil_of_le (by omega)]
  simp only [List.not_mem_nil, decide_false]
  exact Ev.some
 | n + 1, i, h => by
  refine Ev.succ (f := fun k => Bs_Has.l0 k l x (i : Int)) ?_
  simp only [Bs_Has.l0, show (i : Int) < (l.length : Int) by omega, show (0 : Int) ≤ (i : Int) by omega, if_true, up (show i < 4611686018427387904 by omega)]
  have ih := Has_l0 l x hl n (i + 1) (by omega)
  rw [drop_rd (show i < l.length by omega)]
  by_cases e : rd l (i : Int) = x
  ·simp only [e, if_true, List.mem_cons, true_or, decide_true]; exact Ev.some
  ·have e' : ¬ x = rd l (i : Int) := fun h => e h.symm
   simp only [e, e', if_false, List.mem_cons, false_or]; exact ih
theorem Has_ev (l : List Int) (x : Int) (hl : l.length < 4611686018427387904) : Ev (fun k => Bs_Has.f k l x) (decide (x ∈ l)) := by
 have := Has_l0 l x hl l.length 0 (by omega)
 simpa [Bs_Has.f] using this
theorem rdL_nat (g : List (List Int)) (i : Nat) : rd_L1 g (i : Int) = g.getD i [] := by unfold rd_L1; simp
theorem rdL_mem {g : List (List Int)} {i : Nat} (h : i < g.length) : rd_L1 g (i : Int) ∈ g := by
 rw [rdL_nat, List.getD_eq_getElem?_getD, List.getElem?_eq_getElem h]; exact List.getElem_mem h
theorem drop_rdL {g : List (List Int)} {i : Nat} (h : i < g.length) : g.drop i = rd_L1 g (i : Int) :: g.drop (i + 1) := by
 rw [rdL_nat, List.drop_eq_getElem_cons h]
 simp [List.getD_eq_getElem?_getD, h]
theorem rdL_cons {g : List (List Int)} {i : Nat} (h : i < g.length) : ∃ l, rd_L1 g (i : Int) = l ∧ l ∈ g := ⟨_, rfl, rdL_mem h⟩
theorem CopyGates_l0 (g : List (List Int)) (hl : g.length < 1000) (hs : ∀ l ∈ g, l.length < 1000) : ∀ (n i : Nat) (acc : List (List Int)), i + n = g.length → acc.length = i →
  Ev (fun k => Rf_CopyGates.l0 k g acc (i : Int)) (acc ++ g.drop i)
 | 0, i, acc, h, ha => by
  refine Ev.succ (f := fun k => Rf_CopyGates.l0 k g acc (i : Int)) ?_
  simp only [Rf_CopyGates.l0, show ¬ (i : Int) < (g.length : Int) by omega, if_false]
  rw [show g.drop i = [] from List.drop_eq_nil_of_le (by omega), List.append_nil]
  exact Ev.some
 | n + 1, i, acc, h, ha => by
  refine Ev.succ (f := fun k => Rf_CopyGates.l0 k g acc (i : Int)) ?_
  have hm := hs _ (rdL_mem (g := g) (i := i) (by omega))
  simp only [Rf_CopyGates.l0, show (i : Int) < (g.length : Int) by omega, show (0 : Int) ≤ (i : Int) by omega, if_true, CopyInts_eq (rd_L1 g (i : Int)) (by omega), Option.bind_some, show acc.length < 5864062014805 by omega, up (show i < 4611686018427387904 by omega)]
  have := CopyGates_l0 g hl hs n (i + 1) (acc ++ [rd_L1 g (i : Int)]) (by omega) (by simp; omega)
  rw [drop_rdL (show i < g.length by omega)]
  simpa using this
theorem CopyGates_ev (g : List (List Int)) (hl : g.length < 1000) (hs : ∀ l ∈ g, l.length < 1000) : Ev (fun k => Rf_CopyGates.f k g) g := by
 have := CopyGates_l0 g hl hs g.length 0 [] (by omega) (by simp)
 simpa [Rf_CopyGates.f] using this

/-- The first error of the gates. -/
def gE (g : List (List Int)) (e : Int) : Int := match g with
 | [] => e
 | l :: r => gE r (fnz [e, (lErr l 16 10000).2])
theorem gE_ne : ∀ (g : List (List Int)) (e : Int), e ≠ 0 → gE g e = e
 | [], e, _ => rfl
 | l :: r, e, h => by
  rw [gE]
  simp only [fnz, h, if_false]
  exact gE_ne r e h
theorem gE_cons (l : List Int) (r : List (List Int)) : gE (l :: r) 0 = if (lErr l 16 10000).2 = 0 then gE r 0 else (lErr l 16 10000).2 := by
 rw [gE]
 by_cases h : (lErr l 16 10000).2 = 0
 ·simp only [fnz, h, if_true]
 ·simp only [fnz, h, if_true, if_false]
  exact gE_ne r _ h
theorem gE_zero : ∀ (g : List (List Int)), gE g 0 = 0 → ∀ l ∈ g, Good l
 | [], _, _, hx => by cases hx
 | l :: r, h, x, hx => by
  rw [gE_cons] at h
  by_cases e : (lErr l 16 10000).2 = 0
  ·rw [if_pos e] at h
   rcases List.mem_cons.1 hx with rfl | hx
   ·exact lErr_good e
   ·exact gE_zero r h x hx
  ·rw [if_neg e] at h; exact absurd h e
theorem gE_ok : ∀ (g : List (List Int)), (∀ l ∈ g, Good l) → gE g 0 = 0
 | [], _ => rfl
 | l :: r, h => by
  rw [gE_cons, if_pos (lErr_of_good (h l List.mem_cons_self))]
  exact gE_ok r (fun x hx => h x (List.mem_cons_of_mem _ hx))
def hRight (z h p c : Int) : Bool := decide (0 ≤ z ∧ z ≤ 15) && (decide (0 ≤ h ∧ h ≤ 16) && (decide (0 ≤ p ∧ p ≤ 160000) && decide (0 ≤ c ∧ c ≤ 100)))
def hErr (g : List (List Int)) (z h p c : Int) : Int := if 20 < g.length then 8 else fnz [gE g 0, if hRight z h p c = true then 0 else 2]
theorem hErr_ok {g : List (List Int)} {z h p c : Int} (he : hErr g z h p c = 0) : g.length ≤ 20 ∧ (∀ l ∈ g, Good l) ∧ (0 ≤ z ∧ z ≤ 15) ∧ (0 ≤ h ∧ h ≤ 16) ∧ (0 ≤ p ∧ p ≤ 160000) ∧ 0 ≤ c ∧ c ≤ 100 := by
 unfold hErr at he
 by_cases a : 20 < g.length
 ·rw [if_pos a] at he; simp at he
 ·rw [if_neg a] at he
  by_cases b : gE g 0 = 0
  ·by_cases d : hRight z h p c = true
   ·unfold hRight at d
    simp only [Bool.and_eq_true, decide_eq_true_eq] at d
    exact ⟨by omega, gE_zero g b, d.1, d.2.1, d.2.2.1, d.2.2.2⟩
   ·simp only [fnz, b, d, if_true, if_false] at he; simp at he
  ·simp only [fnz, b, if_false] at he
theorem hErr_of {g : List (List Int)} {z h p c : Int} (h1 : g.length ≤ 20) (h2 : ∀ l ∈ g, Good l) (h3 : 0 ≤ z ∧ z ≤ 15) (h4 : 0 ≤ h ∧ h ≤ 16) (h5 : 0 ≤ p ∧ p ≤ 160000) (h6 : 0 ≤ c ∧ c ≤ 100) : hErr g z h p c = 0 := by
 unfold hErr
 rw [if_neg (by omega), gE_ok g h2]
 have : hRight z h p c = true := by unfold hRight; simp [h3, h4, h5, h6]
 simp only [fnz, this, if_true]
theorem HardErr_l0 (g : List (List Int)) (hl : g.length < 1000) (z h p c : Int) : ∀ (n i : Nat), i + n = g.length →
  Ev (fun k => Rf_HardErr.l0 k g (i : Int) z h p c) (fnz [gE (g.drop i) 0, if hRight z h p c = true then 0 else 2])
 | 0, i, hi => by
  refine Ev.succ (f := fun k => Rf_HardErr.l0 k g (i : Int) z h p c) ?_
  simp only [Rf_HardErr.l0, show ¬ (i : Int) < (g.length : Int) by omega, if_false, Within_eq, Option.bind_some]
  rw [show g.drop i = [] from List.drop_eq_nil_of_le (by omega)]
  unfold hRight
  by_cases a : 0 ≤ z ∧ z ≤ 15
  ·by_cases b : 0 ≤ h ∧ h ≤ 16
   ·by_cases d : 0 ≤ p ∧ p ≤ 160000
    ·by_cases e : 0 ≤ c ∧ c ≤ 100
     ·simp only [a, b, d, e, and_self, decide_true, Bool.and_self, if_true, gE, fnz]; exact Ev.some
     ·simp only [a, b, d, e, and_self, decide_true, decide_false, Bool.and_self, Bool.and_false, if_true, if_false, Bool.false_eq_true, gE, fnz]; exact Ev.some
    ·simp only [a, b, d, and_self, decide_true, decide_false, Bool.and_self, Bool.and_false, Bool.false_and, if_true, if_false, Bool.false_eq_true, gE, fnz]; exact Ev.some
   ·simp only [a, b, and_self, decide_true, decide_false, Bool.and_self, Bool.and_false, Bool.false_and, if_true, if_false, Bool.false_eq_true, gE, fnz]; exact Ev.some
  ·simp only [a, decide_false, Bool.false_and, if_true, if_false, Bool.false_eq_true, gE, fnz]; exact Ev.some
 | n + 1, i, hi => by
  refine Ev.succ (f := fun k => Rf_HardErr.l0 k g (i : Int) z h p c) ?_
  simp only [Rf_HardErr.l0, show (i : Int) < (g.length : Int) by omega, show (0 : Int) ≤ (i : Int) by omega, if_true, up (show i < 4611686018427387904 by omega)]
  refine Ev.bind (SpectrumErr_ev _) ?_
  rw [drop_rdL (show i < g.length by omega), gE_cons]
  by_cases e : (lErr (rd_L1 g (i : Int)) 16 10000).2 = 0
  ·simp only [e, if_true]
   exact HardErr_l0 g hl z h p c n (i + 1) (by omega)
  ·simp only [e, if_false, fnz]; exact Ev.some
theorem HardErr_ev (g : List (List Int)) (z h p c : Int) : Ev (fun k => Rf_HardErr.f k g z h p c) (hErr g z h p c) := by
 unfold Rf_HardErr.f hErr
 by_cases a : 20 < g.length
 ·simp only [a, show (g.length : Int) > 20 by omega, if_true]; exact Ev.some
 ·simp only [a, show ¬ (g.length : Int) > 20 by omega, if_false]
  have := HardErr_l0 g (by omega) z h p c g.length 0 (by omega)
  simpa using this

/-- The lines of a window around z. -/
def hF (z h : Int) (l : List Int) : Nat := min (z - h).toNat (min l.length (z + h + 1).toNat)
def hT (z h : Int) (l : List Int) : Nat := min l.length (z + h + 1).toNat
def own (z h : Int) (l : List Int) : Int := sn l (hT z h l - hF z h l) (hF z h l)
def isHard (z h p c : Int) (l : List Int) : Bool := decide (p ≤ own z h l) && decide (c * sn l l.length 0 ≤ 100 * own z h l)
def hardF (g : List (List Int)) (z h p c : Int) : Nat → Nat → List Int
 | 0, _ => []
 | n + 1, i => if isHard z h p c (rd_L1 g (i : Int)) = true then (i : Int) :: hardF g z h p c n (i + 1) else hardF g z h p c n (i + 1)
theorem hardF_length (g : List (List Int)) (z h p c : Int) : ∀ n i, (hardF g z h p c n i).length ≤ n
 | 0, _ => Nat.le_refl _
 | n + 1, i => by
  have := hardF_length g z h p c n (i + 1)
  rw [hardF]; split <;> simp <;> omega
theorem mem_hardF (g : List (List Int)) (z h p c : Int) : ∀ (n i : Nat) (x : Int), x ∈ hardF g z h p c n i ↔ ∃ q : Nat, x = (q : Int) ∧ i ≤ q ∧ q < i + n ∧ isHard z h p c (rd_L1 g (q : Int)) = true
  | 0, i, x => by simp [hardF]; omega
  | n + 1, i, x => by
    rw [hardF]
    by_cases e : isHard z h p c (rd_L1 g (i : Int)) = true
    · rw [if_pos e, List.mem_cons, mem_hardF g z h p c n (i + 1)]
      constructor
      · rintro (rfl | ⟨q, rfl, a, b, c⟩)
        · exact ⟨i, rfl, by omega, by omega, e⟩
        · exact ⟨q, rfl, by omega, by omega, c⟩
      · rintro ⟨q, rfl, a, b, c⟩
        by_cases e : q = i
        · subst e; exact .inl rfl
        · exact .inr ⟨q, rfl, by omega, by omega, c⟩
    · rw [if_neg e, mem_hardF g z h p c n (i + 1)]
      constructor
      · rintro ⟨q, rfl, a, b, c⟩; exact ⟨q, rfl, by omega, by omega, c⟩
      · rintro ⟨q, rfl, a, b, c⟩
        exact ⟨q, rfl, by rcases Nat.lt_or_ge i q with h' | h'; exact h'; obtain rfl : q = i := by omega
                          exact absurd c e, by omega, c⟩
theorem mn_eq2 (a b : Int) : mn a b = min a b := by unfold mn; split <;> omega
theorem HardIn_l1 (g : List (List Int)) (hl : g.length < 1000) (hg : ∀ l ∈ g, Good l) {z h p c : Int} (hz : 0 ≤ z ∧ z ≤ 15) (hh : 0 ≤ h ∧ h ≤ 16) (hc : 0 ≤ c ∧ c ≤ 100) : ∀ (n i : Nat) (acc : List Int), i + n = g.length → acc.length ≤ i →
  Ev (fun k => line_HardIn.l1 k acc g (g.length : Int) (i : Int) z h p c) (acc ++ hardF g z h p c n i, 0)
 | 0, i, acc, hi, ha => by
  refine Ev.succ (f := fun k => line_HardIn.l1 k acc g (g.length : Int) (i : Int) z h p c) ?_
  simp only [line_HardIn.l1, show ¬ (i : Int) < (g.length : Int) by omega, if_false, hardF, List.append_nil]
  exact Ev.some
 | n + 1, i, acc, hi, ha => by
  refine Ev.succ (f := fun k => line_HardIn.l1 k acc g (g.length : Int) (i : Int) z h p c) ?_
  rw [hardF]
  have ih1 := HardIn_l1 g hl hg (p := p) hz hh hc n (i + 1) (acc ++ [(i : Int)]) (by omega) (by simp; omega)
  have ih2 := HardIn_l1 g hl hg (p := p) hz hh hc n (i + 1) acc (by omega) (by omega)
  simp only [line_HardIn.l1, show (i : Int) < (g.length : Int) by omega, show (0 : Int) ≤ (i : Int) by omega, if_true, up (show i < 4611686018427387904 by omega), show acc.length < 17592186044416 by omega]
  obtain ⟨l, hlr, hlm⟩ := rdL_cons (g := g) (i := i) (by omega)
  rw [hlr]
  have hgl := hg l hlm
  have hlen := hgl.1
  have e1 : mn (l.length : Int) (wrap64 (wrap64 (z + h) + 1)) = (hT z h l : Int) := by rw [w64 (n := z + h) (by omega), w64 (by omega), mn_eq2]; unfold hT; omega
  have e2 : mn (mx 0 (wrap64 (z - h))) (hT z h l : Int) = (hF z h l : Int) := by rw [w64 (by omega), mn_eq2, mx_eq]; unfold hT hF; omega
  have ht : hF z h l ≤ hT z h l ∧ hT z h l ≤ l.length := by unfold hT hF; omega
  have hS := sum_ev ((l.take (hT z h l)).drop (hF z h l)) (by simp; omega) (slice_good hgl.2)
  rw [show ((l.take (hT z h l)).drop (hF z h l)).length = hT z h l - hF z h l by simp; omega, sn_slice ht.2 (hT z h l - hF z h l) 0 (by omega), Nat.add_zero] at hS
  have ho := sn_in hgl (hT z h l - hF z h l) (hF z h l) (by omega)
  have hs := sn_in hgl l.length 0 (by omega)
  simp only [e1, e2, show (0 : Int) ≤ (hF z h l : Int) by omega, show (hF z h l : Int) ≤ (hT z h l : Int) by omega, show (hT z h l : Int) ≤ (l.length : Int) by omega, if_true, Int.toNat_natCast]
  refine Ev.bind hS ?_
  have m1 : 0 ≤ c * sn l l.length 0 := Int.mul_nonneg hc.1 hs.1
  have m2 : c * sn l l.length 0 ≤ 100 * 160000 := Int.mul_le_mul hc.2 (by omega) hs.1 (by omega)
  by_cases q1 : p ≤ own z h l
  ·simp only [show sn l (hT z h l - hF z h l) (hF z h l) ≥ p from q1, if_true]
   refine Ev.bind (sum_ev l (by omega) hgl.2) ?_
   rw [w64 (n := 100 * sn l (hT z h l - hF z h l) (hF z h l)) (by omega), w64 (n := c * sn l l.length 0) (by omega)]
   by_cases q2 : c * sn l l.length 0 ≤ 100 * own z h l
   ·have e : isHard z h p c l = true := by unfold isHard; simp [q1, q2]
    rw [if_pos e]
    simp only [show 100 * sn l (hT z h l - hF z h l) (hF z h l) ≥ c * sn l l.length 0 from q2, if_true]
    simpa using ih1
   ·have e : ¬ isHard z h p c l = true := by unfold isHard; simp [q2]
    rw [if_neg e]
    simp only [show ¬ 100 * sn l (hT z h l - hF z h l) (hF z h l) ≥ c * sn l l.length 0 from q2, if_false]
    exact ih2
  ·have e : ¬ isHard z h p c l = true := by unfold isHard; simp [q1]
   rw [if_neg e]
   simp only [show ¬ sn l (hT z h l - hF z h l) (hF z h l) ≥ p from q1, if_false]
   exact ih2
theorem HardIn_l0 (g : List (List Int)) (hl : g.length < 1000) (z h p c : Int) (R : List Int × Int) (hnext : ∀ e, (e = gE g 0) → Ev (fun k => (line_within.f z 0 15).bind fun t1350 => (if t1350 = true then ((line_within.f h 0 16).bind fun t1351 => (if t1351 = true then ((line_within.f p 0 160000).bind fun t1352 => (if t1352 = true then ((line_within.f c 0 100).bind fun t1353 => (line_HardIn.j1 k g e t1353 z h p c)) else (line_HardIn.j1 k g e false z h p c))) else (line_HardIn.j1 k g e false z h p c))) else (line_HardIn.j1 k g e false z h p c))) R) : ∀ (n i : Nat) (e : Int), i + n = g.length → gE (g.drop i) e = gE g 0 →
  Ev (fun k => line_HardIn.l0 k g e g (g.length : Int) (i : Int) z h p c) R
 | 0, i, e, hi, he => by
  refine Ev.succ (f := fun k => line_HardIn.l0 k g e g (g.length : Int) (i : Int) z h p c) ?_
  simp only [line_HardIn.l0, show ¬ (i : Int) < (g.length : Int) by omega, if_false]
  rw [show g.drop i = [] from List.drop_eq_nil_of_le (by omega)] at he
  exact hnext e he
 | n + 1, i, e, hi, he => by
  refine Ev.succ (f := fun k => line_HardIn.l0 k g e g (g.length : Int) (i : Int) z h p c) ?_
  simp only [line_HardIn.l0, show (i : Int) < (g.length : Int) by omega, show (0 : Int) ≤ (i : Int) by omega, if_true, up (show i < 4611686018427387904 by omega), open_eq, Option.bind_some]
  refine Ev.bind (first_ev _ (by simp)) ?_
  rw [drop_rdL (show i < g.length by omega), gE] at he
  exact HardIn_l0 g hl z h p c R hnext n (i + 1) _ (by omega) he
theorem HardIn_ev (g : List (List Int)) (z h p c : Int) : Ev (fun k => line_HardIn.f k g z h p c) (if hErr g z h p c = 0 then (hardF g z h p c g.length 0, 0) else ([], hErr g z h p c)) := by
 unfold line_HardIn.f
 simp only [unless_eq, Option.bind_some, decide_eq_true_eq]
 by_cases a : 20 < g.length
 ·have e : hErr g z h p c = 8 := by unfold hErr; rw [if_pos a]
  simp only [show ¬ (g.length : Int) ≤ 20 by omega, if_false, show ¬ (8 : Int) = 0 by decide, e]; exact Ev.some
 ·simp only [show (g.length : Int) ≤ 20 by omega, if_true]
  refine HardIn_l0 g (by omega) z h p c _ (fun e he => ?_) g.length 0 0 (by omega) (by simp)
  subst he
  have hj : ∀ b : Bool, b = hRight z h p c → Ev (fun k => line_HardIn.j1 k g (gE g 0) b z h p c) (if hErr g z h p c = 0 then (hardF g z h p c g.length 0, 0) else ([], hErr g z h p c)) := fun b hb => by
   subst hb
   refine Ev.succ (f := fun k => line_HardIn.j1 k g (gE g 0) (hRight z h p c) z h p c) ?_
   simp only [line_HardIn.j1, unless_eq, Option.bind_some]
   refine Ev.bind (first_ev _ (by simp)) ?_
   have hE : hErr g z h p c = fnz [gE g 0, if hRight z h p c = true then 0 else 2] := by unfold hErr; rw [if_neg a]
   rw [← hE]
   by_cases e0 : hErr g z h p c = 0
   ·obtain ⟨h1, h2, h3, h4, h5, h6⟩ := hErr_ok e0
    simp only [e0, if_true]
    have := HardIn_l1 g (by omega) h2 (p := p) h3 h4 h6 g.length 0 [] (by omega) (by simp)
    simpa using this
   ·simp only [e0, if_false]; exact Ev.some
  simp only [within_eq, Option.bind_some]
  by_cases a1 : 0 ≤ z ∧ z ≤ 15
  ·by_cases b1 : 0 ≤ h ∧ h ≤ 16
   ·by_cases d1 : 0 ≤ p ∧ p ≤ 160000
    ·simp only [a1, b1, d1, and_self, decide_true, if_true]
     refine hj _ ?_
     unfold hRight; simp [a1, b1, d1]
    ·simp only [a1, b1, d1, and_self, decide_true, decide_false, if_true, if_false, Bool.false_eq_true]
     refine hj _ ?_
     unfold hRight; simp [d1]
   ·simp only [a1, b1, and_self, decide_true, decide_false, if_true, if_false, Bool.false_eq_true]
    refine hj _ ?_
    unfold hRight; simp [b1]
  ·simp only [a1, decide_false, if_false, Bool.false_eq_true]
   refine hj _ ?_
   unfold hRight; simp [a1]

/-- The sum of n powers from line i on of those in the window. -/
def wsn (z h : Int) (l : List Int) : Nat → Nat → Int
 | 0, _ => 0
 | n + 1, i => (if z - h ≤ (i : Int) ∧ (i : Int) ≤ z + h then rd l (i : Int) else 0) + wsn z h l n (i + 1)
theorem wsn_own {l : List Int} {z h : Int} (hz : 0 ≤ z) (hh : 0 ≤ h) : ∀ (n i : Nat), i + n = l.length → wsn z h l n i = sn l (hT z h l - max i (hF z h l)) (max i (hF z h l))
 | 0, i, hi => by
  have : hT z h l - max i (hF z h l) = 0 := by unfold hT; omega
  rw [this]; rfl
 | n + 1, i, hi => by
  have ih := wsn_own (l := l) hz hh n (i + 1) (by omega)
  rw [wsn, ih]
  by_cases a : (i : Int) < z - h
  ·rw [if_neg (by omega), Int.zero_add]
   have e : max i (hF z h l) = max (i + 1) (hF z h l) := by unfold hF; omega
   rw [e]
  ·by_cases b : (i : Int) ≤ z + h
   ·rw [if_pos (by omega)]
    have e1 : max i (hF z h l) = i := by unfold hF; omega
    have e2 : max (i + 1) (hF z h l) = i + 1 := by unfold hF; omega
    have e3 : hT z h l - i = (hT z h l - (i + 1)) + 1 := by unfold hT; omega
    rw [e1, e2, e3, sn]
   ·rw [if_neg (by omega), Int.zero_add]
    have e1 : hT z h l - max i (hF z h l) = 0 := by unfold hT; omega
    have e2 : hT z h l - max (i + 1) (hF z h l) = 0 := by unfold hT; omega
    rw [e1, e2]; rfl
theorem Hard_l1 (g : List (List Int)) (hl : g.length < 1000) (hg : ∀ l ∈ g, Good l) {z h p c : Int} (hz : 0 ≤ z ∧ z ≤ 15) (hh : 0 ≤ h ∧ h ≤ 16) (hc : 0 ≤ c ∧ c ≤ 100) (acc : List Int) (i : Nat) (hi : i < g.length) (ha : acc.length ≤ i) (R : List Int → List Int)
  (hnext : ∀ acc' : List Int, acc'.length ≤ i + 1 → Ev (fun k => Rf_Hard.l0 k g acc' ((i + 1 : Nat) : Int) z h p c) (R acc')) : ∀ (n j : Nat) (a : Int), j + n = (rd_L1 g (i : Int)).length → 0 ≤ a → a ≤ 10000 * j → a + wsn z h (rd_L1 g (i : Int)) n j = own z h (rd_L1 g (i : Int)) →
  Ev (fun k => Rf_Hard.l1 k g acc (i : Int) a (j : Int) z h p c) (R (if isHard z h p c (rd_L1 g (i : Int)) = true then acc ++ [(i : Int)] else acc))
 | 0, j, a, hj, a0, a1, he => by
  refine Ev.succ (f := fun k => Rf_Hard.l1 k g acc (i : Int) a (j : Int) z h p c) ?_
  have hgl := hg _ (rdL_mem hi)
  have hlen := hgl.1
  have hs := sn_in hgl (rd_L1 g (i : Int)).length 0 (by omega)
  have m1 : 0 ≤ c * sn (rd_L1 g (i : Int)) (rd_L1 g (i : Int)).length 0 := Int.mul_nonneg hc.1 hs.1
  have m2 : c * sn (rd_L1 g (i : Int)) (rd_L1 g (i : Int)).length 0 ≤ 100 * 160000 := Int.mul_le_mul hc.2 (by omega) hs.1 (by omega)
  rw [wsn, Int.add_zero] at he
  simp only [Rf_Hard.l1, show (0 : Int) ≤ (i : Int) by omega, show (i : Int) < (g.length : Int) by omega, show ¬ (j : Int) < ((rd_L1 g (i : Int)).length : Int) by omega, if_true, if_false, show acc.length < 17592186044416 by omega, up (show i < 4611686018427387904 by omega)]
  by_cases q1 : p ≤ own z h (rd_L1 g (i : Int))
  ·simp only [show a ≥ p by omega, if_true]
   refine Ev.bind (Sum_ev _ (by omega) hgl.2) ?_
   rw [w64 (n := 100 * a) (by omega), w64 (n := c * sn (rd_L1 g (i : Int)) (rd_L1 g (i : Int)).length 0) (by omega)]
   by_cases q2 : c * sn (rd_L1 g (i : Int)) (rd_L1 g (i : Int)).length 0 ≤ 100 * own z h (rd_L1 g (i : Int))
   ·have e : isHard z h p c (rd_L1 g (i : Int)) = true := by unfold isHard; simp [q1, q2]
    rw [if_pos e]
    simp only [show 100 * a ≥ c * sn (rd_L1 g (i : Int)) (rd_L1 g (i : Int)).length 0 by omega, if_true]
    exact hnext _ (by simp; omega)
   ·have e : ¬ isHard z h p c (rd_L1 g (i : Int)) = true := by unfold isHard; simp [q2]
    rw [if_neg e]
    simp only [show ¬ 100 * a ≥ c * sn (rd_L1 g (i : Int)) (rd_L1 g (i : Int)).length 0 by omega, if_false]
    exact hnext _ (by omega)
  ·have e : ¬ isHard z h p c (rd_L1 g (i : Int)) = true := by unfold isHard; simp [q1]
   rw [if_neg e]
   simp only [show ¬ a ≥ p by omega, if_false]
   exact hnext _ (by omega)
 | n + 1, j, a, hj, a0, a1, he => by
  refine Ev.succ (f := fun k => Rf_Hard.l1 k g acc (i : Int) a (j : Int) z h p c) ?_
  have hgl := hg _ (rdL_mem hi)
  have hlen := hgl.1
  have hr := hgl.rd (i := j) (by omega)
  simp only [Rf_Hard.l1, show (0 : Int) ≤ (i : Int) by omega, show (0 : Int) ≤ (j : Int) by omega, show (i : Int) < (g.length : Int) by omega, show (j : Int) < ((rd_L1 g (i : Int)).length : Int) by omega, if_true, Within_eq, Option.bind_some, w64 (n := z - h) (by omega), w64 (n := z + h) (by omega), up (show j < 4611686018427387904 by omega), w64 (n := a + rd (rd_L1 g (i : Int)) (j : Int)) (by omega)]
  rw [wsn] at he
  by_cases q : z - h ≤ (j : Int) ∧ (j : Int) ≤ z + h
  ·rw [if_pos q] at he
   simp only [q, and_self, decide_true, if_true]
   exact Hard_l1 g hl hg hz hh hc acc i hi ha R hnext n (j + 1) _ (by omega) (by omega) (by omega) (by omega)
  ·rw [if_neg q] at he
   simp only [q, decide_false, Bool.false_eq_true, if_false]
   exact Hard_l1 g hl hg hz hh hc acc i hi ha R hnext n (j + 1) _ (by omega) (by omega) (by omega) (by omega)
theorem Hard_l0 (g : List (List Int)) (hl : g.length < 1000) (hg : ∀ l ∈ g, Good l) {z h p c : Int} (hz : 0 ≤ z ∧ z ≤ 15) (hh : 0 ≤ h ∧ h ≤ 16) (hc : 0 ≤ c ∧ c ≤ 100) : ∀ (n i : Nat) (acc : List Int), i + n = g.length → acc.length ≤ i →
  Ev (fun k => Rf_Hard.l0 k g acc (i : Int) z h p c) (acc ++ hardF g z h p c n i)
 | 0, i, acc, hi, ha => by
  refine Ev.succ (f := fun k => Rf_Hard.l0 k g acc (i : Int) z h p c) ?_
  simp only [Rf_Hard.l0, show ¬ (i : Int) < (g.length : Int) by omega, if_false, hardF, List.append_nil]
  exact Ev.some
 | n + 1, i, acc, hi, ha => by
  refine Ev.succ (f := fun k => Rf_Hard.l0 k g acc (i : Int) z h p c) ?_
  simp only [Rf_Hard.l0, show (i : Int) < (g.length : Int) by omega, if_true]
  have hgl := hg _ (rdL_mem (g := g) (i := i) (by omega))
  have hw := wsn_own (l := rd_L1 g (i : Int)) hz.1 hh.1 (rd_L1 g (i : Int)).length 0 (by omega)
  rw [Nat.zero_max] at hw
  have := Hard_l1 g hl hg (p := p) hz hh hc acc i (by omega) ha (fun a => a ++ hardF g z h p c n (i + 1)) (fun acc' h' => Hard_l0 g hl hg hz hh hc n (i + 1) acc' (by omega) h') (rd_L1 g (i : Int)).length 0 0 (by omega) (by omega) (by omega) (by rw [hw, Int.zero_add]; rfl)
  rw [hardF]
  by_cases q : isHard z h p c (rd_L1 g (i : Int)) = true
  ·simp only [q, if_true] at this ⊢
   simpa using this
  ·simp only [q, if_false] at this ⊢
   exact this

theorem alone_rd (z : Nat) (x : Int) (q : Nat) (hq : q < z + 1) : rd ((List.replicate (z + 1) (0 : Int)).set z x) (q : Int) = if q = z then x else 0 := by
 rw [rd_nat, List.getD_eq_getElem?_getD, List.getElem?_set]
 by_cases e : q = z
 ·subst e
  rw [if_pos rfl, if_pos rfl, if_pos (by simp)]; rfl
 ·rw [if_neg (fun h => e h.symm), if_neg e, List.getElem?_replicate, if_pos hq]; rfl
theorem sn_alone {l : List Int} {z : Nat} {x : Int} (h : ∀ q : Nat, q < l.length → rd l (q : Int) = if q = z then x else 0) : ∀ (n i : Nat), i + n ≤ l.length → sn l n i = if i ≤ z ∧ z < i + n then x else 0
 | 0, i, _ => by rw [sn, if_neg (by omega)]
 | n + 1, i, hi => by
  rw [sn, h i (by omega), sn_alone h n (i + 1) (by omega)]
  by_cases e : i = z
  ·rw [if_pos e, if_neg (by omega), if_pos (by omega)]; omega
  ·rw [if_neg e]
   by_cases q : i + 1 ≤ z ∧ z < i + 1 + n
   ·rw [if_pos q, if_pos (by omega)]; omega
   ·rw [if_neg q, if_neg (by omega)]; omega
theorem hard_sub {g : List (List Int)} (hg : ∀ l ∈ g, Good l) {z h p c c2 : Int} (h2 : c ≤ c2) {x : Int} (hx : x ∈ hardF g z h p c2 g.length 0) : x ∈ hardF g z h p c g.length 0 := by
 rw [mem_hardF] at hx ⊢
 obtain ⟨q, e, q1, q2, q3⟩ := hx
 refine ⟨q, e, q1, q2, ?_⟩
 have hgl := hg _ (rdL_mem (g := g) (i := q) (by omega))
 have hs := sn_in hgl (rd_L1 g (q : Int)).length 0 (by omega)
 unfold isHard at q3 ⊢
 rw [Bool.and_eq_true, decide_eq_true_eq, decide_eq_true_eq] at q3 ⊢
 exact ⟨q3.1, Int.le_trans (Int.mul_le_mul_of_nonneg_right h2 hs.1) q3.2⟩
theorem hardF_le {g : List (List Int)} (hg : ∀ l ∈ g, Good l) {z h p c c2 : Int} (h2 : c ≤ c2) : ∀ (n i : Nat), i + n ≤ g.length → (hardF g z h p c2 n i).length ≤ (hardF g z h p c n i).length
 | 0, i, _ => Nat.le_refl _
 | n + 1, i, hi => by
  have ih := hardF_le hg (z := z) (h := h) (p := p) h2 n (i + 1) (by omega)
  have hgl := hg _ (rdL_mem (g := g) (i := i) (by omega))
  have hs := sn_in hgl (rd_L1 g (i : Int)).length 0 (by omega)
  rw [hardF, hardF]
  by_cases a : isHard z h p c2 (rd_L1 g (i : Int)) = true
  ·have b : isHard z h p c (rd_L1 g (i : Int)) = true := by
    unfold isHard at a ⊢
    rw [Bool.and_eq_true, decide_eq_true_eq, decide_eq_true_eq] at a ⊢
    exact ⟨a.1, Int.le_trans (Int.mul_le_mul_of_nonneg_right h2 hs.1) a.2⟩
   rw [if_pos a, if_pos b, List.length_cons, List.length_cons]; omega
  ·rw [if_neg a]
   split
   ·rw [List.length_cons]; omega
   ·exact ih
theorem hard_l1 {a b : List Int} (ha : a.length < 1000) (hb : b.length < 1000) (hsub : ∀ x ∈ b, x ∈ a) : ∀ (n i : Nat), i + n = b.length →
  Ev (fun k => Lw_LineHard.l1 k a b (i : Int)) true
 | 0, i, h => by
  refine Ev.succ (f := fun k => Lw_LineHard.l1 k a b (i : Int)) ?_
  simp only [Lw_LineHard.l1, show ¬ (i : Int) < (b.length : Int) by omega, if_false]
  exact Ev.some
 | n + 1, i, h => by
  refine Ev.succ (f := fun k => Lw_LineHard.l1 k a b (i : Int)) ?_
  simp only [Lw_LineHard.l1, show (i : Int) < (b.length : Int) by omega, show (0 : Int) ≤ (i : Int) by omega, if_true, up (show i < 4611686018427387904 by omega)]
  refine Ev.bind (Has_ev _ _ (by omega)) ?_
  simp only [hsub _ (rd_mem (l := b) (i := i) (by omega)), decide_true, if_true]
  exact hard_l1 ha hb hsub n (i + 1) (by omega)
theorem hard_main (g : List (List Int)) (h24 : g.length ≤ 24) (hs : ∀ l ∈ g, l.length ≤ 20) (z h p c more : Int) (hz : -9223372036854775808 ≤ z ∧ z ≤ 9223372036854775807) (hc : -9223372036854775808 ≤ c ∧ c ≤ 9223372036854775807) :
  Ev (fun k => (Rf_CopyGates.f k g).bind fun t1394 => ((line_HardIn.f k t1394 z h p c).bind fun bt1397 => ((Rf_HardErr.f k g z h p c).bind fun t1401 => (if t1401 = 0 then (if bt1397.2 = 0 then ((Rf_Hard.f k g z h p c).bind fun t1402 => ((Bs_Ints.f k bt1397.1 t1402).bind fun t1405 => (Lw_LineHard.j1 k g more bt1397.1 (!t1405) z h p c))) else (Lw_LineHard.j1 k g more bt1397.1 true z h p c)) else (if bt1397.2 = t1401 then (some ((bt1397.1.length : Int) == 0)) else (none)))))) true := by
 refine Ev.bind (CopyGates_ev g (by omega) (fun l hl => by have := hs l hl; omega)) ?_
 refine Ev.bind (HardIn_ev g z h p c) ?_
 refine Ev.bind (HardErr_ev g z h p c) ?_
 by_cases e : hErr g z h p c = 0
 ·obtain ⟨h1, h2, h3, h4, h5, h6⟩ := hErr_ok e
  simp only [e, if_true]
  refine Ev.bind (a := hardF g z h p c g.length 0) ?_ ?_
  ·have := Hard_l0 g (by omega) h2 (p := p) h3 h4 h6 g.length 0 [] (by omega) (by simp)
   simpa [Rf_Hard.f] using this
  have hlen := hardF_length g z h p c g.length 0
  refine Ev.bind (Ints_ev _ (by omega)) ?_
  refine Ev.succ (f := fun k => Lw_LineHard.j1 k g more _ _ z h p c) ?_
  obtain ⟨n, rfl⟩ : ∃ n : Nat, z = (n : Int) := ⟨z.toNat, by omega⟩
  simp only [Lw_LineHard.j1, Bool.not_true, Bool.false_eq_true, if_false]
  rw [up (show n < 4611686018427387904 by omega)]
  simp only [show (0 : Int) ≤ ((n + 1 : Nat) : Int) by omega, Int.toNat_natCast, show n + 1 ≤ 35184372088832 by omega, if_true, Option.bind_some, List.length_replicate, show (0 : Int) ≤ (n : Int) by omega, show (n : Int) < ((n + 1 : Nat) : Int) by omega]
  -- one gate alone
  have hmn : mn 10000 p = min 10000 p := mn_eq2 _ _
  rw [hmn]
  obtain ⟨A, hA⟩ : ∃ A, A = (List.replicate (n + 1) (0 : Int)).set n (min 10000 p) := ⟨_, rfl⟩
  have hAl : A.length = n + 1 := by rw [hA]; simp
  have hAr : ∀ q : Nat, q < A.length → rd A (q : Int) = if q = n then min 10000 p else 0 := fun q hq => by rw [hA]; exact alone_rd n _ q (by omega)
  have hAg : Good A := ⟨by omega, fun x hx => by
   obtain ⟨q, hq, rfl⟩ := mem_rd hx
   rw [hAr q hq]; split <;> omega⟩
  have hAs : sn A A.length 0 = min 10000 p := by rw [sn_alone hAr _ _ (by omega), if_pos (by omega)]
  have hAo : own (n : Int) h A = min 10000 p := by
   unfold own
   have : hF (n : Int) h A ≤ n ∧ n < hT (n : Int) h A ∧ hT (n : Int) h A ≤ A.length := by unfold hF hT; omega
   rw [sn_alone hAr _ _ (by omega), if_pos (by omega)]
  rw [← hA]
  refine Ev.bind (HardIn_ev [A] (n : Int) h p c) ?_
  have e1 : hErr [A] (n : Int) h p c = 0 := hErr_of (by simp) (by simpa using hAg) h3 h4 h5 h6
  simp only [e1, if_true]
  have e2 : ((((hardF [A] (n : Int) h p c [A].length 0).length : Int) == 1) != (decide (p ≤ 10000))) = false := by
   have er : rd_L1 [A] ((0 : Nat) : Int) = A := by rw [rdL_nat]; rfl
   show ((((hardF [A] (n : Int) h p c 1 0).length : Int) == 1) != (decide (p ≤ 10000))) = false
   rw [hardF, er]
   have m2 : c * min 10000 p ≤ 100 * min 10000 p := Int.mul_le_mul_of_nonneg_right h6.2 (by omega)
   by_cases q : p ≤ 10000
   ·have : isHard (n : Int) h p c A = true := by unfold isHard; rw [hAo, hAs]; simp only [Bool.and_eq_true, decide_eq_true_eq]; omega
    rw [if_pos this]
    simp [hardF, q]
   ·have : ¬ isHard (n : Int) h p c A = true := by unfold isHard; rw [hAo, hAs]; simp only [Bool.and_eq_true, decide_eq_true_eq]; omega
    rw [if_neg this]
    simp [hardF, q]
  rw [e2]
  refine Ev.succ (f := fun k => Lw_LineHard.j2 k g more _ _ (n : Int) h p c) ?_
  simp only [Lw_LineHard.j2, Bool.false_eq_true, if_false, Within_eq, Option.bind_some, decide_eq_true_eq]
  by_cases q : 0 ≤ more ∧ more ≤ 100
  ·simp only [q, and_self, if_true]
   rw [w64 (n := c + more) (by omega)]
   refine Ev.succ (f := fun k => Lw_LineHard.j3 k g more _ _ (n : Int) h p c) ?_
   by_cases q2 : c + more > 100
   ·simp only [Lw_LineHard.j3, q2, decide_true, if_true]; exact Ev.some
   ·simp only [Lw_LineHard.j3, q2, decide_false, Bool.false_eq_true, if_false]
    rw [w64 (n := c + more) (by omega)]
    refine Ev.bind (CopyGates_ev g (by omega) (fun l hl => by have := hs l hl; omega)) ?_
    refine Ev.bind (HardIn_ev g (n : Int) h p (c + more)) ?_
    have e3 : hErr g (n : Int) h p (c + more) = 0 := hErr_of h1 h2 h3 h4 h5 (by omega)
    have hle := hardF_le h2 (z := (n : Int)) (h := h) (p := p) (show c ≤ c + more by omega) g.length 0 (by omega)
    have hlen2 := hardF_length g (n : Int) h p (c + more) g.length 0
    simp only [e3, if_true]
    refine Ev.succ (f := fun k => Lw_LineHard.j4 k _ _ _) ?_
    simp only [Lw_LineHard.j4, show ¬ ((hardF g (n : Int) h p (c + more) g.length 0).length : Int) > ((hardF g (n : Int) h p c g.length 0).length : Int) by omega, decide_false, Bool.false_eq_true, if_false]
    exact hard_l1 (by omega) (by omega) (fun x hx => hard_sub h2 (show c ≤ c + more by omega) hx) (hardF g (n : Int) h p (c + more) g.length 0).length 0 (by omega)
  ·simp only [q, if_false]
   refine Ev.succ (f := fun k => Lw_LineHard.j3 k g more _ _ (n : Int) h p c) ?_
   simp only [Lw_LineHard.j3, if_true]; exact Ev.some
 ·simp only [e, if_false, if_true, List.length_nil, Int.ofNat_zero, beq_self_eq_true]; exact Ev.some
theorem hard_l0 (g : List (List Int)) (h24 : g.length ≤ 24) (z h p c more : Int) (hz : -9223372036854775808 ≤ z ∧ z ≤ 9223372036854775807) (hc : -9223372036854775808 ≤ c ∧ c ≤ 9223372036854775807) : ∀ (n i : Nat), i + n = g.length → (∀ q : Nat, q < i → (rd_L1 g (q : Int)).length ≤ 20) →
  Ev (fun k => Lw_LineHard.l0 k g more (i : Int) z h p c) true
 | 0, i, hi, hs => by
  refine Ev.succ (f := fun k => Lw_LineHard.l0 k g more (i : Int) z h p c) ?_
  simp only [Lw_LineHard.l0, show ¬ (i : Int) < (g.length : Int) by omega, if_false]
  refine hard_main g h24 (fun l hl => ?_) z h p c more hz hc
  obtain ⟨q, hq, e⟩ := List.getElem_of_mem hl
  have := hs q (by omega)
  rw [rdL_nat, List.getD_eq_getElem?_getD, List.getElem?_eq_getElem hq] at this
  rw [← e]; exact this
 | n + 1, i, hi, hs => by
  refine Ev.succ (f := fun k => Lw_LineHard.l0 k g more (i : Int) z h p c) ?_
  simp only [Lw_LineHard.l0, show (i : Int) < (g.length : Int) by omega, show (0 : Int) ≤ (i : Int) by omega, if_true, up (show i < 4611686018427387904 by omega), short_eq, Option.bind_some, decide_eq_true_eq]
  by_cases q : ((rd_L1 g (i : Int)).length : Int) ≤ 20
  ·simp only [q, if_true]
   refine hard_l0 g h24 z h p c more hz hc n (i + 1) (by omega) (fun x hx => ?_)
   by_cases e : x = i
   ·subst e; omega
   ·exact hs x (by omega)
  ·simp only [q, if_false]; exact Ev.some
theorem LineHard_ev (g : List (List Int)) (z h p c more : Int) (hz : -9223372036854775808 ≤ z ∧ z ≤ 9223372036854775807) (hc : -9223372036854775808 ≤ c ∧ c ≤ 9223372036854775807) : Ev (fun k => Lw_LineHard.f k g z h p c more) true := by
 unfold Lw_LineHard.f
 refine Ev.bind awake_ev ?_
 simp only [if_true]
 by_cases a : (g.length : Int) > 24
 ·simp only [a, if_true]; exact Ev.some
 ·simp only [a, if_false]
  exact hard_l0 g (by omega) z h p c more hz hc g.length 0 (by omega) (fun q hq => absurd hq (by omega))
theorem LineHard_pure (g : List (List Int)) (_ : g.length ≤ maxLen ∧ ∀ l ∈ g, l.length ≤ maxLen ∧ ∀ x ∈ l, (Lit.int .i64 x).wf = true) (z : Int) (hz : (Lit.int .i64 z).wf = true) (h : Int) (_ : (Lit.int .i64 h).wf = true) (p : Int) (_ : (Lit.int .i64 p).wf = true) (c : Int) (hc : (Lit.int .i64 c).wf = true) (more : Int) (_ : (Lit.int .i64 more).wf = true) :
  ∃ k, Lw_LineHard.f k g z h p c more = some true := (LineHard_ev g z h p c more (i64_in hz) (i64_in hc)).ex
end Go.Proofs.YtjnkphmcndaijaaDoor.P
