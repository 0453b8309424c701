/-
PLAIN LAW: what the walks compute answers as the statement says (no program in sight; Ev: from some number of rounds on).
-/
import Derived.Test.YteiafijbgjgiaaaO02
import Derived.Test.YteiafijbgjgiaaaB09
namespace Go.Proofs.Yteiafijbgjgiaaa.P
open Go Go.RowKit Go.Proofs.Yteiafijbgjgiaaa.A Go.Proofs.YteiafijbgjgiaaaW.PrintWords Go.Proofs.YteiafijbgjgiaaaW.PrintLast Go.Proofs.YteiafijbgjgiaaaW.PrintMore
set_option linter.unusedSimpArgs false
set_option linter.unusedVariables false
def Ev {α : Type} (f : Nat → Option α) (r : α) : Prop := ∃ k, ∀ j, k ≤ j → f j = some r

theorem Ev.some {α : Type} {r : α} : Ev (fun _ => Option.some r) r := ⟨0, fun _ _ => rfl⟩
theorem Ev.bind {α β : Type} {f : Nat → Option α} {g : Nat → α → Option β} {a : α} {b : β} (h : Ev f a) (h2 : Ev (fun k => g k a) b) : Ev (fun k => (f k).bind (g k)) b := by
 obtain ⟨k, hk⟩ := h; obtain ⟨m, hm⟩ := h2; exact ⟨max k m, fun j hj => by show (f j).bind (g j) = _; rw [hk j (by omega)]; exact hm j (by omega)⟩
theorem Ev.succ {α : Type} {f : Nat → Option α} {r : α} (h : Ev (fun k => f (k + 1)) r) : Ev f r := by
 obtain ⟨k, hk⟩ := h; exact ⟨k + 1, fun j hj => by obtain ⟨m, rfl⟩ : ∃ m, j = m + 1 := ⟨j - 1, by omega⟩; exact hk m (by omega)⟩
theorem Ev.congr {α : Type} {f g : Nat → Option α} {r : α} (e : ∀ k, f k = g k) (h : Ev f r) : Ev g r := by
 obtain ⟨k, hk⟩ := h; exact ⟨k, fun j hj => by rw [← e j]; exact hk j hj⟩
theorem Ev.ex {α : Type} {f : Nat → Option α} {r : α} (h : Ev f r) : ∃ k, f k = Option.some r := let ⟨k, hk⟩ := h; ⟨k, hk k (Nat.le_refl _)⟩
theorem Ev.of_mono {α : Type} {f : Nat → Option α} {r : α} (hm : ∀ k, LeO (f k) (f (k + 1))) {k : Nat} (h : f k = Option.some r) : Ev f r := by
  refine ⟨k, fun j hj => ?_⟩
  induction j with
  | zero => obtain rfl : k = 0 := by omega
            exact h
  | succ j ih =>
    by_cases e : k = j + 1
    · subst e; exact h
    · exact hm j r (ih (by omega))
theorem up {i : Nat} (h : i < 4611686018427387904) : wrap64 ((i : Int) + 1) = ((i + 1 : Nat) : Int) := by
 unfold wrap64; omega
theorem w64 {n : Int} (h : -9223372036854775808 ≤ n ∧ n ≤ 9223372036854775807) : wrap64 n = n := by unfold wrap64; omega
theorem rd_nat (l : List Int) (i : Nat) : rd l (i : Int) = l.getD i 0 := by unfold rd; simp
theorem drop_rd {l : List Int} {i : Nat} (h : i < l.length) : l.drop i = rd l (i : Int) :: l.drop (i + 1) := by
 rw [rd_nat, List.drop_eq_getElem_cons h]
 simp [List.getD_eq_getElem?_getD, h]
theorem drop_getD {α : Type} {l : List α} {i : Nat} (z : α) (h : i < l.length) : l.drop i = l.getD i z :: l.drop (i + 1) := by
 rw [List.drop_eq_getElem_cons h]
 simp [List.getD_eq_getElem?_getD, h]

theorem mx_eq (a b : Int) : mx a b = max a b := by unfold mx; split <;> omega
theorem within_eq (a b c : Int) : L_within.f a b c = some (decide (b ≤ a ∧ a ≤ c)) := by
 unfold L_within.f
 by_cases h : b ≤ a <;> simp [h]
theorem Within_eq (a b c : Int) : Bs_Within.f a b c = some (decide (b ≤ a ∧ a ≤ c)) := by
 unfold Bs_Within.f
 by_cases h : b ≤ a <;> simp [h]
theorem unless_eq (b : Bool) (e : Int) : L_unless.f b e = some (if b = true then 0 else e) := by
 unfold L_unless.f
 cases b <;> simp
theorem Size_eq (a : Int) : Bs_Size.f a = some (mx a (wrap64 (-a))) := rfl

def fnz : List Int → Int
 | [] => 0
 | x :: r => if x = 0 then fnz r else x

theorem first_l0 (l : List Int) (hl : l.length < 4611686018427387904) : ∀ (n i : Nat), i + n = l.length → Ev (fun k => L_first.l0 k l (l.length : Int) (i : Int)) (fnz (l.drop i))
 | 0, i, h => by
  refine Ev.succ (f := fun k => L_first.l0 k l (l.length : Int) (i : Int)) ?_; have h1 : ¬ (i : Int) < (l.length : Int) := by omega
  simp only [L_first.l0, h1, if_false]; rw [show l.drop i = [] from List.drop_eq_nil_of_le (by omega)]; exact Ev.some
 | n + 1, i, h => by
  refine Ev.succ (f := fun k => L_first.l0 k l (l.length : Int) (i : Int)) ?_; have h1 : (i : Int) < (l.length : Int) := by omega
  have h2 : (0 : Int) ≤ (i : Int) := by omega
  simp only [L_first.l0, h1, h2, if_true, up (show i < 4611686018427387904 by omega)]; rw [drop_rd (show i < l.length by omega)]; unfold fnz
  by_cases e : rd l (i : Int) = 0
  ·simp only [e, if_true]; exact first_l0 l hl n (i + 1) (by omega)
  ·simp only [e, if_false]; exact Ev.some
theorem first_ev (l : List Int) (hl : l.length < 4611686018427387904) : Ev (fun k => L_first.f k l) (fnz l) := first_l0 l hl l.length 0 (by omega)

theorem CopyInts_eq (l : List Int) (h : l.length < 4611686018427) : Bs_CopyInts.f l = some l := by
 unfold Bs_CopyInts.f; simp only [Option.bind_some, List.length_nil, List.nil_append]; rw [if_pos (by omega)]
theorem both_eq (a b : Int) : Lw_both.f a b = some (if a = 0 then b else a) := by
 unfold Lw_both.f; split <;> rfl
theorem few_eq (l : List Int) : Lw_few.f l = some (decide (l.length ≤ 26)) := by
 unfold Lw_few.f; congr 2; apply propext; omega
def chk {α : Type} (p : α → Int) : List α → Nat → Int × Int
 | [], _ => (0, 0)
 | x :: r, i => if p x = 0 then chk p r (i + 1) else ((i : Int), p x)
theorem chk_all {α : Type} {p : α → Int} : ∀ {l : List α} {i : Nat}, (chk p l i).2 = 0 → ∀ x ∈ l, p x = 0
 | [], i, _ => by simp
 | y :: r, i, h => by
  unfold chk at h
  split at h <;> rename_i e
  ·intro x hx
   rcases List.mem_cons.mp hx with rfl | hx
   ·exact e
   ·exact chk_all h x hx
  ·exact absurd h e
theorem chk_loop {α : Type} (z : α) (p : α → Int) (l : List α) (hl : l.length < 4611686018427387904) (F : Nat → Int → Option (Int × Int))
  (h0 : ∀ k i, ¬ i < (l.length : Int) → F (k + 1) i = some (0, 0))
  (h1 : ∀ k (i : Nat), i < l.length → F (k + 1) (i : Int) = if p (l.getD i z) = 0 then F k (wrap64 ((i : Int) + 1)) else some ((i : Int), p (l.getD i z))) :
  ∀ (n i : Nat), i + n = l.length → Ev (fun k => F k (i : Int)) (chk p (l.drop i) i)
 | 0, i, h => by
  refine Ev.succ (f := fun k => F k (i : Int)) ?_; rw [show l.drop i = [] from List.drop_eq_nil_of_le (by omega)]; exact Ev.congr (fun k => (h0 k i (by omega)).symm) Ev.some
 | n + 1, i, h => by
  refine Ev.succ (f := fun k => F k (i : Int)) ?_; refine Ev.congr (fun k => (h1 k i (by omega)).symm) ?_; rw [drop_getD z (show i < l.length by omega)]; unfold chk
  by_cases e : p (l.getD i z) = 0
  ·simp only [e, if_true, up (show i < 4611686018427387904 by omega)]; exact chk_loop z p l hl F h0 h1 n (i + 1) (by omega)
  ·simp only [e, if_false]; exact Ev.some
theorem isSignal_eq (a : Int) : L_isSignal.f a = some (decide (0 ≤ a ∧ a ≤ 10000)) := by
 unfold L_isSignal.f; rw [within_eq]; rfl
def sE (x : Int) : Int := if 0 ≤ x ∧ x ≤ 10000 then 0 else 2
def pE (l : List Int) : Int × Int := if l.length = 0 then (0, 10) else if 24 < l.length then (0, 8) else chk sE l 0
theorem CheckProfile_1_eq (a : Int) : L_CheckProfile_1.f a = some (sE a) := by
 unfold L_CheckProfile_1.f sE; simp only [isSignal_eq, unless_eq, Option.bind_some, decide_eq_true_eq]
theorem each_profile_ev (l : List Int) (hl : l.length < 4611686018427387904) : Ev (fun k => L_each_int_CheckProfile_1.f k l) (chk sE l 0) := by
 refine chk_loop 0 sE l hl (fun k i => L_each_int_CheckProfile_1.l0 k l (l.length : Int) i) (fun k i h => ?_) (fun k i h => ?_) l.length 0 (by omega)
 ·simp only [L_each_int_CheckProfile_1.l0, h, if_false]
 ·simp only [L_each_int_CheckProfile_1.l0, show (i : Int) < (l.length : Int) by omega, show (0 : Int) ≤ (i : Int) by omega, if_true, CheckProfile_1_eq, Option.bind_some, rd_nat]
theorem CheckProfile_ev (l : List Int) (hl : l.length < 4611686018427387904) : Ev (fun k => L_CheckProfile.f k l) (pE l) := by
 unfold L_CheckProfile.f; simp only [unless_eq, Option.bind_some]; refine Ev.bind (first_ev _ (by simp)) ?_; unfold pE
 by_cases h1 : l.length = 0
 ·simp only [h1, show ¬ ((0 : Nat) : Int) > 0 by omega, decide_false, fnz]; exact Ev.some
 ·by_cases h2 : 24 < l.length
  ·simp only [h1, h2, show (l.length : Int) > 0 by omega, show ¬ (l.length : Int) ≤ 24 by omega, decide_false, decide_true, fnz, if_true, if_false]; exact Ev.some
  ·simp only [h1, h2, show (l.length : Int) > 0 by omega, show (l.length : Int) ≤ 24 by omega, decide_true, fnz, if_true, if_false]; exact Ev.bind (each_profile_ev l hl) Ev.some
theorem RefCheckProfile_ev (l : List Int) (hl : l.length < 4611686018427387904) : Ev (fun k => Rf_CheckProfile.f k l) (pE l) := by
 unfold Rf_CheckProfile.f pE
 by_cases h1 : l.length = 0
 ·simp only [h1]; exact Ev.some
 ·by_cases h2 : 24 < l.length
  ·simp only [h1, h2, show ¬ (l.length : Int) = 0 by omega, show (l.length : Int) > 24 by omega, if_true, if_false]; exact Ev.some
  ·simp only [h1, h2, show ¬ (l.length : Int) = 0 by omega, show ¬ (l.length : Int) > 24 by omega, if_false]; refine chk_loop 0 sE l hl (fun k i => Rf_CheckProfile.l0 k l i) (fun k i h => ?_) (fun k i h => ?_) l.length 0 (by omega)
   ·simp only [Rf_CheckProfile.l0, h, if_false]
   ·simp only [Rf_CheckProfile.l0, show (i : Int) < (l.length : Int) by omega, show (0 : Int) ≤ (i : Int) by omega, if_true, Within_eq, Option.bind_some, rd_nat, sE, decide_eq_true_eq]
    split <;> simp
theorem open_ev (l : List Int) (hl : l.length < 4611686018427387904) : Ev (fun k => L_open.f k l) (l, (pE l).2) := by
 unfold L_open.f; exact Ev.bind (CheckProfile_ev l hl) Ev.some
theorem pE_ok {l : List Int} (h : (pE l).2 = 0) : 0 < l.length ∧ l.length ≤ 24 ∧ ∀ x ∈ l, 0 ≤ x ∧ x ≤ 10000 := by
 unfold pE at h
 split at h
 ·exact absurd h (by simp)
 split at h
 ·exact absurd h (by simp)
 refine ⟨by omega, by omega, fun x hx => ?_⟩; have := chk_all h x hx; unfold sE at this
 split at this <;> omega
theorem awake_ev : Ev (fun k => Lw_awake.f k) true :=
 Ev.of_mono (k := 1500) (fun k => Lw_awake.mono k) (by kernel_rfl)
def mid (l : List Int) : Int := (isort l).getD ((l.length - 1) / 2) 0
theorem isort_length (l : List Int) : (isort l).length = l.length := (isort_perm l).length_eq
def pcs (n : Nat) : List Int → Nat → Int
 | [], _ => 0
 | x :: r, i => (if 2 * i + 1 < n then -x else if n < 2 * i + 1 then x else 0) + pcs n r (i + 1)
def co (g : List Int) : Int := pcs g.length (isort g) 0
def dst (v : Int) : List Int → Int
 | [] => 0
 | x :: r => (if x ≤ v then v - x else x - v) + dst v r
theorem dst_perm (v : Int) {a b : List Int} (h : a.Perm b) : dst v a = dst v b := by
  induction h with
  | nil => rfl
  | cons u _ ih => simp only [dst, ih]
  | swap x y r => simp only [dst]; omega
  | trans _ _ i1 i2 => rw [i1, i2]
theorem dst_nonneg (v : Int) : ∀ l : List Int, 0 ≤ dst v l
 | [] => by simp [dst]
 | x :: r => by have := dst_nonneg v r; simp only [dst]; split <;> omega
theorem dst_le (v : Int) (hv : 0 ≤ v ∧ v ≤ 10000) : ∀ {l : List Int}, (∀ x ∈ l, 0 ≤ x ∧ x ≤ 10000) → dst v l ≤ 10000 * (l.length : Int)
 | [], _ => by simp [dst]
 | x :: r, h => by
  have := dst_le v hv (l := r) (fun y hy => h y (List.mem_cons_of_mem _ hy)); have h2 := h x List.mem_cons_self; simp only [dst, List.length_cons]; split <;> omega
theorem pcs_le (n : Nat) (v : Int) : ∀ (r : List Int) (i : Nat), i + r.length = n → pcs n r i ≤ dst v r + v * (min i (n - i) : Nat)
 | [], i, h => by
  simp only [List.length_nil] at h; rw [show min i (n - i) = 0 by omega]; simp [pcs, dst]
 | x :: r, i, h => by
  simp only [List.length_cons] at h; have ih := pcs_le n v r (i + 1) (by omega); simp only [pcs, dst]
  by_cases h1 : 2 * i + 1 < n
  ·rw [if_pos h1]; rw [show min (i + 1) (n - (i + 1)) = i + 1 by omega] at ih; rw [show min i (n - i) = i by omega]; have e : v * ((i + 1 : Nat) : Int) = v * (i : Int) + v := by rw [Int.natCast_add, Int.mul_add]; simp
   split <;> omega
  ·by_cases h2 : n < 2 * i + 1
   ·rw [if_neg h1, if_pos h2]; rw [show min (i + 1) (n - (i + 1)) = n - i - 1 by omega] at ih; rw [show min i (n - i) = n - i - 1 + 1 by omega]; have e : v * ((n - i - 1 + 1 : Nat) : Int) = v * ((n - i - 1 : Nat) : Int) + v := by rw [Int.natCast_add, Int.mul_add]; simp
    split <;> omega
   ·rw [if_neg h1, if_neg h2]; rw [show min (i + 1) (n - (i + 1)) = i by omega] at ih; rw [show min i (n - i) = i by omega]
    split <;> omega
theorem pcs_eq (n : Nat) (v : Int) : ∀ (r : List Int) (i : Nat), i + r.length = n → (∀ q, (hq : q < r.length) → (2 * (i + q) + 1 < n → r[q] ≤ v) ∧ (n < 2 * (i + q) + 1 → v ≤ r[q]) ∧ (2 * (i + q) + 1 = n → r[q] = v)) → pcs n r i = dst v r + v * (min i (n - i) : Nat)
 | [], i, h, _ => by
  simp only [List.length_nil] at h; rw [show min i (n - i) = 0 by omega]; simp [pcs, dst]
 | x :: r, i, h, hb => by
  simp only [List.length_cons] at h; have ih := pcs_eq n v r (i + 1) (by omega) (fun q hq => by have := hb (q + 1) (by simpa using hq); simp only [List.getElem_cons_succ] at this; rw [show i + 1 + q = i + (q + 1) by omega]; exact this); obtain ⟨b1, b2, b3⟩ := hb 0 (by simp); simp only [List.getElem_cons_zero, Nat.add_zero] at b1 b2 b3; simp only [pcs, dst]
  by_cases h1 : 2 * i + 1 < n
  ·rw [if_pos h1]; rw [show min (i + 1) (n - (i + 1)) = i + 1 by omega] at ih; rw [show min i (n - i) = i by omega]; have e : v * ((i + 1 : Nat) : Int) = v * (i : Int) + v := by rw [Int.natCast_add, Int.mul_add]; simp
   have := b1 h1; rw [if_pos this]; omega
  ·by_cases h2 : n < 2 * i + 1
   ·rw [if_neg h1, if_pos h2]; rw [show min (i + 1) (n - (i + 1)) = n - i - 1 by omega] at ih; rw [show min i (n - i) = n - i - 1 + 1 by omega]; have e : v * ((n - i - 1 + 1 : Nat) : Int) = v * ((n - i - 1 : Nat) : Int) + v := by rw [Int.natCast_add, Int.mul_add]; simp
    have := b2 h2
    split <;> omega
   ·rw [if_neg h1, if_neg h2]; rw [show min (i + 1) (n - (i + 1)) = i by omega] at ih; rw [show min i (n - i) = i by omega]; have := b3 (by omega); subst this
    simp; omega
theorem co_le (g : List Int) (v : Int) : co g ≤ dst v g := by
 have := pcs_le g.length v (isort g) 0 (by rw [isort_length]; omega); rw [dst_perm v (isort_perm g)] at this; unfold co
 simpa using this
theorem co_mid (g : List Int) (h : 0 < g.length) : co g = dst (mid g) g := by
 have hi : (g.length - 1) / 2 < (isort g).length := by rw [isort_length]; omega
 have hs := isort_sorted g; have hsl := isort_length g; have key : ∀ p q, (hp : p < (isort g).length) → (hq : q < (isort g).length) → p ≤ q → (isort g)[p] ≤ (isort g)[q] := by
  intro p q hp hq hpq
  rcases Nat.lt_or_ge p q with h1 | h1
  ·exact List.pairwise_iff_getElem.mp hs p q hp hq h1
  ·obtain rfl : p = q := by omega
   exact Int.le_refl _
 have em : mid g = (isort g)[(g.length - 1) / 2] := by unfold mid; simp [List.getD_eq_getElem?_getD, hi]
 have := pcs_eq g.length (mid g) (isort g) 0 (by rw [isort_length]; omega) (fun q hq => by
  rw [em]; refine ⟨fun h1 => key _ _ hq hi (by omega), fun h1 => key _ _ hi hq (by omega), fun h1 => ?_⟩
  congr 1; omega)
 rw [dst_perm _ (isort_perm g)] at this; unfold co
 simpa using this
theorem mid_mem (g : List Int) (h : 0 < g.length) : mid g ∈ g := by
 have hi : (g.length - 1) / 2 < (isort g).length := by rw [isort_length]; omega
 have : mid g ∈ isort g := by unfold mid; simp [List.getD_eq_getElem?_getD, hi]
 exact (isort_perm g).mem_iff.mp this
theorem co_in (g : List Int) (hb : ∀ x ∈ g, 0 ≤ x ∧ x ≤ 10000) : 0 ≤ co g ∧ co g ≤ 10000 * (g.length : Int) := by
 by_cases h : g.length = 0
 ·rw [List.length_eq_zero_iff] at h; subst h; simp [co, pcs, isort]
 ·rw [co_mid g (by omega)]; exact ⟨dst_nonneg _ _, dst_le _ (hb _ (mid_mem g (by omega))) hb⟩
theorem cost_l0 (S : List Int) (hb : ∀ x ∈ S, 0 ≤ x ∧ x ≤ 10000) (hl : S.length ≤ 24) : ∀ (n i : Nat) (a : Int), i + n = S.length → -(10000 * (i : Int)) ≤ a → a ≤ 10000 * (i : Int) → Ev (fun k => L_profile_cost.l0 k S a (S.length : Int) (i : Int)) (a + pcs S.length (S.drop i) i)
 | 0, i, a, h, _, _ => by
  refine Ev.succ ?_; simp only [L_profile_cost.l0, show ¬ (i : Int) < (S.length : Int) by omega, if_false]; rw [show S.drop i = [] from List.drop_eq_nil_of_le (by omega)]; simp only [pcs, Int.add_zero]; exact Ev.some
 | n + 1, i, a, h, ha1, ha2 => by
  refine Ev.succ ?_; have hi : i < S.length := by omega
  have hm : rd S (i : Int) ∈ S := by rw [rd_nat]; simp [List.getD_eq_getElem?_getD, hi]
  have hx := hb _ hm; rw [drop_rd hi]; simp only [L_profile_cost.l0, show (i : Int) < (S.length : Int) by omega, show (0 : Int) ≤ (i : Int) by omega, if_true, up (show i < 4611686018427387904 by omega)]; rw [w64 (n := 2 * (i : Int)) (by omega), w64 (n := (S.length : Int) - 1) (by omega), w64 (n := a - rd S (i : Int)) (by omega), w64 (n := a + rd S (i : Int)) (by omega)]; simp only [pcs]
  by_cases h1 : 2 * i + 1 < S.length
  ·simp only [h1, show 2 * (i : Int) < (S.length : Int) - 1 by omega, if_true]; rw [show a + (-rd S (i : Int) + pcs S.length (S.drop (i + 1)) (i + 1)) = a - rd S (i : Int) + pcs S.length (S.drop (i + 1)) (i + 1) by omega]; exact cost_l0 S hb hl n (i + 1) _ (by omega) (by omega) (by omega)
  ·by_cases h2 : S.length < 2 * i + 1
   ·simp only [h1, h2, show ¬ 2 * (i : Int) < (S.length : Int) - 1 by omega, show 2 * (i : Int) > (S.length : Int) - 1 by omega, if_true, if_false]; rw [show a + (rd S (i : Int) + pcs S.length (S.drop (i + 1)) (i + 1)) = a + rd S (i : Int) + pcs S.length (S.drop (i + 1)) (i + 1) by omega]; exact cost_l0 S hb hl n (i + 1) _ (by omega) (by omega) (by omega)
   ·simp only [h1, h2, show ¬ 2 * (i : Int) < (S.length : Int) - 1 by omega, show ¬ 2 * (i : Int) > (S.length : Int) - 1 by omega, if_false, Int.zero_add]; exact cost_l0 S hb hl n (i + 1) _ (by omega) (by omega) (by omega)
theorem cost_ev (g : List Int) (hb : ∀ x ∈ g, 0 ≤ x ∧ x ≤ 10000) (hl : g.length ≤ 24) : Ev (fun k => L_profile_cost.f k g) (co g) := by
 unfold L_profile_cost.f L_sorted_prof.f slices_Sort_int_int.f; simp only [show g.length < 17592186044416 by omega, show g.length < 4611686018427387904 by omega, if_true, Option.bind_some]; have := cost_l0 (isort g) (fun x hx => hb x ((isort_perm g).mem_iff.mp hx)) (by rw [isort_length]; exact hl) (isort g).length 0 0 (by omega) (by omega) (by omega); rw [Int.zero_add, List.drop_zero] at this; unfold co; rw [isort_length] at this ⊢; exact this
def least (f : Nat → Int) : Nat → Int
 | 0 => f 0
 | n + 1 => if f (n + 1) < least f n then f (n + 1) else least f n
theorem least_le (f : Nat → Int) : ∀ (n i : Nat), i ≤ n → least f n ≤ f i
  | 0, i, h => by obtain rfl : i = 0 := by omega
                  exact Int.le_refl _
  | n + 1, i, h => by
    unfold least
    by_cases e : i = n + 1
    · subst e; split <;> omega
    · have := least_le f n i (by omega)
      split <;> omega
theorem least_mem (f : Nat → Int) : ∀ n, ∃ i, i ≤ n ∧ least f n = f i
 | 0 => ⟨0, by omega, rfl⟩
 | n + 1 => by
  unfold least; obtain ⟨i, h1, h2⟩ := least_mem f n
  split
  ·exact ⟨n + 1, by omega, rfl⟩
  ·exact ⟨i, by omega, h2⟩
theorem least_congr {f g : Nat → Int} : ∀ {n : Nat}, (∀ i, i ≤ n → f i = g i) → least f n = least g n
 | 0, h => h 0 (by omega)
 | n + 1, h => by unfold least; rw [h (n + 1) (by omega), least_congr (n := n) (fun i hi => h i (by omega))]
def seg (l : List Int) (i j : Nat) : List Int := (l.take j).drop i
theorem seg_length (l : List Int) (i j : Nat) (h : j ≤ l.length) : (seg l i j).length = j - i := by unfold seg; simp; omega
theorem seg_mem {l : List Int} {i j : Nat} {x : Int} (h : x ∈ seg l i j) : x ∈ l := List.mem_of_mem_take (List.mem_of_mem_drop h)
theorem seg_get {l : List Int} {i j q : Nat} (h : j ≤ l.length) (hq : q < (seg l i j).length) : (seg l i j)[q] = rd l ((i + q : Nat) : Int) := by
 have hq2 := hq; rw [seg_length l i j h] at hq2; rw [rd_nat]; have e : (seg l i j)[q]? = l[i + q]? := by
  unfold seg; rw [List.getElem?_drop, List.getElem?_take, if_pos (by omega)]
 rw [List.getElem?_eq_getElem hq] at e; rw [List.getD_eq_getElem?_getD, ← e]; rfl
theorem Cost_l1 (l : List Int) (hb : ∀ x ∈ l, 0 ≤ x ∧ x ≤ 10000) (hl : l.length ≤ 24) (i j : Nat) (hij : i ≤ j) (hj : j < l.length) (a : Int) (m : Nat) (hm : m < l.length) (R : Int)
  (hR : Ev (fun k => Rf_Cost.l0 k l (i : Int) (j : Int) (if a < 0 then dst (rd l (m : Int)) (seg l i (j + 1)) else if dst (rd l (m : Int)) (seg l i (j + 1)) < a then dst (rd l (m : Int)) (seg l i (j + 1)) else a) ((m + 1 : Nat) : Int)) R) :
  ∀ (n q : Nat) (c : Int), i + q + n = j + 1 → c + dst (rd l (m : Int)) ((seg l i (j + 1)).drop q) = dst (rd l (m : Int)) (seg l i (j + 1)) → 0 ≤ c → c ≤ 10000 * (q : Int) → Ev (fun k => Rf_Cost.l1 k l (i : Int) (j : Int) a (m : Int) c ((i + q : Nat) : Int)) R
 | 0, q, c, h, hc, _, _ => by
  refine Ev.succ ?_; have hsl := seg_length l i (j + 1) (by omega); rw [show (seg l i (j + 1)).drop q = [] from List.drop_eq_nil_of_le (by omega)] at hc; simp only [dst, Int.add_zero] at hc; rw [← hc] at hR; simp only [Rf_Cost.l1, show ¬ ((i + q : Nat) : Int) ≤ (j : Int) by omega, if_false, up (show m < 4611686018427387904 by omega)]
  by_cases h1 : a < 0
  ·simp only [h1, if_true] at hR ⊢; exact hR
  ·by_cases h2 : c < a
   ·simp only [h1, h2, if_true, if_false] at hR ⊢; exact hR
   ·simp only [h1, h2, if_false] at hR ⊢; exact hR
 | n + 1, q, c, h, hc, h0, h1 => by
  refine Ev.succ ?_; have hsl := seg_length l i (j + 1) (by omega); have hq : q < (seg l i (j + 1)).length := by omega
  rw [List.drop_eq_getElem_cons hq, seg_get (by omega) hq] at hc; have ih := Cost_l1 l hb hl i j hij hj a m hm R hR n (q + 1); have hx := hb (rd l ((i + q : Nat) : Int)) (by rw [rd_nat]; simp [List.getD_eq_getElem?_getD, show i + q < l.length by omega]); have hv := hb (rd l (m : Int)) (by rw [rd_nat]; simp [List.getD_eq_getElem?_getD, hm]); simp only [dst] at hc; have e : mx (wrap64 (rd l ((i + q : Nat) : Int) - rd l (m : Int))) (wrap64 (-(wrap64 (rd l ((i + q : Nat) : Int) - rd l (m : Int))))) = (if rd l ((i + q : Nat) : Int) ≤ rd l (m : Int) then rd l (m : Int) - rd l ((i + q : Nat) : Int) else rd l ((i + q : Nat) : Int) - rd l (m : Int)) := by
   rw [w64 (n := rd l ((i + q : Nat) : Int) - rd l (m : Int)) (by omega), w64 (by omega), mx_eq]
   split <;> omega
  simp only [Rf_Cost.l1, show ((i + q : Nat) : Int) ≤ (j : Int) by omega, show (0 : Int) ≤ ((i + q : Nat) : Int) by omega, show ((i + q : Nat) : Int) < (l.length : Int) by omega, show (0 : Int) ≤ (m : Int) by omega, show (m : Int) < (l.length : Int) by omega, if_true, Size_eq, Option.bind_some, e, up (show i + q < 4611686018427387904 by omega)]; generalize hd : (if rd l ((i + q : Nat) : Int) ≤ rd l (m : Int) then rd l (m : Int) - rd l ((i + q : Nat) : Int) else rd l ((i + q : Nat) : Int) - rd l (m : Int)) = d at hc ⊢; have hdd : 0 ≤ d ∧ d ≤ 10000 := by rw [← hd]; split <;> omega
  rw [w64 (n := c + d) (by omega)]; exact ih (c + d) (by omega) (by omega) (by omega) (by omega)
theorem Cost_l0 (l : List Int) (hb : ∀ x ∈ l, 0 ≤ x ∧ x ≤ 10000) (hl : l.length ≤ 24) (i j : Nat) (hij : i ≤ j) (hj : j < l.length) : ∀ (n q : Nat), i + q + n = j →
  Ev (fun k => Rf_Cost.l0 k l (i : Int) (j : Int) (least (fun q => dst (rd l ((i + q : Nat) : Int)) (seg l i (j + 1))) q) ((i + q + 1 : Nat) : Int)) (least (fun q => dst (rd l ((i + q : Nat) : Int)) (seg l i (j + 1))) (j - i))
 | 0, q, h => by
  refine Ev.succ ?_; simp only [Rf_Cost.l0, show ¬ ((i + q + 1 : Nat) : Int) ≤ (j : Int) by omega, if_false]; rw [show j - i = q by omega]; exact Ev.some
 | n + 1, q, h => by
  refine Ev.succ ?_; have ih := Cost_l0 l hb hl i j hij hj n (q + 1) (by omega); have hnn : 0 ≤ least (fun q => dst (rd l ((i + q : Nat) : Int)) (seg l i (j + 1))) q := by
   obtain ⟨p, _, e⟩ := least_mem (fun q => dst (rd l ((i + q : Nat) : Int)) (seg l i (j + 1))) q; rw [e]; exact dst_nonneg _ _
  simp only [Rf_Cost.l0, show ((i + q + 1 : Nat) : Int) ≤ (j : Int) by omega, if_true]; have := Cost_l1 l hb hl i j hij hj (least (fun q => dst (rd l ((i + q : Nat) : Int)) (seg l i (j + 1))) q) (i + q + 1) (by omega) _ (by
   simp only [show ¬ least (fun q => dst (rd l ((i + q : Nat) : Int)) (seg l i (j + 1))) q < 0 by omega, if_false]; exact ih) (j + 1 - i) 0 0 (by omega) (by rw [List.drop_zero]; omega) (by omega) (by omega)
  exact this
theorem Cost_ev (l : List Int) (hb : ∀ x ∈ l, 0 ≤ x ∧ x ≤ 10000) (hl : l.length ≤ 24) (i j : Nat) (hij : i ≤ j) (hj : j < l.length) : Ev (fun k => Rf_Cost.f k l (i : Int) (j : Int)) (co (seg l i (j + 1))) := by
 have hsl := seg_length l i (j + 1) (by omega); have e : co (seg l i (j + 1)) = least (fun q => dst (rd l ((i + q : Nat) : Int)) (seg l i (j + 1))) (j - i) := by
  apply Int.le_antisymm
  ·obtain ⟨p, _, e⟩ := least_mem (fun q => dst (rd l ((i + q : Nat) : Int)) (seg l i (j + 1))) (j - i); rw [e]; exact co_le _ _
  ·rw [co_mid _ (by omega)]; obtain ⟨q, hq, e1⟩ := List.getElem_of_mem (mid_mem (seg l i (j + 1)) (by omega)); rw [← e1, seg_get (by omega) hq]; exact least_le (fun q => dst (rd l ((i + q : Nat) : Int)) (seg l i (j + 1))) (j - i) q (by omega)
 rw [e]; refine Ev.succ (f := fun k => Rf_Cost.f k l (i : Int) (j : Int)) ?_; simp only [Rf_Cost.f, Rf_Cost.l0, show (i : Int) ≤ (j : Int) by omega, if_true]; have := Cost_l1 l hb hl i j hij hj (-1) i (by omega) (least (fun q => dst (rd l ((i + q : Nat) : Int)) (seg l i (j + 1))) (j - i)) (by
  simp only [show (-1 : Int) < 0 by omega, if_true]; exact Cost_l0 l hb hl i j hij hj (j - i) 0 (by omega)) (j + 1 - i) 0 0 (by omega) (by rw [List.drop_zero]; omega) (by omega) (by omega)
 exact this
def pots (l : List Int) (pen : Int) : Nat → List Int
 | 0 => [0]
 | j + 1 => pots l pen j ++ [least (fun i => (pots l pen j).getD i 0 + co (seg l i (j + 1)) + pen) j]
theorem pots_length (l : List Int) (pen : Int) : ∀ j, (pots l pen j).length = j + 1
 | 0 => rfl
 | j + 1 => by simp [pots, pots_length l pen j]
def pot (l : List Int) (pen : Int) (i : Nat) : Int := (pots l pen i).getD i 0
theorem pots_getD (l : List Int) (pen : Int) : ∀ j i, i ≤ j → (pots l pen j).getD i 0 = pot l pen i
  | 0, i, h => by obtain rfl : i = 0 := by omega
                  rfl
  | j + 1, i, h => by
    by_cases e : i = j + 1
    · subst e; rfl
    · have := pots_getD l pen j i (by omega); rw [← this]; simp only [pots]; rw [List.getD_eq_getElem?_getD, List.getElem?_append_left (by rw [pots_length]; omega), ← List.getD_eq_getElem?_getD]
theorem pot_zero (l : List Int) (pen : Int) : pot l pen 0 = 0 := rfl
theorem pot_succ (l : List Int) (pen : Int) (j : Nat) : pot l pen (j + 1) = least (fun i => pot l pen i + co (seg l i (j + 1)) + pen) j := by
 unfold pot; simp only [pots]; rw [List.getD_eq_getElem?_getD, List.getElem?_append_right (by rw [pots_length]; omega), pots_length]; simp only [Nat.sub_self, List.getElem?_cons_zero, Option.getD_some]; exact least_congr (fun i hi => by rw [pots_getD l pen j i hi]; rfl)
theorem pots_succ (l : List Int) (pen : Int) (j : Nat) : pots l pen (j + 1) = pots l pen j ++ [pot l pen (j + 1)] := by
 rw [pot_succ]; simp only [pots]
 congr 2
 exact least_congr (fun i hi => by rw [pots_getD l pen j i hi])
theorem pot_in (l : List Int) (pen : Int) (hp : 0 ≤ pen ∧ pen ≤ 1000007) (hb : ∀ x ∈ l, 0 ≤ x ∧ x ≤ 10000) (hl : l.length ≤ 24) (i : Nat) (hi : i ≤ l.length) : 0 ≤ pot l pen i ∧ pot l pen i ≤ 1240007 := by
  have hc : ∀ a b, b ≤ l.length → 0 ≤ co (seg l a b) ∧ co (seg l a b) ≤ 240000 := by
    intro a b hbl; have h1 := co_in (seg l a b) (fun x hx => hb x (seg_mem hx)); have h2 := seg_length l a b hbl
    omega
  induction i using Nat.strongRecOn with
  | _ i ih =>
    cases i with
    | zero => rw [pot_zero]; omega
    | succ j =>
      rw [pot_succ]
      constructor
      · obtain ⟨p, hp1, e⟩ := least_mem (fun i => pot l pen i + co (seg l i (j + 1)) + pen) j; rw [e]; have := ih p (by omega) (by omega); have := hc p (j + 1) hi
        omega
      · have := least_le (fun i => pot l pen i + co (seg l i (j + 1)) + pen) j 0 (by omega); have h2 := hc 0 (j + 1) hi; have h3 := pot_zero l pen
        omega
theorem co_seg_in {l : List Int} (hb : ∀ x ∈ l, 0 ≤ x ∧ x ≤ 10000) (hl : l.length ≤ 24) (a b : Nat) (hbl : b ≤ l.length) : 0 ≤ co (seg l a b) ∧ co (seg l a b) ≤ 240000 := by
 have h1 := co_in (seg l a b) (fun x hx => hb x (seg_mem hx)); have h2 := seg_length l a b hbl
 omega
theorem rd_pots (l : List Int) (pen : Int) (j i : Nat) (h : i ≤ j) : rd (pots l pen j) (i : Int) = pot l pen i := by
 rw [rd_nat]; exact pots_getD l pen j i h
theorem Pot_l1 (l : List Int) (pen : Int) (hp : 0 ≤ pen ∧ pen ≤ 1000000) (hb : ∀ x ∈ l, 0 ≤ x ∧ x ≤ 10000) (hl : l.length ≤ 24) (j : Nat) (hj : j + 1 ≤ l.length) (R : List Int)
  (hR : Ev (fun k => Rf_Potentials.l0 k l pen (pots l pen (j + 1)) ((j + 2 : Nat) : Int)) R) : ∀ (n i : Nat), i + n = j →
  Ev (fun k => Rf_Potentials.l1 k l pen (pots l pen j) ((j + 1 : Nat) : Int) (least (fun i => pot l pen i + co (seg l i (j + 1)) + pen) i) ((i + 1 : Nat) : Int)) R
 | 0, i, h => by
  refine Ev.succ ?_; simp only [Rf_Potentials.l1, show ¬ ((i + 1 : Nat) : Int) < ((j + 1 : Nat) : Int) by omega, if_false, pots_length, show j + 1 < 17592186044416 by omega, if_true, up (show j + 1 < 4611686018427387904 by omega)]; rw [show i = j by omega, ← pot_succ, ← pots_succ]; exact hR
 | n + 1, i, h => by
  refine Ev.succ ?_; have ih := Pot_l1 l pen hp hb hl j hj R hR n (i + 1) (by omega); have h1 := pot_in l pen (by omega) hb hl (i + 1) (by omega); have h2 := co_seg_in hb hl (i + 1) (j + 1) hj; simp only [Rf_Potentials.l1, show ((i + 1 : Nat) : Int) < ((j + 1 : Nat) : Int) by omega, show (0 : Int) ≤ ((i + 1 : Nat) : Int) by omega, pots_length, if_true, up (show i + 1 < 4611686018427387904 by omega)]; rw [show wrap64 (((j + 1 : Nat) : Int) - 1) = (j : Int) by rw [w64 (by omega)]; omega]; refine Ev.bind (Cost_ev l hb hl (i + 1) j (by omega) (by omega)) ?_; rw [rd_pots l pen j (i + 1) (by omega), w64 (n := pot l pen (i + 1) + co (seg l (i + 1) (j + 1))) (by omega), w64 (by omega)]; have hnn : 0 ≤ least (fun i => pot l pen i + co (seg l i (j + 1)) + pen) i := by
   obtain ⟨p, hp1, e⟩ := least_mem (fun i => pot l pen i + co (seg l i (j + 1)) + pen) i; rw [e]; have := pot_in l pen (by omega) hb hl p (by omega); have := co_seg_in hb hl p (j + 1) hj
   omega
  rw [least] at ih
  by_cases hlt : pot l pen (i + 1) + co (seg l (i + 1) (j + 1)) + pen < least (fun i => pot l pen i + co (seg l i (j + 1)) + pen) i
  ·simp only [show ¬ least (fun i => pot l pen i + co (seg l i (j + 1)) + pen) i < 0 by omega, hlt, if_true, if_false] at ih ⊢; exact ih
  ·simp only [show ¬ least (fun i => pot l pen i + co (seg l i (j + 1)) + pen) i < 0 by omega, hlt, if_false] at ih ⊢; exact ih
theorem Pot_l0 (l : List Int) (pen : Int) (hp : 0 ≤ pen ∧ pen ≤ 1000000) (hb : ∀ x ∈ l, 0 ≤ x ∧ x ≤ 10000) (hl : l.length ≤ 24) : ∀ (n j : Nat), j + n = l.length → Ev (fun k => Rf_Potentials.l0 k l pen (pots l pen j) ((j + 1 : Nat) : Int)) (pots l pen l.length)
 | 0, j, h => by
  refine Ev.succ ?_; simp only [Rf_Potentials.l0, show ¬ ((j + 1 : Nat) : Int) ≤ (l.length : Int) by omega, if_false]; rw [show l.length = j by omega]; exact Ev.some
 | n + 1, j, h => by
  refine Ev.succ ?_; have ih := Pot_l0 l pen hp hb hl n (j + 1) (by omega); simp only [Rf_Potentials.l0, show ((j + 1 : Nat) : Int) ≤ (l.length : Int) by omega, if_true]; have := Pot_l1 l pen hp hb hl j (by omega) _ ih j 0 (by omega); refine Ev.succ (f := fun k => Rf_Potentials.l1 k l pen (pots l pen j) ((j + 1 : Nat) : Int) (-1) 0) ?_; have h2 := co_seg_in hb hl 0 (j + 1) (by omega); simp only [Rf_Potentials.l1, show (0 : Int) < ((j + 1 : Nat) : Int) by omega, pots_length, if_true, show (0 : Int) ≤ 0 by omega, show (-1 : Int) < 0 by omega]; rw [show wrap64 (((j + 1 : Nat) : Int) - 1) = (j : Int) by rw [w64 (by omega)]; omega]; refine Ev.bind (Cost_ev l hb hl 0 j (by omega) (by omega)) ?_; have e0 := rd_pots l pen j 0 (by omega); rw [pot_zero] at e0; rw [show ((0 : Nat) : Int) = 0 from rfl] at e0; rw [e0, w64 (n := 0 + co (seg l 0 (j + 1))) (by omega), w64 (by omega), show wrap64 ((0 : Int) + 1) = ((0 + 1 : Nat) : Int) by rw [w64 (by omega)]; rfl]; exact this
theorem Potentials_ev (l : List Int) (pen : Int) (hp : 0 ≤ pen ∧ pen ≤ 1000000) (hb : ∀ x ∈ l, 0 ≤ x ∧ x ≤ 10000) (hl : l.length ≤ 24) : Ev (fun k => Rf_Potentials.f k l pen) (pots l pen l.length) := by
 have := Pot_l0 l pen hp hb hl l.length 0 (by omega); exact this
def nE (a : Int) : Int := if 0 ≤ a ∧ a ≤ 1000000 then 0 else 2
theorem PenaltyErr_eq (a : Int) : Rf_PenaltyErr.f a = some (nE a) := by
 unfold Rf_PenaltyErr.f nE; simp only [Within_eq, Option.bind_some, decide_eq_true_eq]
 split <;> rfl
theorem ProfileErr_ev (l : List Int) (hl : l.length < 4611686018427387904) : Ev (fun k => Rf_ProfileErr.f k l) (pE l).2 := by
 unfold Rf_ProfileErr.f; exact Ev.bind (RefCheckProfile_ev l hl) Ev.some
def two (a b : Int) : Int := if a = 0 then b else a
theorem fnz_two (a b : Int) : fnz [a, b] = two a b := by
 unfold two fnz fnz
 split
 ·split <;> rename_i h
  ·rw [h]; rfl
  ·rfl
 ·rfl
theorem openDivision_ev (l : List Int) (a : Int) (hl : l.length < 4611686018427387904) : Ev (fun k => L_openDivision.f k l a) (l, two (pE l).2 (nE a)) := by
 unfold L_openDivision.f; refine Ev.bind (open_ev l hl) ?_; simp only [within_eq, unless_eq, Option.bind_some, decide_eq_true_eq]; rw [← fnz_two]; exact Ev.bind (first_ev _ (by simp)) Ev.some
theorem two_ok {l : List Int} {a : Int} (h : two (pE l).2 (nE a) = 0) : (pE l).2 = 0 ∧ (0 < l.length ∧ l.length ≤ 24 ∧ ∀ x ∈ l, 0 ≤ x ∧ x ≤ 10000) ∧ 0 ≤ a ∧ a ≤ 1000000 := by
 have h1 : (pE l).2 = 0 := by unfold two at h; split at h <;> assumption
 refine ⟨h1, pE_ok h1, ?_⟩; unfold two nE at h; rw [if_pos h1] at h
 split at h <;> omega
def cpR (l : List Int) (pen : Int) (g : List Int) : Nat → Nat → Int × Int
 | 0, _ => (pot l pen l.length, 0)
 | n + 1, i => if rd g (i : Int) = pot l pen i then cpR l pen g n (i + 1) else ((i : Int), 17)
theorem Check_l1 (l : List Int) (pen : Int) (hp : 0 ≤ pen ∧ pen ≤ 1000000) (hb : ∀ x ∈ l, 0 ≤ x ∧ x ≤ 10000) (hl : l.length ≤ 24) (g : List Int) (hg : g.length = l.length + 1) (t : Nat) (ht : t + 1 ≤ l.length) (hpre : ∀ i, i < t + 1 → rd g (i : Int) = pot l pen i) (R : Int × Int)
  (hR : Ev (fun k => if rd g ((t + 1 : Nat) : Int) = pot l pen (t + 1) then L_CheckPotentials.l0 k pen g l g (g.length : Int) ((t + 2 : Nat) : Int) else some (((t + 1 : Nat) : Int), 17)) R) : ∀ (n i : Nat), i + n = t →
  Ev (fun k => L_CheckPotentials.l1 k pen g l ((t + 1 : Nat) : Int) (rd g ((t + 1 : Nat) : Int)) (least (fun i => pot l pen i + co (seg l i (t + 1)) + pen) i) g (g.length : Int) ((t + 1 : Nat) : Int) (g.take (t + 1)) ((t + 1 : Nat) : Int) ((i + 1 : Nat) : Int)) R
 | 0, i, h => by
  refine Ev.succ ?_; simp only [L_CheckPotentials.l1, show ¬ ((i + 1 : Nat) : Int) < ((t + 1 : Nat) : Int) by omega, if_false, up (show t + 1 < 4611686018427387904 by omega)]; rw [show i = t by omega, ← pot_succ]; exact hR
 | n + 1, i, h => by
  refine Ev.succ ?_; have ih := Check_l1 l pen hp hb hl g hg t ht hpre R hR n (i + 1) (by omega); have h1 := pot_in l pen (by omega) hb hl (i + 1) (by omega); have h2 := co_seg_in hb hl (i + 1) (t + 1) ht; have htl : (g.take (t + 1)).length = t + 1 := by rw [List.length_take]; omega
  have e1 : rd (g.take (t + 1)) ((i + 1 : Nat) : Int) = pot l pen (i + 1) := by
   rw [← hpre (i + 1) (by omega), rd_nat, rd_nat, List.getD_eq_getElem?_getD, List.getD_eq_getElem?_getD, List.getElem?_take, if_pos (by omega)]
  simp only [L_CheckPotentials.l1, htl, show ((i + 1 : Nat) : Int) < ((t + 1 : Nat) : Int) by omega, show (0 : Int) ≤ ((i + 1 : Nat) : Int) by omega, show ((i + 1 : Nat) : Int) ≤ ((t + 1 : Nat) : Int) by omega, show ((t + 1 : Nat) : Int) ≤ (l.length : Int) by omega, if_true, up (show i + 1 < 4611686018427387904 by omega), Int.toNat_natCast, e1, show ¬ ((i + 1 : Nat) : Int) = 0 by omega, if_false]; refine Ev.bind (cost_ev (seg l (i + 1) (t + 1)) (fun x hx => hb x (seg_mem hx)) (by rw [seg_length _ _ _ ht]; omega)) ?_; rw [w64 (n := pot l pen (i + 1) + co (seg l (i + 1) (t + 1))) (by omega), w64 (by omega)]; rw [least] at ih
  by_cases hlt : pot l pen (i + 1) + co (seg l (i + 1) (t + 1)) + pen < least (fun i => pot l pen i + co (seg l i (t + 1)) + pen) i
  ·simp only [hlt, if_true] at ih ⊢; exact ih
  ·simp only [hlt, if_false] at ih ⊢; exact ih
theorem Check_l0 (l : List Int) (pen : Int) (hp : 0 ≤ pen ∧ pen ≤ 1000000) (hb : ∀ x ∈ l, 0 ≤ x ∧ x ≤ 10000) (hl : l.length ≤ 24) (g : List Int) (hg : g.length = l.length + 1) : ∀ (n t : Nat), t + n = g.length → (∀ i, i < t → rd g (i : Int) = pot l pen i) →
  Ev (fun k => L_CheckPotentials.l0 k pen g l g (g.length : Int) (t : Int)) (cpR l pen g n t)
 | 0, t, h, hpre => by
  refine Ev.succ ?_; simp only [L_CheckPotentials.l0, show ¬ (t : Int) < (g.length : Int) by omega, if_false, show (0 : Int) ≤ (l.length : Int) by omega, show (l.length : Int) < (g.length : Int) by omega, if_true, hpre l.length (by omega)]; exact Ev.some
 | n + 1, t, h, hpre => by
  refine Ev.succ ?_; have ih := Check_l0 l pen hp hb hl g hg n (t + 1) (by omega); have htl : (g.take t).length = t := by rw [List.length_take]; omega
  simp only [L_CheckPotentials.l0, show (t : Int) < (g.length : Int) by omega, show (0 : Int) ≤ (t : Int) by omega, show (t : Int) ≤ (g.length : Int) by omega, if_true, Int.toNat_natCast, htl]; have hR : ∀ Q : Nat → Option (Int × Int), (∀ k, Q k = if rd g (t : Int) = pot l pen t then L_CheckPotentials.l0 k pen g l g (g.length : Int) ((t + 1 : Nat) : Int) else some ((t : Int), 17)) → Ev Q (cpR l pen g (n + 1) t) := by
   intro Q hQ; refine Ev.congr (fun k => (hQ k).symm) ?_; unfold cpR
   by_cases e : rd g (t : Int) = pot l pen t
   ·simp only [e, if_true]; exact ih (fun i hi => by
     by_cases c : i = t
     ·subst c; exact e
     ·exact hpre i (by omega))
   ·simp only [e, if_false]; exact Ev.some
  cases t with
  | zero =>
   refine Ev.succ (f := fun k => L_CheckPotentials.l1 k pen g l ((0 : Nat) : Int) (rd g ((0 : Nat) : Int)) 0 g (g.length : Int) ((0 : Nat) : Int) (g.take 0) ((0 : Nat) : Int) 0) ?_; simp only [L_CheckPotentials.l1, show ¬ (0 : Int) < ((0 : Nat) : Int) by omega, if_false, up (show 0 < 4611686018427387904 by omega)]; exact hR _ (fun k => by rw [pot_zero])
  | succ t =>
   have := Check_l1 l pen hp hb hl g hg t (by omega) hpre _ (hR _ (fun k => rfl)) t 0 (by omega); refine Ev.succ (f := fun k => L_CheckPotentials.l1 k pen g l ((t + 1 : Nat) : Int) (rd g ((t + 1 : Nat) : Int)) 0 g (g.length : Int) ((t + 1 : Nat) : Int) (g.take (t + 1)) ((t + 1 : Nat) : Int) 0) ?_; have h2 := co_seg_in hb hl 0 (t + 1) (by omega); have e1 : rd (g.take (t + 1)) 0 = 0 := by
    have := hpre 0 (by omega); rw [pot_zero] at this; rw [show (0 : Int) = ((0 : Nat) : Int) from rfl, rd_nat] at this ⊢; rw [← this, List.getD_eq_getElem?_getD, List.getD_eq_getElem?_getD, List.getElem?_take, if_pos (by omega)]
   simp only [L_CheckPotentials.l1, htl, show (0 : Int) < ((t + 1 : Nat) : Int) by omega, show (0 : Int) ≤ 0 by omega, show (0 : Int) ≤ ((t + 1 : Nat) : Int) by omega, show ((t + 1 : Nat) : Int) ≤ (l.length : Int) by omega, if_true, Int.toNat_natCast, e1]; refine Ev.bind (cost_ev (seg l 0 (t + 1)) (fun x hx => hb x (seg_mem hx)) (by rw [seg_length _ _ _ (by omega)]; omega)) ?_; rw [w64 (n := 0 + co (seg l 0 (t + 1))) (by omega), w64 (by omega), show wrap64 ((0 : Int) + 1) = ((0 + 1 : Nat) : Int) by rw [w64 (by omega)]; rfl]; exact this
theorem CheckPotentials_ev (l : List Int) (pen : Int) (g : List Int) (hl : l.length < 4611686018427387904) : Ev (fun k => L_CheckPotentials.f k l pen g)
  (if two (pE l).2 (nE pen) = 0 then (if g.length = l.length + 1 then cpR l pen g g.length 0 else (0, 10)) else (0, two (pE l).2 (nE pen))) := by
 unfold L_CheckPotentials.f; refine Ev.bind (openDivision_ev l pen hl) ?_; have e1 : ((g.length : Int) == wrap64 ((l.length : Int) + 1)) = decide (g.length = l.length + 1) := by
  rw [up hl, Bool.eq_iff_iff, beq_iff_eq, decide_eq_true_eq]; omega
 simp only [unless_eq, Option.bind_some, e1, decide_eq_true_eq]; refine Ev.bind (first_ev _ (by simp)) ?_; rw [fnz_two]
 by_cases h : two (pE l).2 (nE pen) = 0
 ·obtain ⟨_, ⟨h1, h2, h3⟩, h4⟩ := two_ok h; rw [h, show ∀ x : Int, two 0 x = x from fun _ => rfl]
  by_cases h5 : g.length = l.length + 1
  ·simp only [h5, if_true]; have := Check_l0 l pen h4 h3 h2 g h5 g.length 0 (by omega) (fun i hi => by omega); rw [h5] at this; exact this
  ·simp only [h5, if_true, if_false, show ¬ (10 : Int) = 0 by omega]; exact Ev.some
 ·rw [show ∀ x : Int, two (two (pE l).2 (nE pen)) x = two (pE l).2 (nE pen) from fun x => by
   generalize two (pE l).2 (nE pen) = d at h; unfold two; rw [if_neg h]]
  simp only [h, if_false]; exact Ev.some
theorem Law_l0 (l : List Int) (pen : Int) (g : List Int) (hl : l.length ≤ 24) (hg : g.length = l.length + 1) : ∀ (n t : Nat), t + n = g.length → Ev (fun k => Lw_CloudPotentials.l0 k l g (cpR l pen g n t).1 (cpR l pen g n t).2 (pots l pen l.length) (t : Int)) true
 | 0, t, h => by
  refine Ev.succ ?_; simp only [Lw_CloudPotentials.l0, show ¬ (t : Int) < (g.length : Int) by omega, if_false, cpR, if_true, show (0 : Int) ≤ (l.length : Int) by omega, pots_length, show (l.length : Int) < ((l.length + 1 : Nat) : Int) by omega, rd_pots l pen l.length l.length (Nat.le_refl _), beq_self_eq_true]; exact Ev.some
 | n + 1, t, h => by
  refine Ev.succ ?_; have ih := Law_l0 l pen g hl hg n (t + 1) (by omega); simp only [Lw_CloudPotentials.l0, show (t : Int) < (g.length : Int) by omega, show (0 : Int) ≤ (t : Int) by omega, if_true, pots_length, show (t : Int) < ((l.length + 1 : Nat) : Int) by omega, rd_pots l pen l.length t (by omega), up (show t < 4611686018427387904 by omega)]
  by_cases e : rd g (t : Int) = pot l pen t
  ·simp only [cpR, e, if_true]; exact ih
  ·simp only [cpR, e, if_false, if_true, beq_self_eq_true]; exact Ev.some
theorem CloudPotentials_ev (l : List Int) (pen : Int) (g : List Int) : Ev (fun k => Lw_CloudPotentials.f k l pen g) true := by
 unfold Lw_CloudPotentials.f; refine Ev.bind awake_ev ?_; simp only [if_true, few_eq, Option.bind_some, decide_eq_true_eq]; have hskip : Ev (fun k => Lw_CloudPotentials.j0 k l pen g true) true := by
  refine Ev.succ ?_; simp only [Lw_CloudPotentials.j0, if_true]; exact Ev.some
 by_cases hf : l.length ≤ 26
 rotate_left
 ·simp only [hf, if_false]; exact hskip
 simp only [hf, if_true]
 by_cases hg : (g.length : Int) > 28
 ·simp only [hg, decide_true]; exact hskip
 simp only [hg, decide_false]; refine Ev.succ ?_; simp only [Lw_CloudPotentials.j0, Bool.false_eq_true, if_false, CopyInts_eq l (by omega), CopyInts_eq g (by omega), Option.bind_some]; refine Ev.bind (CheckPotentials_ev l pen g (by omega)) ?_; refine Ev.bind (ProfileErr_ev l (by omega)) ?_; simp only [PenaltyErr_eq, both_eq, Option.bind_some]; rw [show (if (pE l).2 = 0 then nE pen else (pE l).2) = two (pE l).2 (nE pen) from rfl]
 by_cases h : two (pE l).2 (nE pen) = 0
 ·obtain ⟨_, ⟨h1, h2, h3⟩, h4⟩ := two_ok h; simp only [h, if_true, up (show l.length < 4611686018427387904 by omega)]
  by_cases h5 : g.length = l.length + 1
  ·simp only [h5, if_true]; refine Ev.bind (Potentials_ev l pen h4 h3 h2) ?_; have := Law_l0 l pen g h2 h5 g.length 0 (by omega); rw [h5] at this; exact this
  ·simp only [h5, show ¬ (g.length : Int) = ((l.length + 1 : Nat) : Int) by omega, if_true, if_false, beq_self_eq_true]; exact Ev.some
 ·simp only [h, if_true, if_false, beq_self_eq_true]; exact Ev.some
theorem CloudPotentials_pure (l : List Int) (_ : l.length ≤ maxLen) (_ : ∀ x ∈ l, (Lit.int .i64 x).wf = true) (a : Int) (_ : (Lit.int .i64 a).wf = true) (g : List Int) (_ : g.length ≤ maxLen) (_ : ∀ x ∈ g, (Lit.int .i64 x).wf = true) : ∃ k, Lw_CloudPotentials.f k l a g = some true := (CloudPotentials_ev l a g).ex
end Go.Proofs.Yteiafijbgjgiaaa.P
