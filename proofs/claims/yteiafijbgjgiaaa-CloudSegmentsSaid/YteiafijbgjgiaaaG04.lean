/-
PLAIN LAW: what the walks compute answers as the statement says (no program in sight; Ev: from some number of rounds on).
-/
import Derived.Test.YteiafijbgjgiaaaB10
import Derived.Test.YteiafijbgjgiaaaG03
import Derived.Test.YteiafijbgjgiaaaB09
namespace Go.Proofs.Yteiafijbgjgiaaa.P
open Go Go.RowKit Go.Proofs.Yteiafijbgjgiaaa.A Go.Proofs.YteiafijbgjgiaaaW.PrintWords Go.Proofs.YteiafijbgjgiaaaW.PrintLast Go.Proofs.YteiafijbgjgiaaaW.PrintMore
set_option linter.unusedSimpArgs false
set_option linter.unusedVariables false
def Ev {α : Type} (f : Nat → Option α) (r : α) : Prop := ∃ k, ∀ j, k ≤ j → f j = some r

theorem Ev.some {α : Type} {r : α} : Ev (fun _ => Option.some r) r := ⟨0, fun _ _ => rfl⟩
theorem Ev.bind {α β : Type} {f : Nat → Option α} {g : Nat → α → Option β} {a : α} {b : β} (h : Ev f a) (h2 : Ev (fun k => g k a) b) : Ev (fun k => (f k).bind (g k)) b := by
 obtain ⟨k, hk⟩ := h; obtain ⟨m, hm⟩ := h2; exact ⟨max k m, fun j hj => by show (f j).bind (g j) = _; rw [hk j (by omega)]; exact hm j (by omega)⟩
theorem Ev.succ {α : Type} {f : Nat → Option α} {r : α} (h : Ev (fun k => f (k + 1)) r) : Ev f r := by
 obtain ⟨k, hk⟩ := h; exact ⟨k + 1, fun j hj => by obtain ⟨m, rfl⟩ : ∃ m, j = m + 1 := ⟨j - 1, by omega⟩; exact hk m (by omega)⟩
theorem Ev.congr {α : Type} {f g : Nat → Option α} {r : α} (e : ∀ k, f k = g k) (h : Ev f r) : Ev g r := by
 obtain ⟨k, hk⟩ := h; exact ⟨k, fun j hj => by rw [← e j]; exact hk j hj⟩
theorem Ev.ex {α : Type} {f : Nat → Option α} {r : α} (h : Ev f r) : ∃ k, f k = Option.some r := let ⟨k, hk⟩ := h; ⟨k, hk k (Nat.le_refl _)⟩
theorem Ev.of_mono {α : Type} {f : Nat → Option α} {r : α} (hm : ∀ k, LeO (f k) (f (k + 1))) {k : Nat} (h : f k = Option.some r) : Ev f r := by
  refine ⟨k, fun j hj => ?_⟩
  induction j with
  | zero => obtain rfl : k = 0 := by omega
            exact h
  | succ j ih =>
    by_cases e : k = j + 1
    · subst e; exact h
    · exact hm j r (ih (by omega))
theorem up {i : Nat} (h : i < 4611686018427387904) : wrap64 ((i : Int) + 1) = ((i + 1 : Nat) : Int) := by
 unfold wrap64; omega
theorem w64 {n : Int} (h : -9223372036854775808 ≤ n ∧ n ≤ 9223372036854775807) : wrap64 n = n := by unfold wrap64; omega
theorem rd_nat (l : List Int) (i : Nat) : rd l (i : Int) = l.getD i 0 := by unfold rd; simp
theorem drop_rd {l : List Int} {i : Nat} (h : i < l.length) : l.drop i = rd l (i : Int) :: l.drop (i + 1) := by
 rw [rd_nat, List.drop_eq_getElem_cons h]
 simp [List.getD_eq_getElem?_getD, h]
theorem drop_getD {α : Type} {l : List α} {i : Nat} (z : α) (h : i < l.length) : l.drop i = l.getD i z :: l.drop (i + 1) := by
 rw [List.drop_eq_getElem_cons h]
 simp [List.getD_eq_getElem?_getD, h]

theorem mx_eq (a b : Int) : mx a b = max a b := by unfold mx; split <;> omega
theorem within_eq (a b c : Int) : L_within.f a b c = some (decide (b ≤ a ∧ a ≤ c)) := by
 unfold L_within.f
 by_cases h : b ≤ a <;> simp [h]
theorem Within_eq (a b c : Int) : Bs_Within.f a b c = some (decide (b ≤ a ∧ a ≤ c)) := by
 unfold Bs_Within.f
 by_cases h : b ≤ a <;> simp [h]
theorem unless_eq (b : Bool) (e : Int) : L_unless.f b e = some (if b = true then 0 else e) := by
 unfold L_unless.f
 cases b <;> simp
theorem Size_eq (a : Int) : Bs_Size.f a = some (mx a (wrap64 (-a))) := rfl

def fnz : List Int → Int
 | [] => 0
 | x :: r => if x = 0 then fnz r else x

theorem first_l0 (l : List Int) (hl : l.length < 4611686018427387904) : ∀ (n i : Nat), i + n = l.length → Ev (fun k => L_first.l0 k l (l.length : Int) (i : Int)) (fnz (l.drop i))
 | 0, i, h => by
  refine Ev.succ (f := fun k => L_first.l0 k l (l.length : Int) (i : Int)) ?_; have h1 : ¬ (i : Int) < (l.length : Int) := by omega
  simp only [L_first.l0, h1, if_false]; rw [show l.drop i = [] from List.drop_eq_nil_of_le (by omega)]; exact Ev.some
 | n + 1, i, h => by
  refine Ev.succ (f := fun k => L_first.l0 k l (l.length : Int) (i : Int)) ?_; have h1 : (i : Int) < (l.length : Int) := by omega
  have h2 : (0 : Int) ≤ (i : Int) := by omega
  simp only [L_first.l0, h1, h2, if_true, up (show i < 4611686018427387904 by omega)]; rw [drop_rd (show i < l.length by omega)]; unfold fnz
  by_cases e : rd l (i : Int) = 0
  ·simp only [e, if_true]; exact first_l0 l hl n (i + 1) (by omega)
  ·simp only [e, if_false]; exact Ev.some
theorem first_ev (l : List Int) (hl : l.length < 4611686018427387904) : Ev (fun k => L_first.f k l) (fnz l) := first_l0 l hl l.length 0 (by omega)

theorem CopyInts_eq (l : List Int) (h : l.length < 4611686018427) : Bs_CopyInts.f l = some l := by
 unfold Bs_CopyInts.f; simp only [Option.bind_some, List.length_nil, List.nil_append]; rw [if_pos (by omega)]
theorem both_eq (a b : Int) : Lw_both.f a b = some (if a = 0 then b else a) := by
 unfold Lw_both.f; split <;> rfl
theorem few_eq (l : List Int) : Lw_few.f l = some (decide (l.length ≤ 26)) := by
 unfold Lw_few.f; congr 2; apply propext; omega
def chk {α : Type} (p : α → Int) : List α → Nat → Int × Int
 | [], _ => (0, 0)
 | x :: r, i => if p x = 0 then chk p r (i + 1) else ((i : Int), p x)
theorem chk_all {α : Type} {p : α → Int} : ∀ {l : List α} {i : Nat}, (chk p l i).2 = 0 → ∀ x ∈ l, p x = 0
 | [], i, _ => by simp
 | y :: r, i, h => by
  unfold chk at h
  split at h <;> rename_i e
  ·intro x hx
   rcases List.mem_cons.mp hx with rfl | hx
   ·exact e
   ·exact chk_all h x hx
  ·exact absurd h e
theorem chk_loop {α : Type} (z : α) (p : α → Int) (l : List α) (hl : l.length < 4611686018427387904) (F : Nat → Int → Option (Int × Int))
  (h0 : ∀ k i, ¬ i < (l.length : Int) → F (k + 1) i = some (0, 0))
  (h1 : ∀ k (i : Nat), i < l.length → F (k + 1) (i : Int) = if p (l.getD i z) = 0 then F k (wrap64 ((i : Int) + 1)) else some ((i : Int), p (l.getD i z))) :
  ∀ (n i : Nat), i + n = l.length → Ev (fun k => F k (i : Int)) (chk p (l.drop i) i)
 | 0, i, h => by
  refine Ev.succ (f := fun k => F k (i : Int)) ?_; rw [show l.drop i = [] from List.drop_eq_nil_of_le (by omega)]; exact Ev.congr (fun k => (h0 k i (by omega)).symm) Ev.some
 | n + 1, i, h => by
  refine Ev.succ (f := fun k => F k (i : Int)) ?_; refine Ev.congr (fun k => (h1 k i (by omega)).symm) ?_; rw [drop_getD z (show i < l.length by omega)]; unfold chk
  by_cases e : p (l.getD i z) = 0
  ·simp only [e, if_true, up (show i < 4611686018427387904 by omega)]; exact chk_loop z p l hl F h0 h1 n (i + 1) (by omega)
  ·simp only [e, if_false]; exact Ev.some
theorem isSignal_eq (a : Int) : L_isSignal.f a = some (decide (0 ≤ a ∧ a ≤ 10000)) := by
 unfold L_isSignal.f; rw [within_eq]; rfl
def sE (x : Int) : Int := if 0 ≤ x ∧ x ≤ 10000 then 0 else 2
def pE (l : List Int) : Int × Int := if l.length = 0 then (0, 10) else if 24 < l.length then (0, 8) else chk sE l 0
theorem CheckProfile_1_eq (a : Int) : L_CheckProfile_1.f a = some (sE a) := by
 unfold L_CheckProfile_1.f sE; simp only [isSignal_eq, unless_eq, Option.bind_some, decide_eq_true_eq]
theorem each_profile_ev (l : List Int) (hl : l.length < 4611686018427387904) : Ev (fun k => L_each_int_CheckProfile_1.f k l) (chk sE l 0) := by
 refine chk_loop 0 sE l hl (fun k i => L_each_int_CheckProfile_1.l0 k l (l.length : Int) i) (fun k i h => ?_) (fun k i h => ?_) l.length 0 (by omega)
 ·simp only [L_each_int_CheckProfile_1.l0, h, if_false]
 ·simp only [L_each_int_CheckProfile_1.l0, show (i : Int) < (l.length : Int) by omega, show (0 : Int) ≤ (i : Int) by omega, if_true, CheckProfile_1_eq, Option.bind_some, rd_nat]
theorem CheckProfile_ev (l : List Int) (hl : l.length < 4611686018427387904) : Ev (fun k => L_CheckProfile.f k l) (pE l) := by
 unfold L_CheckProfile.f; simp only [unless_eq, Option.bind_some]; refine Ev.bind (first_ev _ (by simp)) ?_; unfold pE
 by_cases h1 : l.length = 0
 ·simp only [h1, show ¬ ((0 : Nat) : Int) > 0 by omega, decide_false, fnz]; exact Ev.some
 ·by_cases h2 : 24 < l.length
  ·simp only [h1, h2, show (l.length : Int) > 0 by omega, show ¬ (l.length : Int) ≤ 24 by omega, decide_false, decide_true, fnz, if_true, if_false]; exact Ev.some
  ·simp only [h1, h2, show (l.length : Int) > 0 by omega, show (l.length : Int) ≤ 24 by omega, decide_true, fnz, if_true, if_false]; exact Ev.bind (each_profile_ev l hl) Ev.some
theorem RefCheckProfile_ev (l : List Int) (hl : l.length < 4611686018427387904) : Ev (fun k => Rf_CheckProfile.f k l) (pE l) := by
 unfold Rf_CheckProfile.f pE
 by_cases h1 : l.length = 0
 ·simp only [h1]; exact Ev.some
 ·by_cases h2 : 24 < l.length
  ·simp only [h1, h2, show ¬ (l.length : Int) = 0 by omega, show (l.length : Int) > 24 by omega, if_true, if_false]; exact Ev.some
  ·simp only [h1, h2, show ¬ (l.length : Int) = 0 by omega, show ¬ (l.length : Int) > 24 by omega, if_false]; refine chk_loop 0 sE l hl (fun k i => Rf_CheckProfile.l0 k l i) (fun k i h => ?_) (fun k i h => ?_) l.length 0 (by omega)
   ·simp only [Rf_CheckProfile.l0, h, if_false]
   ·simp only [Rf_CheckProfile.l0, show (i : Int) < (l.length : Int) by omega, show (0 : Int) ≤ (i : Int) by omega, if_true, Within_eq, Option.bind_some, rd_nat, sE, decide_eq_true_eq]
    split <;> simp
theorem open_ev (l : List Int) (hl : l.length < 4611686018427387904) : Ev (fun k => L_open.f k l) (l, (pE l).2) := by
 unfold L_open.f; exact Ev.bind (CheckProfile_ev l hl) Ev.some
theorem pE_ok {l : List Int} (h : (pE l).2 = 0) : 0 < l.length ∧ l.length ≤ 24 ∧ ∀ x ∈ l, 0 ≤ x ∧ x ≤ 10000 := by
 unfold pE at h
 split at h
 ·exact absurd h (by simp)
 split at h
 ·exact absurd h (by simp)
 refine ⟨by omega, by omega, fun x hx => ?_⟩; have := chk_all h x hx; unfold sE at this
 split at this <;> omega
theorem awake_ev : Ev (fun k => Lw_awake.f k) true :=
 Ev.of_mono (k := 1500) (fun k => Lw_awake.mono k) (by kernel_rfl)
def hE (x : Int) : Int := if 0 ≤ x ∧ x ≤ 20000 then 0 else 2
def mid (l : List Int) : Int := (isort l).getD ((l.length - 1) / 2) 0
theorem isort_length (l : List Int) : (isort l).length = l.length := (isort_perm l).length_eq
def pcs (n : Nat) : List Int → Nat → Int
 | [], _ => 0
 | x :: r, i => (if 2 * i + 1 < n then -x else if n < 2 * i + 1 then x else 0) + pcs n r (i + 1)
def co (g : List Int) : Int := pcs g.length (isort g) 0
def dst (v : Int) : List Int → Int
 | [] => 0
 | x :: r => (if x ≤ v then v - x else x - v) + dst v r
theorem dst_perm (v : Int) {a b : List Int} (h : a.Perm b) : dst v a = dst v b := by
  induction h with
  | nil => rfl
  | cons u _ ih => simp only [dst, ih]
  | swap x y r => simp only [dst]; omega
  | trans _ _ i1 i2 => rw [i1, i2]
theorem dst_nonneg (v : Int) : ∀ l : List Int, 0 ≤ dst v l
 | [] => by simp [dst]
 | x :: r => by have := dst_nonneg v r; simp only [dst]; split <;> omega
theorem dst_le (v : Int) (hv : 0 ≤ v ∧ v ≤ 10000) : ∀ {l : List Int}, (∀ x ∈ l, 0 ≤ x ∧ x ≤ 10000) → dst v l ≤ 10000 * (l.length : Int)
 | [], _ => by simp [dst]
 | x :: r, h => by
  have := dst_le v hv (l := r) (fun y hy => h y (List.mem_cons_of_mem _ hy)); have h2 := h x List.mem_cons_self; simp only [dst, List.length_cons]; split <;> omega
theorem pcs_le (n : Nat) (v : Int) : ∀ (r : List Int) (i : Nat), i + r.length = n → pcs n r i ≤ dst v r + v * (min i (n - i) : Nat)
 | [], i, h => by
  simp only [List.length_nil] at h; rw [show min i (n - i) = 0 by omega]; simp [pcs, dst]
 | x :: r, i, h => by
  simp only [List.length_cons] at h; have ih := pcs_le n v r (i + 1) (by omega); simp only [pcs, dst]
  by_cases h1 : 2 * i + 1 < n
  ·rw [if_pos h1]; rw [show min (i + 1) (n - (i + 1)) = i + 1 by omega] at ih; rw [show min i (n - i) = i by omega]; have e : v * ((i + 1 : Nat) : Int) = v * (i : Int) + v := by rw [Int.natCast_add, Int.mul_add]; simp
   split <;> omega
  ·by_cases h2 : n < 2 * i + 1
   ·rw [if_neg h1, if_pos h2]; rw [show min (i + 1) (n - (i + 1)) = n - i - 1 by omega] at ih; rw [show min i (n - i) = n - i - 1 + 1 by omega]; have e : v * ((n - i - 1 + 1 : Nat) : Int) = v * ((n - i - 1 : Nat) : Int) + v := by rw [Int.natCast_add, Int.mul_add]; simp
    split <;> omega
   ·rw [if_neg h1, if_neg h2]; rw [show min (i + 1) (n - (i + 1)) = i by omega] at ih; rw [show min i (n - i) = i by omega]
    split <;> omega
theorem pcs_eq (n : Nat) (v : Int) : ∀ (r : List Int) (i : Nat), i + r.length = n → (∀ q, (hq : q < r.length) → (2 * (i + q) + 1 < n → r[q] ≤ v) ∧ (n < 2 * (i + q) + 1 → v ≤ r[q]) ∧ (2 * (i + q) + 1 = n → r[q] = v)) → pcs n r i = dst v r + v * (min i (n - i) : Nat)
 | [], i, h, _ => by
  simp only [List.length_nil] at h; rw [show min i (n - i) = 0 by omega]; simp [pcs, dst]
 | x :: r, i, h, hb => by
  simp only [List.length_cons] at h; have ih := pcs_eq n v r (i + 1) (by omega) (fun q hq => by have := hb (q + 1) (by simpa using hq); simp only [List.getElem_cons_succ] at this; rw [show i + 1 + q = i + (q + 1) by omega]; exact this); obtain ⟨b1, b2, b3⟩ := hb 0 (by simp); simp only [List.getElem_cons_zero, Nat.add_zero] at b1 b2 b3; simp only [pcs, dst]
  by_cases h1 : 2 * i + 1 < n
  ·rw [if_pos h1]; rw [show min (i + 1) (n - (i + 1)) = i + 1 by omega] at ih; rw [show min i (n - i) = i by omega]; have e : v * ((i + 1 : Nat) : Int) = v * (i : Int) + v := by rw [Int.natCast_add, Int.mul_add]; simp
   have := b1 h1; rw [if_pos this]; omega
  ·by_cases h2 : n < 2 * i + 1
   ·rw [if_neg h1, if_pos h2]; rw [show min (i + 1) (n - (i + 1)) = n - i - 1 by omega] at ih; rw [show min i (n - i) = n - i - 1 + 1 by omega]; have e : v * ((n - i - 1 + 1 : Nat) : Int) = v * ((n - i - 1 : Nat) : Int) + v := by rw [Int.natCast_add, Int.mul_add]; simp
    have := b2 h2
    split <;> omega
   ·rw [if_neg h1, if_neg h2]; rw [show min (i + 1) (n - (i + 1)) = i by omega] at ih; rw [show min i (n - i) = i by omega]; have := b3 (by omega); subst this
    simp; omega
theorem co_le (g : List Int) (v : Int) : co g ≤ dst v g := by
 have := pcs_le g.length v (isort g) 0 (by rw [isort_length]; omega); rw [dst_perm v (isort_perm g)] at this; unfold co
 simpa using this
theorem co_mid (g : List Int) (h : 0 < g.length) : co g = dst (mid g) g := by
 have hi : (g.length - 1) / 2 < (isort g).length := by rw [isort_length]; omega
 have hs := isort_sorted g; have hsl := isort_length g; have key : ∀ p q, (hp : p < (isort g).length) → (hq : q < (isort g).length) → p ≤ q → (isort g)[p] ≤ (isort g)[q] := by
  intro p q hp hq hpq
  rcases Nat.lt_or_ge p q with h1 | h1
  ·exact List.pairwise_iff_getElem.mp hs p q hp hq h1
  ·obtain rfl : p = q := by omega
   exact Int.le_refl _
 have em : mid g = (isort g)[(g.length - 1) / 2] := by unfold mid; simp [List.getD_eq_getElem?_getD, hi]
 have := pcs_eq g.length (mid g) (isort g) 0 (by rw [isort_length]; omega) (fun q hq => by
  rw [em]; refine ⟨fun h1 => key _ _ hq hi (by omega), fun h1 => key _ _ hi hq (by omega), fun h1 => ?_⟩
  congr 1; omega)
 rw [dst_perm _ (isort_perm g)] at this; unfold co
 simpa using this
theorem mid_mem (g : List Int) (h : 0 < g.length) : mid g ∈ g := by
 have hi : (g.length - 1) / 2 < (isort g).length := by rw [isort_length]; omega
 have : mid g ∈ isort g := by unfold mid; simp [List.getD_eq_getElem?_getD, hi]
 exact (isort_perm g).mem_iff.mp this
theorem co_in (g : List Int) (hb : ∀ x ∈ g, 0 ≤ x ∧ x ≤ 10000) : 0 ≤ co g ∧ co g ≤ 10000 * (g.length : Int) := by
 by_cases h : g.length = 0
 ·rw [List.length_eq_zero_iff] at h; subst h; simp [co, pcs, isort]
 ·rw [co_mid g (by omega)]; exact ⟨dst_nonneg _ _, dst_le _ (hb _ (mid_mem g (by omega))) hb⟩
theorem cost_l0 (S : List Int) (hb : ∀ x ∈ S, 0 ≤ x ∧ x ≤ 10000) (hl : S.length ≤ 24) : ∀ (n i : Nat) (a : Int), i + n = S.length → -(10000 * (i : Int)) ≤ a → a ≤ 10000 * (i : Int) → Ev (fun k => L_profile_cost.l0 k S a (S.length : Int) (i : Int)) (a + pcs S.length (S.drop i) i)
 | 0, i, a, h, _, _ => by
  refine Ev.succ ?_; simp only [L_profile_cost.l0, show ¬ (i : Int) < (S.length : Int) by omega, if_false]; rw [show S.drop i = [] from List.drop_eq_nil_of_le (by omega)]; simp only [pcs, Int.add_zero]; exact Ev.some
 | n + 1, i, a, h, ha1, ha2 => by
  refine Ev.succ ?_; have hi : i < S.length := by omega
  have hm : rd S (i : Int) ∈ S := by rw [rd_nat]; simp [List.getD_eq_getElem?_getD, hi]
  have hx := hb _ hm; rw [drop_rd hi]; simp only [L_profile_cost.l0, show (i : Int) < (S.length : Int) by omega, show (0 : Int) ≤ (i : Int) by omega, if_true, up (show i < 4611686018427387904 by omega)]; rw [w64 (n := 2 * (i : Int)) (by omega), w64 (n := (S.length : Int) - 1) (by omega), w64 (n := a - rd S (i : Int)) (by omega), w64 (n := a + rd S (i : Int)) (by omega)]; simp only [pcs]
  by_cases h1 : 2 * i + 1 < S.length
  ·simp only [h1, show 2 * (i : Int) < (S.length : Int) - 1 by omega, if_true]; rw [show a + (-rd S (i : Int) + pcs S.length (S.drop (i + 1)) (i + 1)) = a - rd S (i : Int) + pcs S.length (S.drop (i + 1)) (i + 1) by omega]; exact cost_l0 S hb hl n (i + 1) _ (by omega) (by omega) (by omega)
  ·by_cases h2 : S.length < 2 * i + 1
   ·simp only [h1, h2, show ¬ 2 * (i : Int) < (S.length : Int) - 1 by omega, show 2 * (i : Int) > (S.length : Int) - 1 by omega, if_true, if_false]; rw [show a + (rd S (i : Int) + pcs S.length (S.drop (i + 1)) (i + 1)) = a + rd S (i : Int) + pcs S.length (S.drop (i + 1)) (i + 1) by omega]; exact cost_l0 S hb hl n (i + 1) _ (by omega) (by omega) (by omega)
   ·simp only [h1, h2, show ¬ 2 * (i : Int) < (S.length : Int) - 1 by omega, show ¬ 2 * (i : Int) > (S.length : Int) - 1 by omega, if_false, Int.zero_add]; exact cost_l0 S hb hl n (i + 1) _ (by omega) (by omega) (by omega)
theorem cost_ev (g : List Int) (hb : ∀ x ∈ g, 0 ≤ x ∧ x ≤ 10000) (hl : g.length ≤ 24) : Ev (fun k => L_profile_cost.f k g) (co g) := by
 unfold L_profile_cost.f L_sorted_prof.f slices_Sort_int_int.f; simp only [show g.length < 17592186044416 by omega, show g.length < 4611686018427387904 by omega, if_true, Option.bind_some]; have := cost_l0 (isort g) (fun x hx => hb x ((isort_perm g).mem_iff.mp hx)) (by rw [isort_length]; exact hl) (isort g).length 0 0 (by omega) (by omega) (by omega); rw [Int.zero_add, List.drop_zero] at this; unfold co; rw [isort_length] at this ⊢; exact this
def least (f : Nat → Int) : Nat → Int
 | 0 => f 0
 | n + 1 => if f (n + 1) < least f n then f (n + 1) else least f n
theorem least_le (f : Nat → Int) : ∀ (n i : Nat), i ≤ n → least f n ≤ f i
  | 0, i, h => by obtain rfl : i = 0 := by omega
                  exact Int.le_refl _
  | n + 1, i, h => by
    unfold least
    by_cases e : i = n + 1
    · subst e; split <;> omega
    · have := least_le f n i (by omega)
      split <;> omega
theorem least_mem (f : Nat → Int) : ∀ n, ∃ i, i ≤ n ∧ least f n = f i
 | 0 => ⟨0, by omega, rfl⟩
 | n + 1 => by
  unfold least; obtain ⟨i, h1, h2⟩ := least_mem f n
  split
  ·exact ⟨n + 1, by omega, rfl⟩
  ·exact ⟨i, by omega, h2⟩
theorem least_congr {f g : Nat → Int} : ∀ {n : Nat}, (∀ i, i ≤ n → f i = g i) → least f n = least g n
 | 0, h => h 0 (by omega)
 | n + 1, h => by unfold least; rw [h (n + 1) (by omega), least_congr (n := n) (fun i hi => h i (by omega))]
def seg (l : List Int) (i j : Nat) : List Int := (l.take j).drop i
theorem seg_length (l : List Int) (i j : Nat) (h : j ≤ l.length) : (seg l i j).length = j - i := by unfold seg; simp; omega
theorem seg_mem {l : List Int} {i j : Nat} {x : Int} (h : x ∈ seg l i j) : x ∈ l := List.mem_of_mem_take (List.mem_of_mem_drop h)
theorem seg_get {l : List Int} {i j q : Nat} (h : j ≤ l.length) (hq : q < (seg l i j).length) : (seg l i j)[q] = rd l ((i + q : Nat) : Int) := by
 have hq2 := hq; rw [seg_length l i j h] at hq2; rw [rd_nat]; have e : (seg l i j)[q]? = l[i + q]? := by
  unfold seg; rw [List.getElem?_drop, List.getElem?_take, if_pos (by omega)]
 rw [List.getElem?_eq_getElem hq] at e; rw [List.getD_eq_getElem?_getD, ← e]; rfl
theorem Cost_l1 (l : List Int) (hb : ∀ x ∈ l, 0 ≤ x ∧ x ≤ 10000) (hl : l.length ≤ 24) (i j : Nat) (hij : i ≤ j) (hj : j < l.length) (a : Int) (m : Nat) (hm : m < l.length) (R : Int)
  (hR : Ev (fun k => Rf_Cost.l0 k l (i : Int) (j : Int) (if a < 0 then dst (rd l (m : Int)) (seg l i (j + 1)) else if dst (rd l (m : Int)) (seg l i (j + 1)) < a then dst (rd l (m : Int)) (seg l i (j + 1)) else a) ((m + 1 : Nat) : Int)) R) :
  ∀ (n q : Nat) (c : Int), i + q + n = j + 1 → c + dst (rd l (m : Int)) ((seg l i (j + 1)).drop q) = dst (rd l (m : Int)) (seg l i (j + 1)) → 0 ≤ c → c ≤ 10000 * (q : Int) → Ev (fun k => Rf_Cost.l1 k l (i : Int) (j : Int) a (m : Int) c ((i + q : Nat) : Int)) R
 | 0, q, c, h, hc, _, _ => by
  refine Ev.succ ?_; have hsl := seg_length l i (j + 1) (by omega); rw [show (seg l i (j + 1)).drop q = [] from List.drop_eq_nil_of_le (by omega)] at hc; simp only [dst, Int.add_zero] at hc; rw [← hc] at hR; simp only [Rf_Cost.l1, show ¬ ((i + q : Nat) : Int) ≤ (j : Int) by omega, if_false, up (show m < 4611686018427387904 by omega)]
  by_cases h1 : a < 0
  ·simp only [h1, if_true] at hR ⊢; exact hR
  ·by_cases h2 : c < a
   ·simp only [h1, h2, if_true, if_false] at hR ⊢; exact hR
   ·simp only [h1, h2, if_false] at hR ⊢; exact hR
 | n + 1, q, c, h, hc, h0, h1 => by
  refine Ev.succ ?_; have hsl := seg_length l i (j + 1) (by omega); have hq : q < (seg l i (j + 1)).length := by omega
  rw [List.drop_eq_getElem_cons hq, seg_get (by omega) hq] at hc; have ih := Cost_l1 l hb hl i j hij hj a m hm R hR n (q + 1); have hx := hb (rd l ((i + q : Nat) : Int)) (by rw [rd_nat]; simp [List.getD_eq_getElem?_getD, show i + q < l.length by omega]); have hv := hb (rd l (m : Int)) (by rw [rd_nat]; simp [List.getD_eq_getElem?_getD, hm]); simp only [dst] at hc; have e : mx (wrap64 (rd l ((i + q : Nat) : Int) - rd l (m : Int))) (wrap64 (-(wrap64 (rd l ((i + q : Nat) : Int) - rd l (m : Int))))) = (if rd l ((i + q : Nat) : Int) ≤ rd l (m : Int) then rd l (m : Int) - rd l ((i + q : Nat) : Int) else rd l ((i + q : Nat) : Int) - rd l (m : Int)) := by
   rw [w64 (n := rd l ((i + q : Nat) : Int) - rd l (m : Int)) (by omega), w64 (by omega), mx_eq]
   split <;> omega
  simp only [Rf_Cost.l1, show ((i + q : Nat) : Int) ≤ (j : Int) by omega, show (0 : Int) ≤ ((i + q : Nat) : Int) by omega, show ((i + q : Nat) : Int) < (l.length : Int) by omega, show (0 : Int) ≤ (m : Int) by omega, show (m : Int) < (l.length : Int) by omega, if_true, Size_eq, Option.bind_some, e, up (show i + q < 4611686018427387904 by omega)]; generalize hd : (if rd l ((i + q : Nat) : Int) ≤ rd l (m : Int) then rd l (m : Int) - rd l ((i + q : Nat) : Int) else rd l ((i + q : Nat) : Int) - rd l (m : Int)) = d at hc ⊢; have hdd : 0 ≤ d ∧ d ≤ 10000 := by rw [← hd]; split <;> omega
  rw [w64 (n := c + d) (by omega)]; exact ih (c + d) (by omega) (by omega) (by omega) (by omega)
theorem Cost_l0 (l : List Int) (hb : ∀ x ∈ l, 0 ≤ x ∧ x ≤ 10000) (hl : l.length ≤ 24) (i j : Nat) (hij : i ≤ j) (hj : j < l.length) : ∀ (n q : Nat), i + q + n = j →
  Ev (fun k => Rf_Cost.l0 k l (i : Int) (j : Int) (least (fun q => dst (rd l ((i + q : Nat) : Int)) (seg l i (j + 1))) q) ((i + q + 1 : Nat) : Int)) (least (fun q => dst (rd l ((i + q : Nat) : Int)) (seg l i (j + 1))) (j - i))
 | 0, q, h => by
  refine Ev.succ ?_; simp only [Rf_Cost.l0, show ¬ ((i + q + 1 : Nat) : Int) ≤ (j : Int) by omega, if_false]; rw [show j - i = q by omega]; exact Ev.some
 | n + 1, q, h => by
  refine Ev.succ ?_; have ih := Cost_l0 l hb hl i j hij hj n (q + 1) (by omega); have hnn : 0 ≤ least (fun q => dst (rd l ((i + q : Nat) : Int)) (seg l i (j + 1))) q := by
   obtain ⟨p, _, e⟩ := least_mem (fun q => dst (rd l ((i + q : Nat) : Int)) (seg l i (j + 1))) q; rw [e]; exact dst_nonneg _ _
  simp only [Rf_Cost.l0, show ((i + q + 1 : Nat) : Int) ≤ (j : Int) by omega, if_true]; have := Cost_l1 l hb hl i j hij hj (least (fun q => dst (rd l ((i + q : Nat) : Int)) (seg l i (j + 1))) q) (i + q + 1) (by omega) _ (by
   simp only [show ¬ least (fun q => dst (rd l ((i + q : Nat) : Int)) (seg l i (j + 1))) q < 0 by omega, if_false]; exact ih) (j + 1 - i) 0 0 (by omega) (by rw [List.drop_zero]; omega) (by omega) (by omega)
  exact this
theorem Cost_ev (l : List Int) (hb : ∀ x ∈ l, 0 ≤ x ∧ x ≤ 10000) (hl : l.length ≤ 24) (i j : Nat) (hij : i ≤ j) (hj : j < l.length) : Ev (fun k => Rf_Cost.f k l (i : Int) (j : Int)) (co (seg l i (j + 1))) := by
 have hsl := seg_length l i (j + 1) (by omega); have e : co (seg l i (j + 1)) = least (fun q => dst (rd l ((i + q : Nat) : Int)) (seg l i (j + 1))) (j - i) := by
  apply Int.le_antisymm
  ·obtain ⟨p, _, e⟩ := least_mem (fun q => dst (rd l ((i + q : Nat) : Int)) (seg l i (j + 1))) (j - i); rw [e]; exact co_le _ _
  ·rw [co_mid _ (by omega)]; obtain ⟨q, hq, e1⟩ := List.getElem_of_mem (mid_mem (seg l i (j + 1)) (by omega)); rw [← e1, seg_get (by omega) hq]; exact least_le (fun q => dst (rd l ((i + q : Nat) : Int)) (seg l i (j + 1))) (j - i) q (by omega)
 rw [e]; refine Ev.succ (f := fun k => Rf_Cost.f k l (i : Int) (j : Int)) ?_; simp only [Rf_Cost.f, Rf_Cost.l0, show (i : Int) ≤ (j : Int) by omega, if_true]; have := Cost_l1 l hb hl i j hij hj (-1) i (by omega) (least (fun q => dst (rd l ((i + q : Nat) : Int)) (seg l i (j + 1))) (j - i)) (by
  simp only [show (-1 : Int) < 0 by omega, if_true]; exact Cost_l0 l hb hl i j hij hj (j - i) 0 (by omega)) (j + 1 - i) 0 0 (by omega) (by rw [List.drop_zero]; omega) (by omega) (by omega)
 exact this
def pots (l : List Int) (pen : Int) : Nat → List Int
 | 0 => [0]
 | j + 1 => pots l pen j ++ [least (fun i => (pots l pen j).getD i 0 + co (seg l i (j + 1)) + pen) j]
theorem pots_length (l : List Int) (pen : Int) : ∀ j, (pots l pen j).length = j + 1
 | 0 => rfl
 | j + 1 => by simp [pots, pots_length l pen j]
def pot (l : List Int) (pen : Int) (i : Nat) : Int := (pots l pen i).getD i 0
theorem pots_getD (l : List Int) (pen : Int) : ∀ j i, i ≤ j → (pots l pen j).getD i 0 = pot l pen i
  | 0, i, h => by obtain rfl : i = 0 := by omega
                  rfl
  | j + 1, i, h => by
    by_cases e : i = j + 1
    · subst e; rfl
    · have := pots_getD l pen j i (by omega); rw [← this]; simp only [pots]; rw [List.getD_eq_getElem?_getD, List.getElem?_append_left (by rw [pots_length]; omega), ← List.getD_eq_getElem?_getD]
theorem pot_zero (l : List Int) (pen : Int) : pot l pen 0 = 0 := rfl
theorem pot_succ (l : List Int) (pen : Int) (j : Nat) : pot l pen (j + 1) = least (fun i => pot l pen i + co (seg l i (j + 1)) + pen) j := by
 unfold pot; simp only [pots]; rw [List.getD_eq_getElem?_getD, List.getElem?_append_right (by rw [pots_length]; omega), pots_length]; simp only [Nat.sub_self, List.getElem?_cons_zero, Option.getD_some]; exact least_congr (fun i hi => by rw [pots_getD l pen j i hi]; rfl)
theorem pots_succ (l : List Int) (pen : Int) (j : Nat) : pots l pen (j + 1) = pots l pen j ++ [pot l pen (j + 1)] := by
 rw [pot_succ]; simp only [pots]
 congr 2
 exact least_congr (fun i hi => by rw [pots_getD l pen j i hi])
theorem pot_in (l : List Int) (pen : Int) (hp : 0 ≤ pen ∧ pen ≤ 1000007) (hb : ∀ x ∈ l, 0 ≤ x ∧ x ≤ 10000) (hl : l.length ≤ 24) (i : Nat) (hi : i ≤ l.length) : 0 ≤ pot l pen i ∧ pot l pen i ≤ 1240007 := by
  have hc : ∀ a b, b ≤ l.length → 0 ≤ co (seg l a b) ∧ co (seg l a b) ≤ 240000 := by
    intro a b hbl; have h1 := co_in (seg l a b) (fun x hx => hb x (seg_mem hx)); have h2 := seg_length l a b hbl
    omega
  induction i using Nat.strongRecOn with
  | _ i ih =>
    cases i with
    | zero => rw [pot_zero]; omega
    | succ j =>
      rw [pot_succ]
      constructor
      · obtain ⟨p, hp1, e⟩ := least_mem (fun i => pot l pen i + co (seg l i (j + 1)) + pen) j; rw [e]; have := ih p (by omega) (by omega); have := hc p (j + 1) hi
        omega
      · have := least_le (fun i => pot l pen i + co (seg l i (j + 1)) + pen) j 0 (by omega); have h2 := hc 0 (j + 1) hi; have h3 := pot_zero l pen
        omega
theorem co_seg_in {l : List Int} (hb : ∀ x ∈ l, 0 ≤ x ∧ x ≤ 10000) (hl : l.length ≤ 24) (a b : Nat) (hbl : b ≤ l.length) : 0 ≤ co (seg l a b) ∧ co (seg l a b) ≤ 240000 := by
 have h1 := co_in (seg l a b) (fun x hx => hb x (seg_mem hx)); have h2 := seg_length l a b hbl
 omega
theorem rd_pots (l : List Int) (pen : Int) (j i : Nat) (h : i ≤ j) : rd (pots l pen j) (i : Int) = pot l pen i := by
 rw [rd_nat]; exact pots_getD l pen j i h
theorem Pot_l1 (l : List Int) (pen : Int) (hp : 0 ≤ pen ∧ pen ≤ 1000000) (hb : ∀ x ∈ l, 0 ≤ x ∧ x ≤ 10000) (hl : l.length ≤ 24) (j : Nat) (hj : j + 1 ≤ l.length) (R : List Int)
  (hR : Ev (fun k => Rf_Potentials.l0 k l pen (pots l pen (j + 1)) ((j + 2 : Nat) : Int)) R) : ∀ (n i : Nat), i + n = j →
  Ev (fun k => Rf_Potentials.l1 k l pen (pots l pen j) ((j + 1 : Nat) : Int) (least (fun i => pot l pen i + co (seg l i (j + 1)) + pen) i) ((i + 1 : Nat) : Int)) R
 | 0, i, h => by
  refine Ev.succ ?_; simp only [Rf_Potentials.l1, show ¬ ((i + 1 : Nat) : Int) < ((j + 1 : Nat) : Int) by omega, if_false, pots_length, show j + 1 < 17592186044416 by omega, if_true, up (show j + 1 < 4611686018427387904 by omega)]; rw [show i = j by omega, ← pot_succ, ← pots_succ]; exact hR
 | n + 1, i, h => by
  refine Ev.succ ?_; have ih := Pot_l1 l pen hp hb hl j hj R hR n (i + 1) (by omega); have h1 := pot_in l pen (by omega) hb hl (i + 1) (by omega); have h2 := co_seg_in hb hl (i + 1) (j + 1) hj; simp only [Rf_Potentials.l1, show ((i + 1 : Nat) : Int) < ((j + 1 : Nat) : Int) by omega, show (0 : Int) ≤ ((i + 1 : Nat) : Int) by omega, pots_length, if_true, up (show i + 1 < 4611686018427387904 by omega)]; rw [show wrap64 (((j + 1 : Nat) : Int) - 1) = (j : Int) by rw [w64 (by omega)]; omega]; refine Ev.bind (Cost_ev l hb hl (i + 1) j (by omega) (by omega)) ?_; rw [rd_pots l pen j (i + 1) (by omega), w64 (n := pot l pen (i + 1) + co (seg l (i + 1) (j + 1))) (by omega), w64 (by omega)]; have hnn : 0 ≤ least (fun i => pot l pen i + co (seg l i (j + 1)) + pen) i := by
   obtain ⟨p, hp1, e⟩ := least_mem (fun i => pot l pen i + co (seg l i (j + 1)) + pen) i; rw [e]; have := pot_in l pen (by omega) hb hl p (by omega); have := co_seg_in hb hl p (j + 1) hj
   omega
  rw [least] at ih
  by_cases hlt : pot l pen (i + 1) + co (seg l (i + 1) (j + 1)) + pen < least (fun i => pot l pen i + co (seg l i (j + 1)) + pen) i
  ·simp only [show ¬ least (fun i => pot l pen i + co (seg l i (j + 1)) + pen) i < 0 by omega, hlt, if_true, if_false] at ih ⊢; exact ih
  ·simp only [show ¬ least (fun i => pot l pen i + co (seg l i (j + 1)) + pen) i < 0 by omega, hlt, if_false] at ih ⊢; exact ih
theorem Pot_l0 (l : List Int) (pen : Int) (hp : 0 ≤ pen ∧ pen ≤ 1000000) (hb : ∀ x ∈ l, 0 ≤ x ∧ x ≤ 10000) (hl : l.length ≤ 24) : ∀ (n j : Nat), j + n = l.length → Ev (fun k => Rf_Potentials.l0 k l pen (pots l pen j) ((j + 1 : Nat) : Int)) (pots l pen l.length)
 | 0, j, h => by
  refine Ev.succ ?_; simp only [Rf_Potentials.l0, show ¬ ((j + 1 : Nat) : Int) ≤ (l.length : Int) by omega, if_false]; rw [show l.length = j by omega]; exact Ev.some
 | n + 1, j, h => by
  refine Ev.succ ?_; have ih := Pot_l0 l pen hp hb hl n (j + 1) (by omega); simp only [Rf_Potentials.l0, show ((j + 1 : Nat) : Int) ≤ (l.length : Int) by omega, if_true]; have := Pot_l1 l pen hp hb hl j (by omega) _ ih j 0 (by omega); refine Ev.succ (f := fun k => Rf_Potentials.l1 k l pen (pots l pen j) ((j + 1 : Nat) : Int) (-1) 0) ?_; have h2 := co_seg_in hb hl 0 (j + 1) (by omega); simp only [Rf_Potentials.l1, show (0 : Int) < ((j + 1 : Nat) : Int) by omega, pots_length, if_true, show (0 : Int) ≤ 0 by omega, show (-1 : Int) < 0 by omega]; rw [show wrap64 (((j + 1 : Nat) : Int) - 1) = (j : Int) by rw [w64 (by omega)]; omega]; refine Ev.bind (Cost_ev l hb hl 0 j (by omega) (by omega)) ?_; have e0 := rd_pots l pen j 0 (by omega); rw [pot_zero] at e0; rw [show ((0 : Nat) : Int) = 0 from rfl] at e0; rw [e0, w64 (n := 0 + co (seg l 0 (j + 1))) (by omega), w64 (by omega), show wrap64 ((0 : Int) + 1) = ((0 + 1 : Nat) : Int) by rw [w64 (by omega)]; rfl]; exact this
theorem Potentials_ev (l : List Int) (pen : Int) (hp : 0 ≤ pen ∧ pen ≤ 1000000) (hb : ∀ x ∈ l, 0 ≤ x ∧ x ≤ 10000) (hl : l.length ≤ 24) : Ev (fun k => Rf_Potentials.f k l pen) (pots l pen l.length) := by
 have := Pot_l0 l pen hp hb hl l.length 0 (by omega); exact this
def nE (a : Int) : Int := if 0 ≤ a ∧ a ≤ 1000000 then 0 else 2
theorem PenaltyErr_eq (a : Int) : Rf_PenaltyErr.f a = some (nE a) := by
 unfold Rf_PenaltyErr.f nE; simp only [Within_eq, Option.bind_some, decide_eq_true_eq]
 split <;> rfl
theorem ProfileErr_ev (l : List Int) (hl : l.length < 4611686018427387904) : Ev (fun k => Rf_ProfileErr.f k l) (pE l).2 := by
 unfold Rf_ProfileErr.f; exact Ev.bind (RefCheckProfile_ev l hl) Ev.some
def two (a b : Int) : Int := if a = 0 then b else a
theorem fnz_two (a b : Int) : fnz [a, b] = two a b := by
 unfold two fnz fnz
 split
 ·split <;> rename_i h
  ·rw [h]; rfl
  ·rfl
 ·rfl
theorem openDivision_ev (l : List Int) (a : Int) (hl : l.length < 4611686018427387904) : Ev (fun k => L_openDivision.f k l a) (l, two (pE l).2 (nE a)) := by
 unfold L_openDivision.f; refine Ev.bind (open_ev l hl) ?_; simp only [within_eq, unless_eq, Option.bind_some, decide_eq_true_eq]; rw [← fnz_two]; exact Ev.bind (first_ev _ (by simp)) Ev.some
theorem two_ok {l : List Int} {a : Int} (h : two (pE l).2 (nE a) = 0) : (pE l).2 = 0 ∧ (0 < l.length ∧ l.length ≤ 24 ∧ ∀ x ∈ l, 0 ≤ x ∧ x ≤ 10000) ∧ 0 ≤ a ∧ a ≤ 1000000 := by
 have h1 : (pE l).2 = 0 := by unfold two at h; split at h <;> assumption
 refine ⟨h1, pE_ok h1, ?_⟩; unfold two nE at h; rw [if_pos h1] at h
 split at h <;> omega
def hd : List Nat → Nat → Nat
 | [], e => e
 | x :: _, _ => x
def cst (l : List Int) (pen : Int) : List Nat → Nat → Int
 | [], _ => 0
 | x :: r, e => co (seg l x (hd r e)) + pen + cst l pen r e
def asc : List Nat → Nat → Prop
 | [], _ => True
 | x :: r, e => x < hd r e ∧ asc r e
def Dv (i e : Nat) (b : List Nat) : Prop := hd b e = i ∧ asc b e
theorem hd_append (r : List Nat) (f e : Nat) : hd (r ++ [f]) e = hd r f := by cases r <;> rfl
theorem cst_append (l : List Int) (pen : Int) (f e : Nat) : ∀ b : List Nat, cst l pen (b ++ [f]) e = cst l pen b f + co (seg l f e) + pen
 | [] => by simp [cst, hd]
 | x :: r => by
  simp only [List.cons_append, cst, hd_append, cst_append l pen f e r]; omega
theorem asc_append (f e : Nat) : ∀ b : List Nat, asc (b ++ [f]) e ↔ asc b f ∧ f < e
 | [] => by simp [asc, hd]
 | x :: r => by
  simp only [List.cons_append, asc, hd_append, asc_append f e r, and_assoc]
theorem asc_hd : ∀ {b : List Nat} {e : Nat}, asc b e → hd b e ≤ e
 | [], _, _ => Nat.le_refl _
 | x :: r, e, h => by have := asc_hd h.2; have := h.1; show x ≤ e; omega
theorem asc_len : ∀ {b : List Nat} {e : Nat}, asc b e → b.length + hd b e ≤ e
 | [], _, _ => by simp [hd]
 | x :: r, e, h => by have := asc_len h.2; have := h.1; simp only [List.length_cons, hd]; omega
theorem Dv_nil {e : Nat} {b : List Nat} (h : Dv e e b) : b = [] := by
 cases b with
 | nil => rfl
 | cons x r =>
  obtain ⟨h1, h2, h3⟩ := h; have := asc_hd h3; simp only [hd] at h1
  omega
def bt (c : Int) (a : List Nat) (d : Int) (b : List Nat) : Prop := c < d ∨ c = d ∧ (a.length < b.length ∨ a.length = b.length ∧ a < b)
def be (c : Int) (a : List Nat) (d : Int) (b : List Nat) : Prop := bt c a d b ∨ c = d ∧ a = b
theorem be_refl (c : Int) (a : List Nat) : be c a c a := .inr ⟨rfl, rfl⟩
theorem bt_trans {c d e : Int} {x y z : List Nat} (h1 : bt c x d y) (h2 : bt d y e z) : bt c x e z := by
 unfold bt at *
 rcases h1 with h1 | ⟨h1, h1' | ⟨h1', h1''⟩⟩ <;> rcases h2 with h2 | ⟨h2, h2' | ⟨h2', h2''⟩⟩
 ·exact .inl (by omega)
 ·exact .inl (by omega)
 ·exact .inl (by omega)
 ·exact .inl (by omega)
 ·exact .inr ⟨by omega, .inl (by omega)⟩
 ·exact .inr ⟨by omega, .inl (by omega)⟩
 ·exact .inl (by omega)
 ·exact .inr ⟨by omega, .inl (by omega)⟩
 ·exact .inr ⟨by omega, .inr ⟨by omega, List.lt_trans h1'' h2''⟩⟩
theorem be_trans {c d e : Int} {x y z : List Nat} (h1 : be c x d y) (h2 : be d y e z) : be c x e z := by
 rcases h1 with h1 | ⟨rfl, rfl⟩
 ·rcases h2 with h2 | ⟨rfl, rfl⟩
  ·exact .inl (bt_trans h1 h2)
  ·exact .inl h1
 ·exact h2
theorem bt_irrefl {c : Int} {x : List Nat} (h : bt c x c x) : False := by
 unfold bt at h
 rcases h with h | ⟨_, h | ⟨_, h⟩⟩
 ·omega
 ·omega
 ·exact List.lt_irrefl _ h
theorem be_antisymm {c d : Int} {x y : List Nat} (h1 : be c x d y) (h2 : be d y c x) : c = d ∧ x = y := by
 rcases h1 with h1 | h1
 ·rcases h2 with h2 | ⟨rfl, rfl⟩
  ·exact absurd (bt_trans h1 h2) (fun h => bt_irrefl h)
  ·exact ⟨rfl, rfl⟩
 ·exact h1
theorem lt_total : ∀ a b : List Nat, a < b ∨ a = b ∨ b < a
 | [], [] => .inr (.inl rfl)
 | [], y :: b => .inl (List.nil_lt_cons _ _)
 | x :: a, [] => .inr (.inr (List.nil_lt_cons _ _))
 | x :: a, y :: b => by
  rcases Nat.lt_trichotomy x y with h | h | h
  ·exact .inl (List.cons_lt_cons_iff.mpr (.inl h))
  ·subst h
   rcases lt_total a b with h | h | h
   ·exact .inl (List.cons_lt_cons_iff.mpr (.inr ⟨rfl, h⟩))
   ·exact .inr (.inl (by rw [h]))
   ·exact .inr (.inr (List.cons_lt_cons_iff.mpr (.inr ⟨rfl, h⟩)))
  ·exact .inr (.inr (List.cons_lt_cons_iff.mpr (.inl h)))
theorem be_total (c d : Int) (x y : List Nat) : be c x d y ∨ bt d y c x := by
 unfold be bt
 rcases Int.lt_trichotomy c d with h | h | h
 ·exact .inl (.inl (.inl h))
 ·rcases Nat.lt_trichotomy x.length y.length with h2 | h2 | h2
  ·exact .inl (.inl (.inr ⟨h, .inl h2⟩))
  ·rcases lt_total x y with h3 | h3 | h3
   ·exact .inl (.inl (.inr ⟨h, .inr ⟨h2, h3⟩⟩))
   ·exact .inl (.inr ⟨h, h3⟩)
   ·exact .inr (.inr ⟨h.symm, .inr ⟨h2.symm, h3⟩⟩)
  ·exact .inr (.inr ⟨h.symm, .inl h2⟩)
 ·exact .inr (.inl h)
theorem lt_append (f : Nat) : ∀ {a b : List Nat}, a.length = b.length → a < b → a ++ [f] < b ++ [f]
 | [], [], _, h => absurd h (List.lt_irrefl _)
 | [], y :: b, h, _ => by simp at h
 | x :: a, [], h, _ => by simp at h
 | x :: a, y :: b, h, hl => by
  rw [List.cons_append, List.cons_append, List.cons_lt_cons_iff]
  rcases List.cons_lt_cons_iff.mp hl with h1 | ⟨h1, h2⟩
  ·exact .inl h1
  ·exact .inr ⟨h1, lt_append f (by simpa using h) h2⟩
theorem be_append {c d : Int} {a b : List Nat} (f : Nat) (k : Int) (h : be c a d b) : be (c + k) (a ++ [f]) (d + k) (b ++ [f]) := by
 rcases h with h | ⟨rfl, rfl⟩
 ·refine .inl ?_; unfold bt at *; simp only [List.length_append, List.length_cons, List.length_nil]
  rcases h with h | ⟨h, h2 | ⟨h2, h3⟩⟩
  ·exact .inl (by omega)
  ·exact .inr ⟨by omega, .inl (by omega)⟩
  ·exact .inr ⟨by omega, .inr ⟨by omega, lt_append f h2 h3⟩⟩
 ·exact be_refl _ _
theorem be_cons {c d : Int} {a b : List Nat} (f : Nat) (k : Int) (h : be c a d b) : be (k + c) (f :: a) (k + d) (f :: b) := by
 rcases h with h | ⟨rfl, rfl⟩
 ·refine .inl ?_; unfold bt at *; simp only [List.length_cons]
  rcases h with h | ⟨h, h2 | ⟨h2, h3⟩⟩
  ·exact .inl (by omega)
  ·exact .inr ⟨by omega, .inl (by omega)⟩
  ·exact .inr ⟨by omega, .inr ⟨by omega, List.cons_lt_cons_iff.mpr (.inr ⟨rfl, h3⟩)⟩⟩
 ·exact be_refl _ _
def Best (l : List Int) (pen : Int) (i e : Nat) (c : Int) (b : List Nat) : Prop := Dv i e b ∧ c = cst l pen b e ∧ ∀ a, Dv i e a → be c b (cst l pen a e) a
theorem Best_uniq {l : List Int} {pen : Int} {i e : Nat} {c d : Int} {a b : List Nat} (h1 : Best l pen i e c a) (h2 : Best l pen i e d b) : c = d ∧ a = b := by
 obtain ⟨a1, a2, a3⟩ := h1; obtain ⟨b1, b2, b3⟩ := h2; have x1 := a3 b b1; have x2 := b3 a a1; rw [← b2] at x1; rw [← a2] at x2; exact be_antisymm x1 x2
theorem Best_nil (l : List Int) (pen : Int) (e : Nat) : Best l pen e e 0 [] :=
 ⟨⟨rfl, trivial⟩, rfl, fun a ha => by rw [Dv_nil ha]; exact be_refl _ _⟩
theorem Best_last {l : List Int} {pen : Int} {t : Nat} (ht : 0 < t) (C : Nat → Int) (B : Nat → List Nat) (hB : ∀ f, f < t → Best l pen 0 f (C f) (B f)) (c : Int) (b : List Nat)
  (hf : ∃ f, f < t ∧ c = C f + co (seg l f t) + pen ∧ b = B f ++ [f]) (hmin : ∀ f, f < t → be c b (C f + co (seg l f t) + pen) (B f ++ [f])) : Best l pen 0 t c b := by
 obtain ⟨f, h1, rfl, rfl⟩ := hf; obtain ⟨⟨d1, d2⟩, d3, d4⟩ := hB f h1; refine ⟨⟨by rw [hd_append]; exact d1, (asc_append f t _).mpr ⟨d2, h1⟩⟩, by rw [cst_append, d3], fun a ha => ?_⟩; obtain ⟨a1, a2⟩ := ha
 rcases List.eq_nil_or_concat a with rfl | ⟨a', g, rfl⟩
 ·simp only [hd] at a1; omega
 ·rw [List.concat_eq_append] at *; rw [hd_append] at a1; obtain ⟨a3, a4⟩ := (asc_append g t a').mp a2; refine be_trans (hmin g a4) ?_; rw [cst_append]; have := be_append g (co (seg l g t) + pen) ((hB g a4).2.2 a' ⟨a1, a3⟩); rw [← Int.add_assoc, ← Int.add_assoc] at this; exact this

def cmpV : List Int → List Int → Int
 | [], [] => 0
 | [], _ :: _ => -1
 | _ :: _, [] => 1
 | x :: a, y :: b => if x < y then -1 else if x > y then 1 else cmpV a b
theorem Compare_eq (a b : Int) : cmp_Compare_int.f a b = some (if a < b then -1 else if a > b then 1 else 0) := by
 unfold cmp_Compare_int.f cmp_isNaN_int.f; simp only [bne_self_eq_false, Option.bind_some, Bool.false_eq_true, if_false]
 split
 ·rfl
 ·split <;> rfl
theorem sCompare_l0 (a b : List Int) (ha : a.length < 4611686018427387904) : ∀ (n i : Nat), i + n = a.length → i ≤ b.length → Ev (fun k => slices_Compare_int_int.l0 k a b a (a.length : Int) (i : Int)) (cmpV (a.drop i) (b.drop i))
 | 0, i, h, hb => by
  refine Ev.succ ?_; simp only [slices_Compare_int_int.l0, show ¬ (i : Int) < (a.length : Int) by omega, if_false]; rw [show a.drop i = [] from List.drop_eq_nil_of_le (by omega)]
  by_cases h1 : a.length < b.length
  ·rw [drop_getD 0 (show i < b.length by omega)]; simp only [show (a.length : Int) < (b.length : Int) by omega, if_true, cmpV]; exact Ev.some
  ·rw [show b.drop i = [] from List.drop_eq_nil_of_le (by omega)]; simp only [show ¬ (a.length : Int) < (b.length : Int) by omega, if_false, cmpV]; exact Ev.some
 | n + 1, i, h, hb => by
  refine Ev.succ ?_; rw [drop_rd (show i < a.length by omega)]; simp only [slices_Compare_int_int.l0, show (i : Int) < (a.length : Int) by omega, show (0 : Int) ≤ (i : Int) by omega, if_true, Compare_eq, Option.bind_some, up (show i < 4611686018427387904 by omega)]
  by_cases h1 : i < b.length
  ·rw [drop_rd h1]; simp only [show ¬ (i : Int) ≥ (b.length : Int) by omega, show (i : Int) < (b.length : Int) by omega, if_true, if_false, cmpV]
   by_cases h2 : rd a (i : Int) < rd b (i : Int)
   ·simp only [h2, if_true, show ¬ (-1 : Int) = 0 by omega, if_false]; exact Ev.some
   ·by_cases h3 : rd a (i : Int) > rd b (i : Int)
    ·simp only [h2, h3, if_true, if_false, show ¬ (1 : Int) = 0 by omega]; exact Ev.some
    ·simp only [h2, h3, if_true, if_false]; exact sCompare_l0 a b ha n (i + 1) (by omega) (by omega)
  ·rw [show b.drop i = [] from List.drop_eq_nil_of_le (by omega)]; simp only [show (i : Int) ≥ (b.length : Int) by omega, if_true, cmpV]; exact Ev.some
theorem sCompare_ev (a b : List Int) (ha : a.length < 4611686018427387904) : Ev (fun k => slices_Compare_int_int.f k a b) (cmpV a b) := by
 have := sCompare_l0 a b ha a.length 0 (by omega) (by omega); exact this
theorem Or_l0 (l : List Int) (hl : l.length < 4611686018427387904) : ∀ (n i : Nat), i + n = l.length → Ev (fun k => cmp_Or_int.l0 k 0 l (l.length : Int) (i : Int)) (fnz (l.drop i))
 | 0, i, h => by
  refine Ev.succ ?_; simp only [cmp_Or_int.l0, show ¬ (i : Int) < (l.length : Int) by omega, if_false]; rw [show l.drop i = [] from List.drop_eq_nil_of_le (by omega)]; exact Ev.some
 | n + 1, i, h => by
  refine Ev.succ ?_; simp only [cmp_Or_int.l0, show (i : Int) < (l.length : Int) by omega, show (0 : Int) ≤ (i : Int) by omega, if_true, up (show i < 4611686018427387904 by omega)]; rw [drop_rd (show i < l.length by omega)]; unfold fnz
  by_cases e : rd l (i : Int) = 0
  ·simp only [e, if_true]; exact Or_l0 l hl n (i + 1) (by omega)
  ·simp only [e, if_false]; exact Ev.some
theorem Or_ev (l : List Int) (hl : l.length < 4611686018427387904) : Ev (fun k => cmp_Or_int.f k l) (fnz l) := Or_l0 l hl l.length 0 (by omega)
def zs (b : List Nat) : List Int := b.map (fun n : Nat => (n : Int))
theorem zs_length (b : List Nat) : (zs b).length = b.length := by unfold zs; simp
theorem zs_append (a b : List Nat) : zs (a ++ b) = zs a ++ zs b := by unfold zs; simp
theorem cmpV_lt : ∀ a b : List Nat, (cmpV (zs a) (zs b) < 0 ↔ a < b) ∧ (cmpV (zs a) (zs b) = 0 ↔ a = b)
 | [], [] => ⟨by simp [zs, cmpV], by simp [zs, cmpV]⟩
 | [], y :: b => ⟨by simp [zs, cmpV], by simp [zs, cmpV]⟩
 | x :: a, [] => ⟨by simp [zs, cmpV], by simp [zs, cmpV]⟩
 | x :: a, y :: b => by
  obtain ⟨h1, h2⟩ := cmpV_lt a b; have e : cmpV (zs (x :: a)) (zs (y :: b)) = if (x : Int) < (y : Int) then -1 else if (x : Int) > (y : Int) then 1 else cmpV (zs a) (zs b) := rfl; rw [e, List.cons_lt_cons_iff]
  by_cases c1 : x < y
  ·rw [if_pos (by omega)]; refine ⟨⟨fun _ => .inl c1, fun _ => by omega⟩, ⟨fun h => by omega, fun h => ?_⟩⟩
   injection h with h; omega
  ·by_cases c2 : x > y
   ·rw [if_neg (by omega), if_pos (by omega)]; refine ⟨⟨fun h => by omega, fun h => by omega⟩, ⟨fun h => by omega, fun h => ?_⟩⟩
    injection h with h; omega
   ·rw [if_neg (by omega), if_neg (by omega)]; obtain rfl : x = y := by omega
    refine ⟨⟨fun h => .inr ⟨rfl, h1.mp h⟩, fun h => ?_⟩, ⟨fun h => by rw [h2.mp h], fun h => h2.mpr (by injection h)⟩⟩
    rcases h with h | ⟨_, h⟩
    ·omega
    ·exact h1.mpr h
theorem compare_ev (c d : Int) (a b : List Nat) (ha : a.length < 4611686018427387904) : ∃ r : Int, (r < 0 ↔ bt c a d b) ∧ Ev (fun k => L_division_compare.f k c (zs a) d (zs b)) r := by
 refine ⟨fnz [if c < d then -1 else if c > d then 1 else 0, if ((zs a).length : Int) < ((zs b).length : Int) then -1 else if ((zs a).length : Int) > ((zs b).length : Int) then 1 else 0, cmpV (zs a) (zs b)], ?_, ?_⟩
 ·rw [zs_length, zs_length]; have h3 := (cmpV_lt a b).1; unfold bt
  rcases Int.lt_trichotomy c d with h | h | h
  ·rw [if_pos h]; simp [fnz, h]
  ·rw [if_neg (by omega), if_neg (by omega)]
   rcases Nat.lt_trichotomy a.length b.length with h2 | h2 | h2
   ·rw [if_pos (by omega)]; simp [fnz, h, h2]
   ·rw [if_neg (by omega), if_neg (by omega)]; rw [show fnz [0, 0, cmpV (zs a) (zs b)] = cmpV (zs a) (zs b) by simp only [fnz, if_true]; split <;> rename_i hh; exact hh.symm; rfl]; rw [h3]
    constructor
    ·intro hlt; exact .inr ⟨h, .inr ⟨h2, hlt⟩⟩
    ·rintro (hh | ⟨_, hh | ⟨_, hh⟩⟩)
     ·omega
     ·omega
     ·exact hh
   ·rw [if_neg (by omega), if_pos (by omega)]; simp only [fnz, if_true]
    constructor
    ·intro hlt; simp at hlt
    ·rintro (hh | ⟨_, hh | ⟨hh, _⟩⟩) <;> omega
  ·rw [if_neg (by omega), if_pos (by omega)]; simp only [fnz]
   constructor
   ·intro hlt; simp at hlt
   ·rintro (hh | ⟨hh, _⟩) <;> omega
 ·unfold L_division_compare.f; simp only [Compare_eq, Option.bind_some]; refine Ev.bind (sCompare_ev (zs a) (zs b) (by rw [zs_length]; exact ha)) ?_; exact Ev.bind (Or_ev _ (by simp)) Ev.some
theorem co_nonneg {l : List Int} (hb : ∀ x ∈ l, 0 ≤ x ∧ x ≤ 10000) (i j : Nat) : 0 ≤ co (seg l i j) := (co_in _ (fun x hx => hb x (seg_mem hx))).1
theorem cst_nonneg {l : List Int} {pen : Int} (hb : ∀ x ∈ l, 0 ≤ x ∧ x ≤ 10000) (hp : 0 ≤ pen) (e : Nat) : ∀ b : List Nat, 0 ≤ cst l pen b e
 | [] => by simp [cst]
 | x :: r => by
  have := cst_nonneg hb hp e r; have := co_nonneg hb x (hd r e); simp only [cst]; omega
theorem Best_in {l : List Int} {pen : Int} (hb : ∀ x ∈ l, 0 ≤ x ∧ x ≤ 10000) (hl : l.length ≤ 24) (hp : 0 ≤ pen ∧ pen ≤ 1000007) {f : Nat} (hf : f ≤ l.length) {c : Int} {b : List Nat} (h : Best l pen 0 f c b) : (0 ≤ c ∧ c ≤ 1240007) ∧ b.length ≤ 24 := by
 obtain ⟨h1, h2, h3⟩ := h; refine ⟨⟨by rw [h2]; exact cst_nonneg hb hp.1 f b, ?_⟩, by have := asc_len h1.2; omega⟩
 by_cases h0 : f = 0
 ·subst h0; have := Dv_nil h1; subst this; rw [h2]; simp [cst]
 ·have := h3 [0] ⟨rfl, by simp [asc, hd]; omega⟩; have h5 := co_seg_in hb hl 0 f hf; have h6 : cst l pen [0] f = co (seg l 0 f) + pen := by simp [cst, hd]
  rw [h6] at this; unfold be bt at this
  rcases this with (h | ⟨h, _⟩) | ⟨h, _⟩ <;> omega
theorem rd132_getD (l : List S132) (i : Nat) : rd_T132 l (i : Int) = l.getD i z132 := by unfold rd_T132; simp
def OK (l : List Int) (pen : Int) (o : List S132) (t : Nat) : Prop := o.length = t ∧ ∃ B : Nat → List Nat, ∀ f, f < t → (rd_T132 o (f : Int)).f1 = zs (B f) ∧ Best l pen 0 f (rd_T132 o (f : Int)).f0 (B f)
theorem OK_snoc {l : List Int} {pen : Int} {o : List S132} {t : Nat} (h : OK l pen o t) {c : Int} {b : List Nat} (hB : Best l pen 0 t c b) : OK l pen (o ++ [⟨c, zs b⟩]) (t + 1) := by
 obtain ⟨h1, B, h2⟩ := h; refine ⟨by simp [h1], fun f => if f = t then b else B f, fun f hf => ?_⟩
 by_cases c0 : f = t
 ·subst c0; have e : rd_T132 (o ++ [⟨c, zs b⟩]) (f : Int) = ⟨c, zs b⟩ := by
   rw [rd132_getD, List.getD_eq_getElem?_getD, List.getElem?_append_right (by omega), h1]; simp
  rw [e]; simp only [if_true]; exact ⟨trivial, hB⟩
 ·have e : rd_T132 (o ++ [⟨c, zs b⟩]) (f : Int) = rd_T132 o (f : Int) := by
   rw [rd132_getD, rd132_getD, List.getD_eq_getElem?_getD, List.getElem?_append_left (by omega), List.getD_eq_getElem?_getD]
  rw [e]; simp only [c0, if_false]; exact h2 f (by omega)
theorem Divs_l1 (l : List Int) (pen : Int) (hp : 0 ≤ pen ∧ pen ≤ 1000007) (hb : ∀ x ∈ l, 0 ≤ x ∧ x ≤ 10000) (hl : l.length ≤ 24) (o : List S132) (t : Nat) (ht0 : 0 < t) (ht : t ≤ l.length) (ho : o.length = t) (B : Nat → List Nat) (hB : ∀ f, f < t → (rd_T132 o (f : Int)).f1 = zs (B f) ∧ Best l pen 0 f (rd_T132 o (f : Int)).f0 (B f)) (P : List S132 → Prop)
  (hR : ∀ c b, Best l pen 0 t c b → ∃ r, P r ∧ Ev (fun k => L_profile_divisions.l0 k l pen (o ++ [⟨c, zs b⟩]) ((t + 1 : Nat) : Int)) r) : ∀ (n i : Nat) (c : Int) (b : List Nat), i + n = t → 0 < i →
  (∃ f, f < i ∧ c = (rd_T132 o (f : Int)).f0 + co (seg l f t) + pen ∧ b = B f ++ [f]) → (∀ f, f < i → be c b ((rd_T132 o (f : Int)).f0 + co (seg l f t) + pen) (B f ++ [f])) →
  ∃ r, P r ∧ Ev (fun k => L_profile_divisions.l1 k l pen o (t : Int) (o.length : Int) (i : Int) c (zs b)) r
 | 0, i, c, b, h, h0, hf, hm => by
  obtain rfl : i = t := by omega
  obtain ⟨r, h1, h2⟩ := hR c b (Best_last ht0 (fun f => (rd_T132 o (f : Int)).f0) B (fun f hf => (hB f hf).2) c b hf hm); refine ⟨r, h1, Ev.succ ?_⟩; simp only [L_profile_divisions.l1, show ¬ (i : Int) < (o.length : Int) by omega, if_false, Option.bind_some, List.length_cons, List.length_nil, show o.length + (0 + 1) < 4398046511104 by omega, if_true, up (show i < 4611686018427387904 by omega)]; exact h2
 | n + 1, i, c, b, h, h0, hf, hm => by
  have hi : i < t := by omega
  obtain ⟨e1, hBi⟩ := hB i hi; obtain ⟨hC, hbl⟩ := Best_in hb hl hp (by omega) hBi; have h2 := co_seg_in hb hl i t ht; have e3 : (zs (B i) ++ [(i : Int)]) = zs (B i ++ [i]) := by rw [zs_append]; rfl
  have hlen : b.length < 4611686018427387904 ∧ (B i ++ [i]).length < 4611686018427387904 := by
   obtain ⟨f, f1, _, f3⟩ := hf; have := (Best_in hb hl hp (by omega) (hB f (by omega)).2).2; rw [f3]; simp only [List.length_append, List.length_cons, List.length_nil]; omega
  obtain ⟨r, hr, hE⟩ := compare_ev ((rd_T132 o (i : Int)).f0 + co (seg l i t) + pen) c (B i ++ [i]) b hlen.2; have ih := fun c b => Divs_l1 l pen hp hb hl o t ht0 ht ho B hB P hR n (i + 1) c b (by omega) (by omega); have hstep : ∀ R, Ev (fun k => if r < 0 then L_profile_divisions.l1 k l pen o (t : Int) (o.length : Int) ((i + 1 : Nat) : Int) ((rd_T132 o (i : Int)).f0 + co (seg l i t) + pen) (zs (B i ++ [i])) else L_profile_divisions.l1 k l pen o (t : Int) (o.length : Int) ((i + 1 : Nat) : Int) c (zs b)) R → Ev (fun k => L_profile_divisions.l1 k l pen o (t : Int) (o.length : Int) (i : Int) c (zs b)) R := by
   intro R hR'; refine Ev.succ ?_; simp only [L_profile_divisions.l1, show (i : Int) < (o.length : Int) by omega, show (0 : Int) ≤ (i : Int) by omega, show (i : Int) ≤ (t : Int) by omega, show (t : Int) ≤ (l.length : Int) by omega, if_true, Int.toNat_natCast, Option.bind_some, e1, zs_length, List.length_cons, List.length_nil, show (B i).length + (0 + 1) < 17592186044416 by omega, show ¬ (i : Int) = 0 by omega, if_false, up (show i < 4611686018427387904 by omega)]; refine Ev.bind (cost_ev (seg l i t) (fun x hx => hb x (seg_mem hx)) (by rw [seg_length _ _ _ ht]; omega)) ?_; rw [w64 (n := (rd_T132 o (i : Int)).f0 + co (seg l i t)) (by omega), w64 (n := (rd_T132 o (i : Int)).f0 + co (seg l i t) + pen) (by omega), e3]; exact Ev.bind hE hR'
  by_cases hlt : r < 0
  ·have hbt := hr.mp hlt; obtain ⟨R, R1, R2⟩ := ih ((rd_T132 o (i : Int)).f0 + co (seg l i t) + pen) (B i ++ [i]) ⟨i, by omega, rfl, rfl⟩ (fun f hf' => by
    by_cases c0 : f = i
    ·subst c0; exact be_refl _ _
    ·exact be_trans (.inl hbt) (hm f (by omega)))
   refine ⟨R, R1, hstep R ?_⟩; simp only [hlt, if_true]; exact R2
  ·obtain ⟨R, R1, R2⟩ := ih c b (by obtain ⟨f, f1, f2⟩ := hf; exact ⟨f, by omega, f2⟩) (fun f hf' => by
    by_cases c0 : f = i
    ·subst c0
     rcases be_total c ((rd_T132 o (f : Int)).f0 + co (seg l f t) + pen) b (B f ++ [f]) with h' | h'
     ·exact h'
     ·exact absurd (hr.mpr h') hlt
    ·exact hm f (by omega))
   refine ⟨R, R1, hstep R ?_⟩; simp only [hlt, if_false]; exact R2
theorem Divs_l0 (l : List Int) (pen : Int) (hp : 0 ≤ pen ∧ pen ≤ 1000007) (hb : ∀ x ∈ l, 0 ≤ x ∧ x ≤ 10000) (hl : l.length ≤ 24) : ∀ (n t : Nat) (o : List S132), t + n = l.length + 1 → 0 < t → OK l pen o t → ∃ r, OK l pen r (l.length + 1) ∧ Ev (fun k => L_profile_divisions.l0 k l pen o (t : Int)) r
 | 0, t, o, h, h0, hO => by
  refine ⟨o, by rw [show l.length + 1 = t by omega]; exact hO, Ev.succ ?_⟩; simp only [L_profile_divisions.l0, show ¬ (t : Int) ≤ (l.length : Int) by omega, if_false]; exact Ev.some
 | n + 1, t, o, h, h0, hO => by
  obtain ⟨ho, B, hB⟩ := hO; have hl1 := Divs_l1 l pen hp hb hl o t h0 (by omega) ho B hB (fun r => OK l pen r (l.length + 1)) (fun c b hcb => Divs_l0 l pen hp hb hl n (t + 1) _ (by omega) (by omega) (OK_snoc ⟨ho, B, hB⟩ hcb)) (t - 1) 1 ((rd_T132 o ((0 : Nat) : Int)).f0 + co (seg l 0 t) + pen) (B 0 ++ [0]) (by omega) (by omega) ⟨0, by omega, rfl, rfl⟩ (fun f hf => by have e0 : f = 0 := (by omega); rw [e0]; exact be_refl _ _); obtain ⟨r, r1, r2⟩ := hl1; refine ⟨r, r1, Ev.succ ?_⟩; obtain ⟨e1, hBi⟩ := hB 0 (by omega); obtain ⟨hC, hbl⟩ := Best_in hb hl hp (by omega) hBi; have h2 := co_seg_in hb hl 0 t (by omega); have e3 : (zs (B 0) ++ [(0 : Int)]) = zs (B 0 ++ [0]) := by rw [zs_append]; rfl
  simp only [L_profile_divisions.l0, show (t : Int) ≤ (l.length : Int) by omega, if_true]; refine Ev.succ (f := fun k => L_profile_divisions.l1 k l pen o (t : Int) (o.length : Int) 0 0 []) ?_; rw [show ((0 : Nat) : Int) = 0 from rfl] at e1 hC r2; simp only [L_profile_divisions.l1, show (0 : Int) < (o.length : Int) by omega, show (0 : Int) ≤ 0 by omega, show (0 : Int) ≤ (t : Int) by omega, show (t : Int) ≤ (l.length : Int) by omega, if_true, Int.toNat_natCast, Option.bind_some, e1, zs_length, List.length_cons, List.length_nil, show (B 0).length + (0 + 1) < 17592186044416 by omega]; refine Ev.bind (cost_ev (seg l 0 t) (fun x hx => hb x (seg_mem hx)) (by rw [seg_length _ _ _ (by omega)]; omega)) ?_; rw [w64 (n := (rd_T132 o 0).f0 + co (seg l 0 t)) (by omega), w64 (n := (rd_T132 o 0).f0 + co (seg l 0 t) + pen) (by omega), e3, show wrap64 ((0 : Int) + 1) = ((1 : Nat) : Int) by rw [w64 (by omega)]; rfl]; exact r2
theorem divisions_ev (l : List Int) (pen : Int) (hp : 0 ≤ pen ∧ pen ≤ 1000007) (hb : ∀ x ∈ l, 0 ≤ x ∧ x ≤ 10000) (hl : l.length ≤ 24) : ∃ r, OK l pen r (l.length + 1) ∧ Ev (fun k => L_profile_divisions.f k l pen) r := by
 have := Divs_l0 l pen hp hb hl l.length 1 [⟨0, []⟩] (by omega) (by omega) ⟨rfl, fun _ => [], fun f hf => by
  obtain rfl : f = 0 := by omega
  exact ⟨rfl, Best_nil l pen 0⟩⟩
 exact this
theorem SegmentsOf_ev (l : List Int) (pen : Int) (hl : l.length < 4611686018427387904) : ∃ r : List Int × Int × Int, ((two (pE l).2 (nE pen) = 0 → ∃ b, r = (zs b, cst l pen b l.length, 0) ∧ Best l pen 0 l.length (cst l pen b l.length) b) ∧ (two (pE l).2 (nE pen) ≠ 0 → r = ([], 0, two (pE l).2 (nE pen)))) ∧ Ev (fun k => L_SegmentsOf.f k l pen) r := by
 by_cases h : two (pE l).2 (nE pen) = 0
 ·obtain ⟨_, ⟨h1, h2, h3⟩, h4⟩ := two_ok h; obtain ⟨o, ⟨ho, B, hB⟩, hE⟩ := divisions_ev l pen (by omega) h3 h2; obtain ⟨b1, b2⟩ := hB l.length (by omega); have e := b2.2.1; rw [e] at b2; refine ⟨_, ⟨fun _ => ⟨B l.length, rfl, b2⟩, fun hn => absurd h hn⟩, ?_⟩; unfold L_SegmentsOf.f; refine Ev.bind (openDivision_ev l pen hl) ?_; simp only [h, if_true]; refine Ev.bind hE ?_; simp only [show (0 : Int) ≤ (l.length : Int) by omega, ho, show (l.length : Int) < ((l.length + 1 : Nat) : Int) by omega, if_true, b1]; rw [e]; exact Ev.some
 ·refine ⟨_, ⟨fun hn => absurd hn h, fun _ => rfl⟩, ?_⟩; unfold L_SegmentsOf.f; refine Ev.bind (openDivision_ev l pen hl) ?_; simp only [h, if_false]; exact Ev.some
theorem pot_le {l : List Int} {pen : Int} : ∀ (f : Nat) (a : List Nat), Dv 0 f a → pot l pen f ≤ cst l pen a f := by
  intro f
  induction f using Nat.strongRecOn with
  | _ f ih =>
    intro a ha
    cases f with
    | zero => rw [Dv_nil ha, pot_zero]; simp [cst]
    | succ j =>
      obtain ⟨a1, a2⟩ := ha
      rcases List.eq_nil_or_concat a with rfl | ⟨a', g, rfl⟩
      · simp only [hd] at a1; omega
      · rw [List.concat_eq_append] at *; rw [hd_append] at a1; obtain ⟨a3, a4⟩ := (asc_append g (j + 1) a').mp a2; rw [cst_append, pot_succ]; have h1 := ih g a4 a' ⟨a1, a3⟩; have h2 := least_le (fun i => pot l pen i + co (seg l i (j + 1)) + pen) j g (by omega)
        omega
theorem pot_ex {l : List Int} {pen : Int} : ∀ (f : Nat), ∃ a : List Nat, Dv 0 f a ∧ cst l pen a f = pot l pen f := by
  intro f
  induction f using Nat.strongRecOn with
  | _ f ih =>
    cases f with
    | zero => exact ⟨[], ⟨rfl, trivial⟩, rfl⟩
    | succ j =>
      obtain ⟨g, g1, g2⟩ := least_mem (fun i => pot l pen i + co (seg l i (j + 1)) + pen) j; obtain ⟨a, ⟨a1, a2⟩, a3⟩ := ih g (by omega); refine ⟨a ++ [g], ⟨by rw [hd_append]; exact a1, (asc_append g (j + 1) a).mpr ⟨a2, by omega⟩⟩, ?_⟩; rw [cst_append, pot_succ, g2, a3]
theorem Best_pot {l : List Int} {pen : Int} {f : Nat} {c : Int} {b : List Nat} (h : Best l pen 0 f c b) : c = pot l pen f := by
 obtain ⟨h1, h2, h3⟩ := h; obtain ⟨a, a1, a2⟩ := pot_ex (l := l) (pen := pen) f; have := h3 a a1; rw [a2] at this; have h4 := pot_le (l := l) (pen := pen) f b h1; unfold be bt at this
 rcases this with (h | ⟨h, _⟩) | ⟨h, _⟩ <;> omega
theorem PotsOf_l0 (l : List Int) (pen : Int) (hl : l.length ≤ 24) (o : List S132) (ho : o.length = l.length + 1) (hC : ∀ f, f < l.length + 1 → (rd_T132 o (f : Int)).f0 = pot l pen f) : ∀ (n i : Nat), i + n = o.length → Ev (fun k => L_PotentialsOf.l0 k ((pots l pen l.length).take i) o (o.length : Int) (i : Int)) (pots l pen l.length, 0)
 | 0, i, h => by
  refine Ev.succ ?_; simp only [L_PotentialsOf.l0, show ¬ (i : Int) < (o.length : Int) by omega, if_false]; rw [List.take_of_length_le (by rw [pots_length]; omega)]; exact Ev.some
 | n + 1, i, h => by
  refine Ev.succ ?_; have hpl := pots_length l pen l.length; simp only [L_PotentialsOf.l0, show (i : Int) < (o.length : Int) by omega, show (0 : Int) ≤ (i : Int) by omega, if_true, List.length_take, show min i (pots l pen l.length).length < 17592186044416 by omega, up (show i < 4611686018427387904 by omega), hC i (by omega)]; have e : (pots l pen l.length).take i ++ [pot l pen i] = (pots l pen l.length).take (i + 1) := by
   rw [List.take_add_one, ← pots_getD l pen l.length i (by omega), List.getD_eq_getElem?_getD]
   simp [show i < (pots l pen l.length).length by omega]
  rw [e]; exact PotsOf_l0 l pen hl o ho hC n (i + 1) (by omega)
theorem PotentialsOf_ev (l : List Int) (pen : Int) (hl : l.length < 4611686018427387904) : Ev (fun k => L_PotentialsOf.f k l pen) (if two (pE l).2 (nE pen) = 0 then (pots l pen l.length, 0) else ([], two (pE l).2 (nE pen))) := by
 unfold L_PotentialsOf.f; refine Ev.bind (openDivision_ev l pen hl) ?_
 by_cases h : two (pE l).2 (nE pen) = 0
 ·obtain ⟨_, ⟨h1, h2, h3⟩, h4⟩ := two_ok h; obtain ⟨o, ⟨ho, B, hB⟩, hE⟩ := divisions_ev l pen (by omega) h3 h2; simp only [h, if_true]; refine Ev.bind hE ?_; have := PotsOf_l0 l pen h2 o ho (fun f hf => Best_pot (hB f hf).2) o.length 0 (by omega); exact this
 ·simp only [h, if_false]; exact Ev.some
def rE (l : List Int) (a b : Int) : Int := if (0 ≤ a ∧ a ≤ (l.length : Int) - 1) ∧ (0 ≤ b ∧ b ≤ (l.length : Int) - 1) then (if a ≤ b then 0 else 9) else 6
theorem fnz_three (a b c : Int) : fnz [a, b, c] = two a (two b c) := by
 rw [← fnz_two b c]; unfold two fnz; rfl
theorem SegmentCost_ev (l : List Int) (a b : Int) (hl : l.length < 4611686018427387904) : Ev (fun k => L_SegmentCost.f k l a b) (if two (pE l).2 (rE l a b) = 0 then (co (seg l a.toNat (b.toNat + 1)), 0) else (0, two (pE l).2 (rE l a b))) := by
 have hcost : two (pE l).2 (rE l a b) = 0 → Ev (fun k => (if 0 ≤ a then (if a ≤ (wrap64 (b + 1)) then (if (wrap64 (b + 1)) ≤ (l.length : Int) then ((L_profile_cost.f k ((l.take ((wrap64 (b + 1)) : Int).toNat).drop (a : Int).toNat)).bind fun t612 => (some (t612, (0 : Int)))) else (none)) else (none)) else (none))) (co (seg l a.toNat (b.toNat + 1)), 0) := by
  intro h; have h1 : (pE l).2 = 0 := by unfold two at h; split at h <;> assumption
  obtain ⟨h2, h3, h4⟩ := pE_ok h1; have h5 : rE l a b = 0 := by unfold two at h; rw [if_pos h1] at h; exact h
  have h6 : ((0 ≤ a ∧ a ≤ (l.length : Int) - 1) ∧ (0 ≤ b ∧ b ≤ (l.length : Int) - 1)) ∧ a ≤ b := by
   unfold rE at h5; split at h5
   ·split at h5
    ·exact ⟨by assumption, by assumption⟩
    ·omega
   ·omega
  rw [w64 (n := b + 1) (by omega)]; simp only [show (0 : Int) ≤ a by omega, show a ≤ b + 1 by omega, show b + 1 ≤ (l.length : Int) by omega, if_true]; rw [show (b + 1).toNat = b.toNat + 1 by omega]; exact Ev.bind (cost_ev (seg l a.toNat (b.toNat + 1)) (fun x hx => h4 x (seg_mem hx)) (by rw [seg_length _ _ _ (by omega)]; omega)) Ev.some
 have hend : ∀ e : Int, e = two (pE l).2 (rE l a b) → Ev (fun k => (if e = 0 then (if 0 ≤ a then (if a ≤ (wrap64 (b + 1)) then (if (wrap64 (b + 1)) ≤ (l.length : Int) then ((L_profile_cost.f k ((l.take ((wrap64 (b + 1)) : Int).toNat).drop (a : Int).toNat)).bind fun t612 => (some (t612, (0 : Int)))) else (none)) else (none)) else (none)) else some (0, e))) (if two (pE l).2 (rE l a b) = 0 then (co (seg l a.toNat (b.toNat + 1)), 0) else (0, two (pE l).2 (rE l a b))) := by
  intro e he; subst he
  by_cases h : two (pE l).2 (rE l a b) = 0
  ·simp only [h, if_true]; exact hcost h
  ·simp only [h, if_false]; exact Ev.some
 unfold L_SegmentCost.f; refine Ev.bind (open_ev l hl) ?_; rw [w64 (n := (l.length : Int) - 1) (by omega)]; simp only [within_eq, unless_eq, Option.bind_some, decide_eq_true_eq]
 by_cases h1 : 0 ≤ a ∧ a ≤ (l.length : Int) - 1
 ·simp only [h1, and_self, if_true]; refine Ev.bind (first_ev _ (by simp)) ?_; have hE := hend (fnz [(pE l).2, if 0 ≤ b ∧ b ≤ (l.length : Int) - 1 then 0 else 6, if a ≤ b then 0 else 9]) (by
   rw [fnz_three]
   congr 1
   unfold rE two
   by_cases h2 : 0 ≤ b ∧ b ≤ (l.length : Int) - 1
   ·simp only [h1, h2, and_self, if_true]
   ·simp only [h1, h2, and_false, if_false, show ¬ (6 : Int) = 0 by omega])
  simp only [h1, if_true] at hE; exact hE
 ·simp only [h1, if_false, Bool.false_eq_true]; refine Ev.bind (first_ev _ (by simp)) ?_; refine hend _ ?_; rw [fnz_three]
  congr 1
  unfold rE two; simp only [h1, false_and, if_false, show ¬ (6 : Int) = 0 by omega]
theorem Dv_lt {q q' N : Nat} {a b : List Nat} (h1 : Dv q N a) (h2 : Dv q' N b) (h : q < q') (hl : a.length = b.length) : a < b := by
  have h3 := asc_hd h2.2; rw [h2.1] at h3
  cases a with
  | nil => have := h1.1; simp only [hd] at this; omega
  | cons x r =>
    cases b with
    | nil => simp at hl
    | cons y s =>
      have e1 : x = q := h1.1; have e2 : y = q' := h2.1; exact List.cons_lt_cons_iff.mpr (.inl (by omega))
theorem Best_first {l : List Int} {pen : Int} {i N : Nat} (hi : i < N) (C : Nat → Int) (π : Nat → List Nat) (hB : ∀ p, i < p → p ≤ N → Best l pen p N (C p) (π p)) (q : Nat) (hq : i < q ∧ q ≤ N)
    (hm : ∀ q', i < q' → q' ≤ N → (co (seg l i q) + pen + C q < co (seg l i q') + pen + C q' ∨ co (seg l i q) + pen + C q = co (seg l i q') + pen + C q' ∧ ((π q).length < (π q').length ∨ (π q).length = (π q').length ∧ q ≤ q'))) :
    Best l pen i N (co (seg l i q) + pen + C q) (i :: π q) := by
  obtain ⟨⟨d1, d2⟩, d3, d4⟩ := hB q hq.1 hq.2; refine ⟨⟨rfl, by rw [d1]; exact hq.1, d2⟩, by simp only [cst]; rw [d1, d3], fun a ha => ?_⟩; obtain ⟨a1, a2⟩ := ha
  cases a with
  | nil => simp only [hd] at a1; omega
  | cons x a' =>
    have e : x = i := a1; subst e; obtain ⟨a3, a4⟩ := a2; have a5 := asc_hd a4; obtain ⟨q', eq'⟩ : ∃ q', q' = hd a' N := ⟨_, rfl⟩; rw [← eq'] at a3 a5; have hB' := hB q' a3 a5; have step : be (co (seg l x q) + pen + C q) (x :: π q) (co (seg l x q') + pen + C q') (x :: π q') := by
      rcases hm q' a3 a5 with h | ⟨he, h | ⟨h, h'⟩⟩
      · exact .inl (.inl h)
      · exact .inl (.inr ⟨he, .inl (by simpa using h)⟩)
      · rcases Nat.lt_or_ge q q' with h2 | h2
        · exact .inl (.inr ⟨he, .inr ⟨by simpa using h, List.cons_lt_cons_iff.mpr (.inr ⟨rfl, Dv_lt ⟨d1, d2⟩ hB'.1 h2 h⟩)⟩⟩)
        · obtain rfl : q = q' := by omega
          exact be_refl _ _
    refine be_trans step ?_; have := be_cons x (co (seg l x q') + pen) (hB'.2.2 a' ⟨eq'.symm, a4⟩); simp only [cst]; rw [← eq']; exact this
theorem Best_in' {l : List Int} {pen : Int} (hb : ∀ x ∈ l, 0 ≤ x ∧ x ≤ 10000) (hl : l.length ≤ 24) (hp : 0 ≤ pen ∧ pen ≤ 1000000) {p : Nat} (hpN : p ≤ l.length) {c : Int} {b : List Nat} (h : Best l pen p l.length c b) : (0 ≤ c ∧ c ≤ 1240000) ∧ b.length ≤ 24 := by
 obtain ⟨h1, h2, h3⟩ := h; refine ⟨⟨by rw [h2]; exact cst_nonneg hb hp.1 _ b, ?_⟩, by have := asc_len h1.2; omega⟩
 by_cases h0 : p = l.length
 ·subst h0; have := Dv_nil h1; subst this; rw [h2]; simp [cst]
 ·have := h3 [p] ⟨rfl, by simp [asc, hd]; omega⟩; have h5 := co_seg_in hb hl p l.length (Nat.le_refl _); have h6 : cst l pen [p] l.length = co (seg l p l.length) + pen := by simp [cst, hd]
  rw [h6] at this; unfold be bt at this
  rcases this with (h | ⟨h, _⟩) | ⟨h, _⟩ <;> omega
theorem rd_set (x : List Int) (i p : Nat) (v : Int) (h : i < x.length) : rd (x.set i v) (p : Int) = if p = i then v else rd x (p : Int) := by
 rw [rd_nat, rd_nat, List.getD_eq_getElem?_getD, List.getD_eq_getElem?_getD, List.getElem?_set]
 by_cases c : p = i
 ·subst c; simp [h]
 ·simp [c, Ne.symm c]
def Sol (l : List Int) (pen : Int) (N i : Nat) (π : Nat → List Nat) (c k x : List Int) : Prop :=
 (c.length = N + 1 ∧ k.length = N + 1 ∧ x.length = N + 1) ∧ ∀ p, i ≤ p → p ≤ N → Best l pen p N (rd c (p : Int)) (π p) ∧ rd k (p : Int) = ((π p).length : Int) ∧ (p < N → ∃ q : Nat, rd x (p : Int) = (q : Int) ∧ p < q ∧ q ≤ N ∧ π p = p :: π q)
theorem Sol_set {l : List Int} {pen : Int} {N i : Nat} {π : Nat → List Nat} {c k x : List Int} (h : Sol l pen N (i + 1) π c k x) (hi : i < N) (a b d : Int) : Sol l pen N (i + 1) π (c.set i a) (k.set i b) (x.set i d) := by
 obtain ⟨⟨h1, h2, h3⟩, h4⟩ := h; refine ⟨⟨by simpa using h1, by simpa using h2, by simpa using h3⟩, fun p hp hpN => ?_⟩; rw [rd_set c i p a (by omega), rd_set k i p b (by omega), rd_set x i p d (by omega), if_neg (by omega), if_neg (by omega), if_neg (by omega)]; exact h4 p hp hpN
def Cand (l : List Int) (pen : Int) (i j : Nat) (c k x : List Int) : Prop :=
 ∃ q : Nat, i < q ∧ q < j ∧ rd x (i : Int) = (q : Int) ∧ rd c (i : Int) = co (seg l i q) + pen + rd c (q : Int) ∧ rd k (i : Int) = rd k (q : Int) + 1 ∧
  ∀ q', i < q' → q' < j → (rd c (i : Int) < co (seg l i q') + pen + rd c (q' : Int) ∨ rd c (i : Int) = co (seg l i q') + pen + rd c (q' : Int) ∧ (rd k (i : Int) < rd k (q' : Int) + 1 ∨ rd k (i : Int) = rd k (q' : Int) + 1 ∧ q ≤ q'))
theorem Cand_set {l : List Int} {pen : Int} {i j : Nat} {c k x : List Int} (hij : i < j) (hc : i < c.length) (hk : i < k.length) (hx : i < x.length)
  (hm : ∀ q', i < q' → q' < j → (co (seg l i j) + pen + rd c (j : Int) < co (seg l i q') + pen + rd c (q' : Int) ∨ co (seg l i j) + pen + rd c (j : Int) = co (seg l i q') + pen + rd c (q' : Int) ∧ rd k (j : Int) < rd k (q' : Int))) :
  Cand l pen i (j + 1) (c.set i (co (seg l i j) + pen + rd c (j : Int))) (k.set i (rd k (j : Int) + 1)) (x.set i (j : Int)) := by
 refine ⟨j, hij, by omega, ?_, ?_, ?_, fun q' h1 h2 => ?_⟩
 ·rw [rd_set x i i _ hx, if_pos rfl]
 ·rw [rd_set c i i _ hc, if_pos rfl, rd_set c i j _ hc, if_neg (by omega)]
 ·rw [rd_set k i i _ hk, if_pos rfl, rd_set k i j _ hk, if_neg (by omega)]
 ·rw [rd_set c i i _ hc, if_pos rfl, rd_set c i q' _ hc, if_neg (by omega), rd_set k i i _ hk, if_pos rfl, rd_set k i q' _ hk, if_neg (by omega)]
  by_cases e : q' = j
  ·subst e; exact .inr ⟨rfl, .inr ⟨rfl, Nat.le_refl _⟩⟩
  ·rcases hm q' h1 (by omega) with h | ⟨h, h'⟩
   ·exact .inl h
   ·exact .inr ⟨h, .inl (by omega)⟩
theorem Seg_l1 (l : List Int) (pen : Int) (hp : 0 ≤ pen ∧ pen ≤ 1000000) (hb : ∀ x ∈ l, 0 ≤ x ∧ x ≤ 10000) (hl : l.length ≤ 24) (i : Nat) (hi : i < l.length) (π : Nat → List Nat) (P : List Int × Int → Prop)
    (hR : ∀ c k x, Sol l pen l.length (i + 1) π c k x → Cand l pen i (l.length + 1) c k x → ∃ r, P r ∧ Ev (fun f => Rf_Segments.l0 f l pen (l.length : Int) c k x ((i : Int) - 1)) r) :
    ∀ (n j : Nat) (fd : Bool) (c k x : List Int), j + n = l.length + 1 → i < j → Sol l pen l.length (i + 1) π c k x → (fd = false → j = i + 1) → (fd = true → Cand l pen i j c k x) →
    ∃ r, P r ∧ Ev (fun f => Rf_Segments.l1 f l pen (l.length : Int) c k x (i : Int) fd (j : Int)) r
  | 0, j, fd, c, k, x, h, hij, hS, hf, ht => by
    cases fd with
    | false => have := hf rfl; omega
    | true =>
      have hC := ht rfl; rw [show j = l.length + 1 by omega] at hC; obtain ⟨r, r1, r2⟩ := hR c k x hS hC; refine ⟨r, r1, Ev.succ ?_⟩; simp only [Rf_Segments.l1, show ¬ (j : Int) ≤ (l.length : Int) by omega, if_false]; rw [w64 (n := (i : Int) - 1) (by omega)]; exact r2
  | n + 1, j, fd, c, k, x, h, hij, hS, hf, ht => by
    obtain ⟨⟨s1, s2, s3⟩, s4⟩ := hS; obtain ⟨hBj, hkj, _⟩ := s4 j (by omega) (by omega); obtain ⟨hcj, hlj⟩ := Best_in' hb hl hp (by omega) hBj; have hco := co_seg_in hb hl i j (by omega); have ih := Seg_l1 l pen hp hb hl i hi π P hR n (j + 1); have hbase : ∀ R, Ev (fun f => (if fd = true then (if co (seg l i j) + pen + rd c (j : Int) < rd c (i : Int) then Rf_Segments.l1 f l pen (l.length : Int) (c.set i (co (seg l i j) + pen + rd c (j : Int))) (k.set i (rd k (j : Int) + 1)) (x.set i (j : Int)) (i : Int) true ((j + 1 : Nat) : Int)
        else if co (seg l i j) + pen + rd c (j : Int) = rd c (i : Int) then (if rd k (j : Int) + 1 < rd k (i : Int) then Rf_Segments.l1 f l pen (l.length : Int) (c.set i (co (seg l i j) + pen + rd c (j : Int))) (k.set i (rd k (j : Int) + 1)) (x.set i (j : Int)) (i : Int) true ((j + 1 : Nat) : Int) else Rf_Segments.l1 f l pen (l.length : Int) c k x (i : Int) fd ((j + 1 : Nat) : Int))
        else Rf_Segments.l1 f l pen (l.length : Int) c k x (i : Int) fd ((j + 1 : Nat) : Int))
        else Rf_Segments.l1 f l pen (l.length : Int) (c.set i (co (seg l i j) + pen + rd c (j : Int))) (k.set i (rd k (j : Int) + 1)) (x.set i (j : Int)) (i : Int) true ((j + 1 : Nat) : Int))) R →
        Ev (fun f => Rf_Segments.l1 f l pen (l.length : Int) c k x (i : Int) fd (j : Int)) R := by
      intro R hR'; refine Ev.succ ?_; have hC := Cost_ev l hb hl i (j - 1) (by omega) (by omega); rw [show j - 1 + 1 = j by omega, show ((j - 1 : Nat) : Int) = (j : Int) - 1 by omega] at hC; simp only [Rf_Segments.l1, show (j : Int) ≤ (l.length : Int) by omega, if_true]; rw [w64 (n := (j : Int) - 1) (by omega)]; refine Ev.bind hC ?_; rw [w64 (n := co (seg l i j) + pen) (by omega), w64 (n := co (seg l i j) + pen + rd c (j : Int)) (by omega), w64 (n := rd k (j : Int) + 1) (by omega), up (by omega)]; simp only [show (0 : Int) ≤ (j : Int) by omega, show (j : Int) < (c.length : Int) by omega, show (j : Int) < (k.length : Int) by omega, show (0 : Int) ≤ (i : Int) by omega, show (i : Int) < (c.length : Int) by omega, show (i : Int) < (k.length : Int) by omega, show (i : Int) < (x.length : Int) by omega, if_true, Int.toNat_natCast]; exact hR'
    have hset := Sol_set (i := i) ⟨⟨s1, s2, s3⟩, s4⟩ hi (co (seg l i j) + pen + rd c (j : Int)) (rd k (j : Int) + 1) (j : Int)
    cases fd with
    | false =>
      have hj := hf rfl; have hcand : Cand l pen i (j + 1) (c.set i (co (seg l i j) + pen + rd c (j : Int))) (k.set i (rd k (j : Int) + 1)) (x.set i (j : Int)) :=
        Cand_set hij (by omega) (by omega) (by omega) (fun q' a b => by omega)
      obtain ⟨r, r1, r2⟩ := ih true _ _ _ (by omega) (by omega) hset (fun hh => by cases hh) (fun _ => hcand); refine ⟨r, r1, hbase r ?_⟩; simp only [Bool.false_eq_true, if_false]; exact r2
    | true =>
      obtain ⟨q, q1, q2, q3, q4, q5, q6⟩ := ht rfl
      by_cases c1 : co (seg l i j) + pen + rd c (j : Int) < rd c (i : Int)
      · have hcand : Cand l pen i (j + 1) (c.set i (co (seg l i j) + pen + rd c (j : Int))) (k.set i (rd k (j : Int) + 1)) (x.set i (j : Int)) :=
          Cand_set hij (by omega) (by omega) (by omega) (fun q' a b => by rcases q6 q' a b with hh | ⟨hh, _⟩ <;> exact .inl (by omega))
        obtain ⟨r, r1, r2⟩ := ih true _ _ _ (by omega) (by omega) hset (fun hh => by cases hh) (fun _ => hcand); refine ⟨r, r1, hbase r ?_⟩; simp only [c1, if_true]; exact r2
      · by_cases c2 : co (seg l i j) + pen + rd c (j : Int) = rd c (i : Int)
        · by_cases c3 : rd k (j : Int) + 1 < rd k (i : Int)
          · have hcand : Cand l pen i (j + 1) (c.set i (co (seg l i j) + pen + rd c (j : Int))) (k.set i (rd k (j : Int) + 1)) (x.set i (j : Int)) :=
              Cand_set hij (by omega) (by omega) (by omega) (fun q' a b => by
                rcases q6 q' a b with hh | ⟨hh, hh2 | ⟨hh2, _⟩⟩
                · exact .inl (by omega)
                · exact .inr ⟨by omega, by omega⟩
                · exact .inr ⟨by omega, by omega⟩)
            obtain ⟨r, r1, r2⟩ := ih true _ _ _ (by omega) (by omega) hset (fun hh => by cases hh) (fun _ => hcand); refine ⟨r, r1, hbase r ?_⟩; simp only [c1, c2, c3, if_true, if_false] at r2 ⊢; simp only [show ¬ rd c (i : Int) < rd c (i : Int) by omega, if_false]; exact r2
          · have hcand : Cand l pen i (j + 1) c k x := ⟨q, q1, by omega, q3, q4, q5, fun q' a b => by
              by_cases e : q' = j
              · subst e
                rcases Int.lt_or_eq_of_le (show rd k (i : Int) ≤ rd k (q' : Int) + 1 by omega) with h5 | h5
                · exact .inr ⟨by omega, .inl h5⟩
                · exact .inr ⟨by omega, .inr ⟨h5, by omega⟩⟩
              · exact q6 q' a (by omega)⟩
            obtain ⟨r, r1, r2⟩ := ih true _ _ _ (by omega) (by omega) ⟨⟨s1, s2, s3⟩, s4⟩ (fun hh => by cases hh) (fun _ => hcand); refine ⟨r, r1, hbase r ?_⟩; simp only [c1, c2, c3, if_true, if_false]; simp only [show ¬ rd c (i : Int) < rd c (i : Int) by omega, if_false]; exact r2
        · have hcand : Cand l pen i (j + 1) c k x := ⟨q, q1, by omega, q3, q4, q5, fun q' a b => by
            by_cases e : q' = j
            · subst e; exact .inl (by omega)
            · exact q6 q' a (by omega)⟩
          obtain ⟨r, r1, r2⟩ := ih true _ _ _ (by omega) (by omega) ⟨⟨s1, s2, s3⟩, s4⟩ (fun hh => by cases hh) (fun _ => hcand); refine ⟨r, r1, hbase r ?_⟩; simp only [c1, c2, if_true, if_false]; exact r2
theorem Seg_l2 (l : List Int) (pen : Int) (hl : l.length ≤ 24) (π : Nat → List Nat) (c k x : List Int) (hS : Sol l pen l.length 0 π c k x) : ∀ (n i : Nat) (o : List Int), l.length - i ≤ n → i ≤ l.length → o.length ≤ i →
  Ev (fun f => Rf_Segments.l2 f (l.length : Int) c x o (i : Int)) (o ++ zs (π i), rd c 0)
 | n, i, o, h, hi, ho => by
  obtain ⟨⟨s1, s2, s3⟩, s4⟩ := hS; obtain ⟨hB, _, hx⟩ := s4 i (by omega) hi
  by_cases e : i = l.length
  ·subst e; refine Ev.succ ?_; simp only [Rf_Segments.l2, show ¬ (l.length : Int) < (l.length : Int) by omega, if_false, show (0 : Int) < (c.length : Int) by omega, if_true]; rw [Dv_nil hB.1]; simp only [zs, List.map_nil, List.append_nil]; exact Ev.some
  ·cases n with
   | zero => omega
   | succ n =>
    obtain ⟨q, q1, q2, q3, q4⟩ := hx (by omega); refine Ev.succ ?_; simp only [Rf_Segments.l2, show (i : Int) < (l.length : Int) by omega, show o.length < 17592186044416 by omega, show (0 : Int) ≤ (i : Int) by omega, show (i : Int) < (x.length : Int) by omega, if_true, q1]; have := Seg_l2 l pen hl π c k x ⟨⟨s1, s2, s3⟩, s4⟩ n q (o ++ [(i : Int)]) (by omega) q3 (by simp; omega); rw [List.append_assoc] at this; rw [q4]; exact this
theorem Seg_l0 (l : List Int) (pen : Int) (hp : 0 ≤ pen ∧ pen ≤ 1000000) (hb : ∀ x ∈ l, 0 ≤ x ∧ x ≤ 10000) (hl : l.length ≤ 24) : ∀ (i : Nat) (π : Nat → List Nat) (c k x : List Int), i ≤ l.length → Sol l pen l.length i π c k x →
  ∃ r : List Int × Int, (∃ b, r = (zs b, r.2) ∧ Best l pen 0 l.length r.2 b) ∧ Ev (fun f => Rf_Segments.l0 f l pen (l.length : Int) c k x ((i : Int) - 1)) r
 | 0, π, c, k, x, hi, hS => by
  refine ⟨(zs (π 0), rd c 0), ⟨π 0, rfl, (hS.2 0 (by omega) (by omega)).1⟩, Ev.succ ?_⟩; simp only [Rf_Segments.l0, show ¬ ((0 : Nat) : Int) - 1 ≥ 0 by omega, if_false]; have := Seg_l2 l pen hl π c k x hS l.length 0 [] (by omega) (by omega) (by simp); rw [List.nil_append] at this; exact this
 | i + 1, π, c, k, x, hi, hS => by
  obtain ⟨r, r1, r2⟩ := Seg_l1 l pen hp hb hl i (by omega) π (fun r => ∃ b, r = (zs b, r.2) ∧ Best l pen 0 l.length r.2 b) (fun c k x hS' hC => by
   obtain ⟨⟨s1, s2, s3⟩, s4⟩ := hS'; obtain ⟨q, q1, q2, q3, q4, q5, q6⟩ := hC; have hfirst := Best_first (l := l) (pen := pen) (show i < l.length by omega) (fun p => rd c (p : Int)) π (fun p h1 h2 => (s4 p (by omega) h2).1) q ⟨q1, by omega⟩ (fun q' h1 h2 => by
    have := q6 q' h1 (by omega); rw [q4, q5, (s4 q (by omega) (by omega)).2.1, (s4 q' (by omega) h2).2.1] at this
    rcases this with h | ⟨h, h' | ⟨h', h''⟩⟩
    ·exact .inl h
    ·exact .inr ⟨h, .inl (by omega)⟩
    ·exact .inr ⟨h, .inr ⟨by omega, h''⟩⟩)
   refine Seg_l0 l pen hp hb hl i (fun p => if p = i then i :: π q else π p) c k x (by omega) ⟨⟨s1, s2, s3⟩, fun p h1 h2 => ?_⟩
   by_cases e : p = i
   ·subst e; simp only [if_true]; refine ⟨by rw [q4]; exact hfirst, by rw [q5, (s4 q (by omega) (by omega)).2.1]; simp, fun _ => ⟨q, q3, q1, by omega, by rw [if_neg (by omega)]⟩⟩
   ·simp only [e, if_false]; obtain ⟨b1, b2, b3⟩ := s4 p (by omega) h2; refine ⟨b1, b2, fun h3 => ?_⟩; obtain ⟨q', c1, c2, c3, c4⟩ := b3 h3; exact ⟨q', c1, c2, c3, by rw [if_neg (by omega)]; exact c4⟩) (l.length - i) (i + 1) false c k x (by omega) (by omega) hS (fun _ => rfl) (fun hh => by cases hh)
  refine ⟨r, r1, Ev.succ ?_⟩; rw [show ((i + 1 : Nat) : Int) - 1 = (i : Int) by omega]; simp only [Rf_Segments.l0, show (i : Int) ≥ 0 by omega, if_true, up (show i < 4611686018427387904 by omega)]; exact r2
theorem Segments_ev (l : List Int) (pen : Int) (hp : 0 ≤ pen ∧ pen ≤ 1000000) (hb : ∀ x ∈ l, 0 ≤ x ∧ x ≤ 10000) (hl0 : 0 < l.length) (hl : l.length ≤ 24) : ∃ r : List Int × Int, (∃ b, r = (zs b, r.2) ∧ Best l pen 0 l.length r.2 b) ∧ Ev (fun f => Rf_Segments.f f l pen) r := by
 have hz : ∀ p : Nat, rd (List.replicate (l.length + 1) 0) (p : Int) = 0 := by
  intro p; rw [rd_nat, List.getD_eq_getElem?_getD, List.getElem?_replicate]
  split <;> rfl
 obtain ⟨r, r1, r2⟩ := Seg_l0 l pen hp hb hl l.length (fun _ => []) (List.replicate (l.length + 1) 0) (List.replicate (l.length + 1) 0) (List.replicate (l.length + 1) 0) (Nat.le_refl _) ⟨⟨by simp, by simp, by simp⟩, fun p h1 h2 => by
  obtain rfl : p = l.length := by omega
  rw [hz]; exact ⟨Best_nil l pen _, rfl, fun h => by omega⟩⟩
 refine ⟨r, r1, ?_⟩; unfold Rf_Segments.f; rw [up (show l.length < 4611686018427387904 by omega), Int.toNat_natCast, w64 (n := (l.length : Int) - 1) (by omega)]; simp only [show (0 : Int) ≤ ((l.length + 1 : Nat) : Int) by omega, show l.length + 1 ≤ 35184372088832 by omega, if_true]; exact r2
theorem SegmentErr_ev (l : List Int) (a b : Int) (hl : l.length < 4611686018427387904) : Ev (fun k => Rf_SegmentErr.f k l a b) (rE l a b) := by
 unfold Rf_SegmentErr.f rE; rw [w64 (n := (l.length : Int) - 1) (by omega)]; simp only [Within_eq, Option.bind_some, decide_eq_true_eq]
 by_cases h1 : 0 ≤ a ∧ a ≤ (l.length : Int) - 1
 ·by_cases h2 : 0 ≤ b ∧ b ≤ (l.length : Int) - 1
  ·simp only [h1, h2, and_self, if_true, decide_true, Bool.not_true]; refine Ev.succ ?_
   by_cases h3 : a ≤ b
   ·simp only [Rf_SegmentErr.j0, Bool.false_eq_true, if_false, h3, show ¬ a > b by omega, if_true]; exact Ev.some
   ·simp only [Rf_SegmentErr.j0, Bool.false_eq_true, if_false, h3, show a > b by omega, if_true]; exact Ev.some
  ·simp only [h1, h2, and_self, and_false, if_true, if_false, decide_false, Bool.not_false]; refine Ev.succ ?_; simp only [Rf_SegmentErr.j0, if_true]; exact Ev.some
 ·simp only [h1, false_and, if_false]; refine Ev.succ ?_; simp only [Rf_SegmentErr.j0, if_true]; exact Ev.some
theorem Ints_l0 (x : List Int) (hl : x.length < 4611686018427387904) : ∀ (n i : Nat), i + n = x.length → Ev (fun k => Bs_Ints.l0 k x x (i : Int)) true
 | 0, i, h => by
  refine Ev.succ ?_; simp only [Bs_Ints.l0, show ¬ (i : Int) < (x.length : Int) by omega, if_false]; exact Ev.some
 | n + 1, i, h => by
  refine Ev.succ ?_; simp only [Bs_Ints.l0, show (i : Int) < (x.length : Int) by omega, show (0 : Int) ≤ (i : Int) by omega, if_true, up (show i < 4611686018427387904 by omega)]; exact Ints_l0 x hl n (i + 1) (by omega)
theorem Ints_ev (x : List Int) (hl : x.length < 4611686018427387904) : Ev (fun k => Bs_Ints.f k x x) true := by
 unfold Bs_Ints.f; simp only [if_true]; exact Ints_l0 x hl x.length 0 (by omega)
theorem CloudSegments_ev (l : List Int) (pen : Int) (a b : Int) : Ev (fun k => Lw_CloudSegments.f k l pen a b) true := by
 unfold Lw_CloudSegments.f; refine Ev.bind awake_ev ?_; simp only [if_true, few_eq, Option.bind_some, decide_eq_true_eq]
 by_cases hf : l.length ≤ 26
 rotate_left
 ·simp only [hf, if_false]; exact Ev.some
 simp only [hf, if_true, CopyInts_eq l (by omega), Option.bind_some]; obtain ⟨S, ⟨s1, s2⟩, hS⟩ := SegmentsOf_ev l pen (by omega); refine Ev.bind (SegmentCost_ev l a b (by omega)) ?_; refine Ev.bind hS ?_; refine Ev.bind (PotentialsOf_ev l pen (by omega)) ?_; refine Ev.bind (ProfileErr_ev l (by omega)) ?_; generalize hC : (if two (pE l).2 (rE l a b) = 0 then (co (seg l a.toNat (b.toNat + 1)), 0) else (0, two (pE l).2 (rE l a b)) : Int × Int) = C; generalize hP : (if two (pE l).2 (nE pen) = 0 then (pots l pen l.length, 0) else ([], two (pE l).2 (nE pen)) : List Int × Int) = P
 -- the segments and the potentials
 have h1 : Ev (fun k => Lw_CloudSegments.j1 k l pen S.1 S.2.1 S.2.2 P.1 P.2 (pE l).2 false) true := by
  refine Ev.succ ?_; simp only [Lw_CloudSegments.j1, Bool.false_eq_true, if_false, PenaltyErr_eq, both_eq, Option.bind_some]; rw [show (if (pE l).2 = 0 then nE pen else (pE l).2) = two (pE l).2 (nE pen) from rfl]
  by_cases h : two (pE l).2 (nE pen) = 0
  ·obtain ⟨_, ⟨l0, l1, hb⟩, hp⟩ := two_ok h; obtain ⟨d, rfl, hD⟩ := s1 h; rw [if_pos h] at hP; subst hP; obtain ⟨R, ⟨e, e1, e2⟩, hR⟩ := Segments_ev l pen hp hb l0 l1; obtain ⟨u1, u2⟩ := Best_uniq hD e2; subst u2; rw [← u1] at e1; simp only [h, if_true]; refine Ev.bind hR ?_; rw [e1]; have hbl := (Best_in hb l1 (by omega) (Nat.le_refl _) hD).2; simp only [if_true]; refine Ev.bind (Ints_ev (zs d) (by rw [zs_length]; omega)) ?_; simp only [if_true]; refine Ev.bind (Potentials_ev l pen hp hb l1) ?_; refine Ev.bind (Ints_ev (pots l pen l.length) (by rw [pots_length]; omega)) ?_; exact Ev.some
  ·rw [if_neg h] at hP; subst hP; rw [s2 h]; simp only [h, if_true, if_false, List.length_nil, show ((0 : Nat) : Int) = 0 from rfl, beq_self_eq_true]; exact Ev.some
 have h0 : ∀ d : Int, d = two (pE l).2 (rE l a b) → Ev (fun k => Lw_CloudSegments.j0 k l pen C.1 C.2 S.1 S.2.1 S.2.2 P.1 P.2 (pE l).2 d a b) true := by
  intro d hd; refine Ev.succ ?_; simp only [Lw_CloudSegments.j0]; rw [← hd] at hC
  by_cases h : d = 0
  ·rw [if_pos h] at hC; subst hC; simp only [h, if_true]; rw [h] at hd; have hk : (pE l).2 = 0 := by have := hd.symm; unfold two at this; split at this <;> assumption
   obtain ⟨l0, l1, hb⟩ := pE_ok hk; have hr : rE l a b = 0 := by have := hd.symm; unfold two at this; rw [if_pos hk] at this; exact this
   have hab : ((0 ≤ a ∧ a ≤ (l.length : Int) - 1) ∧ (0 ≤ b ∧ b ≤ (l.length : Int) - 1)) ∧ a ≤ b := by
    unfold rE at hr; split at hr
    ·split at hr
     ·exact ⟨by assumption, by assumption⟩
     ·omega
    ·omega
   obtain ⟨p, rfl⟩ : ∃ p : Nat, a = (p : Int) := ⟨a.toNat, by omega⟩; obtain ⟨q, rfl⟩ : ∃ q : Nat, b = (q : Int) := ⟨b.toNat, by omega⟩; refine Ev.bind (Cost_ev l hb l1 p q (by omega) (by omega)) ?_; rw [Int.toNat_natCast, Int.toNat_natCast, bne_self_eq_false]; exact h1
  ·rw [if_neg h] at hC; subst hC; simp only [h, if_true, if_false]; exact h1
 by_cases hk : (pE l).2 = 0
 ·simp only [hk, if_true] at h0 ⊢; refine Ev.bind (SegmentErr_ev l a b (by omega)) ?_; exact h0 _ (by unfold two; rw [if_pos rfl])
 ·simp only [hk, if_false]; exact h0 _ (by unfold two; rw [if_neg hk])
theorem CloudSegments_pure (l : List Int) (_ : l.length ≤ maxLen) (_ : ∀ x ∈ l, (Lit.int .i64 x).wf = true) (p : Int) (_ : (Lit.int .i64 p).wf = true) (a : Int) (_ : (Lit.int .i64 a).wf = true) (b : Int) (_ : (Lit.int .i64 b).wf = true) : ∃ k, Lw_CloudSegments.f k l p a b = some true := (CloudSegments_ev l p a b).ex
end Go.Proofs.Yteiafijbgjgiaaa.P
