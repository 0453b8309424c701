/-
PLAIN LAW: what the walks compute answers as the statement says (no program in sight; Ev: from some number of rounds on).
-/
import Derived.Test.YteiafijbgjgiaaaK02
namespace Go.Proofs.Yteiafijbgjgiaaa.P
open Go Go.RowKit Go.Proofs.Yteiafijbgjgiaaa.A Go.Proofs.YteiafijbgjgiaaaW.PrintWords Go.Proofs.YteiafijbgjgiaaaW.PrintLast Go.Proofs.YteiafijbgjgiaaaW.PrintMore
set_option linter.unusedSimpArgs false
set_option linter.unusedVariables false
def Ev {α : Type} (f : Nat → Option α) (r : α) : Prop := ∃ k, ∀ j, k ≤ j → f j = some r

theorem Ev.some {α : Type} {r : α} : Ev (fun _ => Option.some r) r := ⟨0, fun _ _ => rfl⟩
theorem Ev.bind {α β : Type} {f : Nat → Option α} {g : Nat → α → Option β} {a : α} {b : β} (h : Ev f a) (h2 : Ev (fun k => g k a) b) : Ev (fun k => (f k).bind (g k)) b := by
 obtain ⟨k, hk⟩ := h; obtain ⟨m, hm⟩ := h2; exact ⟨max k m, fun j hj => by show (f j).bind (g j) = _; rw [hk j (by omega)]; exact hm j (by omega)⟩
theorem Ev.succ {α : Type} {f : Nat → Option α} {r : α} (h : Ev (fun k => f (k + 1)) r) : Ev f r := by
 obtain ⟨k, hk⟩ := h; exact ⟨k + 1, fun j hj => by obtain ⟨m, rfl⟩ : ∃ m, j = m + 1 := ⟨j - 1, by omega⟩; exact hk m (by omega)⟩
theorem Ev.congr {α : Type} {f g : Nat → Option α} {r : α} (e : ∀ k, f k = g k) (h : Ev f r) : Ev g r := by
 obtain ⟨k, hk⟩ := h; exact ⟨k, fun j hj => by rw [← e j]; exact hk j hj⟩
theorem Ev.ex {α : Type} {f : Nat → Option α} {r : α} (h : Ev f r) : ∃ k, f k = Option.some r := let ⟨k, hk⟩ := h; ⟨k, hk k (Nat.le_refl _)⟩
theorem Ev.of_mono {α : Type} {f : Nat → Option α} {r : α} (hm : ∀ k, LeO (f k) (f (k + 1))) {k : Nat} (h : f k = Option.some r) : Ev f r := by
  refine ⟨k, fun j hj => ?_⟩
  induction j with
  | zero => obtain rfl : k = 0 := by omega
            exact h
  | succ j ih =>
    by_cases e : k = j + 1
    · subst e; exact h
    · exact hm j r (ih (by omega))
theorem up {i : Nat} (h : i < 4611686018427387904) : wrap64 ((i : Int) + 1) = ((i + 1 : Nat) : Int) := by
 unfold wrap64; omega
theorem w64 {n : Int} (h : -9223372036854775808 ≤ n ∧ n ≤ 9223372036854775807) : wrap64 n = n := by unfold wrap64; omega
theorem rd_nat (l : List Int) (i : Nat) : rd l (i : Int) = l.getD i 0 := by unfold rd; simp
theorem drop_rd {l : List Int} {i : Nat} (h : i < l.length) : l.drop i = rd l (i : Int) :: l.drop (i + 1) := by
 rw [rd_nat, List.drop_eq_getElem_cons h]
 simp [List.getD_eq_getElem?_getD, h]
theorem drop_getD {α : Type} {l : List α} {i : Nat} (z : α) (h : i < l.length) : l.drop i = l.getD i z :: l.drop (i + 1) := by
 rw [List.drop_eq_getElem_cons h]
 simp [List.getD_eq_getElem?_getD, h]

theorem within_eq (a b c : Int) : L_within.f a b c = some (decide (b ≤ a ∧ a ≤ c)) := by
 unfold L_within.f
 by_cases h : b ≤ a <;> simp [h]
theorem Within_eq (a b c : Int) : Bs_Within.f a b c = some (decide (b ≤ a ∧ a ≤ c)) := by
 unfold Bs_Within.f
 by_cases h : b ≤ a <;> simp [h]
theorem unless_eq (b : Bool) (e : Int) : L_unless.f b e = some (if b = true then 0 else e) := by
 unfold L_unless.f
 cases b <;> simp
def fnz : List Int → Int
 | [] => 0
 | x :: r => if x = 0 then fnz r else x

theorem first_l0 (l : List Int) (hl : l.length < 4611686018427387904) : ∀ (n i : Nat), i + n = l.length → Ev (fun k => L_first.l0 k l (l.length : Int) (i : Int)) (fnz (l.drop i))
 | 0, i, h => by
  refine Ev.succ (f := fun k => L_first.l0 k l (l.length : Int) (i : Int)) ?_; have h1 : ¬ (i : Int) < (l.length : Int) := by omega
  simp only [L_first.l0, h1, if_false]; rw [show l.drop i = [] from List.drop_eq_nil_of_le (by omega)]; exact Ev.some
 | n + 1, i, h => by
  refine Ev.succ (f := fun k => L_first.l0 k l (l.length : Int) (i : Int)) ?_; have h1 : (i : Int) < (l.length : Int) := by omega
  have h2 : (0 : Int) ≤ (i : Int) := by omega
  simp only [L_first.l0, h1, h2, if_true, up (show i < 4611686018427387904 by omega)]; rw [drop_rd (show i < l.length by omega)]; unfold fnz
  by_cases e : rd l (i : Int) = 0
  ·simp only [e, if_true]; exact first_l0 l hl n (i + 1) (by omega)
  ·simp only [e, if_false]; exact Ev.some
theorem first_ev (l : List Int) (hl : l.length < 4611686018427387904) : Ev (fun k => L_first.f k l) (fnz l) := first_l0 l hl l.length 0 (by omega)

theorem CopyInts_eq (l : List Int) (h : l.length < 4611686018427) : Bs_CopyInts.f l = some l := by
 unfold Bs_CopyInts.f; simp only [Option.bind_some, List.length_nil, List.nil_append]; rw [if_pos (by omega)]
def chk {α : Type} (p : α → Int) : List α → Nat → Int × Int
 | [], _ => (0, 0)
 | x :: r, i => if p x = 0 then chk p r (i + 1) else ((i : Int), p x)
theorem chk_all {α : Type} {p : α → Int} : ∀ {l : List α} {i : Nat}, (chk p l i).2 = 0 → ∀ x ∈ l, p x = 0
 | [], i, _ => by simp
 | y :: r, i, h => by
  unfold chk at h
  split at h <;> rename_i e
  ·intro x hx
   rcases List.mem_cons.mp hx with rfl | hx
   ·exact e
   ·exact chk_all h x hx
  ·exact absurd h e
theorem chk_loop {α : Type} (z : α) (p : α → Int) (l : List α) (hl : l.length < 4611686018427387904) (F : Nat → Int → Option (Int × Int))
  (h0 : ∀ k i, ¬ i < (l.length : Int) → F (k + 1) i = some (0, 0))
  (h1 : ∀ k (i : Nat), i < l.length → F (k + 1) (i : Int) = if p (l.getD i z) = 0 then F k (wrap64 ((i : Int) + 1)) else some ((i : Int), p (l.getD i z))) :
  ∀ (n i : Nat), i + n = l.length → Ev (fun k => F k (i : Int)) (chk p (l.drop i) i)
 | 0, i, h => by
  refine Ev.succ (f := fun k => F k (i : Int)) ?_; rw [show l.drop i = [] from List.drop_eq_nil_of_le (by omega)]; exact Ev.congr (fun k => (h0 k i (by omega)).symm) Ev.some
 | n + 1, i, h => by
  refine Ev.succ (f := fun k => F k (i : Int)) ?_; refine Ev.congr (fun k => (h1 k i (by omega)).symm) ?_; rw [drop_getD z (show i < l.length by omega)]; unfold chk
  by_cases e : p (l.getD i z) = 0
  ·simp only [e, if_true, up (show i < 4611686018427387904 by omega)]; exact chk_loop z p l hl F h0 h1 n (i + 1) (by omega)
  ·simp only [e, if_false]; exact Ev.some
theorem awake_ev : Ev (fun k => Lw_awake.f k) true :=
 Ev.of_mono (k := 1500) (fun k => Lw_awake.mono k) (by kernel_rfl)
def hE (x : Int) : Int := if 0 ≤ x ∧ x ≤ 20000 then 0 else 2
def mE (l : List Int) : Int := if l.length = 0 then 10 else if 15 < l.length then 8 else (chk hE l 0).2
def mid (l : List Int) : Int := (isort l).getD ((l.length - 1) / 2) 0
theorem isHeight_eq (a : Int) : L_isHeight.f a = some (decide (0 ≤ a ∧ a ≤ 20000)) := by
 unfold L_isHeight.f; rw [within_eq]; rfl
theorem MiddleOf_1_eq (a : Int) : L_MiddleOf_1.f a = some (hE a) := by
 unfold L_MiddleOf_1.f hE; simp only [isHeight_eq, unless_eq, Option.bind_some, decide_eq_true_eq]
theorem isort_length (l : List Int) : (isort l).length = l.length := (isort_perm l).length_eq
theorem half_eq {n : Nat} (h : 0 < n) (h2 : n < 1000) : wrap64 (Int.tdiv (wrap64 ((n : Int) - 1)) 2) = (((n - 1) / 2 : Nat) : Int) := by
 rw [w64 (n := (n : Int) - 1) (by omega), Int.tdiv_eq_ediv_of_nonneg (by omega), w64 (by omega)]; omega
theorem MiddleOf_ev (l : List Int) (hl : l.length < 4611686018427387904) : Ev (fun k => L_MiddleOf.f k l) (if mE l = 0 then (mid l, 0) else (0, mE l)) := by
 unfold L_MiddleOf.f; simp only [unless_eq, Option.bind_some]; refine Ev.bind (first_ev _ (by simp)) ?_; unfold mE
 by_cases h1 : l.length = 0
 ·simp only [h1, show ¬ ((0 : Nat) : Int) > 0 by omega, decide_false, fnz]; exact Ev.some
 ·by_cases h2 : 15 < l.length
  ·simp only [h1, h2, show (l.length : Int) > 0 by omega, show ¬ (l.length : Int) ≤ 15 by omega, decide_false, decide_true, fnz, if_true, if_false]; exact Ev.some
  ·simp only [h1, h2, show (l.length : Int) > 0 by omega, show (l.length : Int) ≤ 15 by omega, decide_true, fnz, if_true, if_false]; refine Ev.bind (a := chk hE l 0) ?_ ?_
   ·refine chk_loop 0 hE l hl (fun k i => L_each_int_MiddleOf_1.l0 k l (l.length : Int) i) (fun k i h => ?_) (fun k i h => ?_) l.length 0 (by omega)
    ·simp only [L_each_int_MiddleOf_1.l0, h, if_false]
    ·simp only [L_each_int_MiddleOf_1.l0, show (i : Int) < (l.length : Int) by omega, show (0 : Int) ≤ (i : Int) by omega, if_true, MiddleOf_1_eq, Option.bind_some, rd_nat]
   ·by_cases e : (chk hE l 0).2 = 0
    ·simp only [e, if_true, L_sorted_ints.f, slices_Sort_int_int.f, show l.length < 17592186044416 by omega, show l.length < 4611686018427387904 by omega, Option.bind_some, half_eq (show 0 < l.length by omega) (by omega), isort_length, show (0 : Int) ≤ (((l.length - 1) / 2 : Nat) : Int) by omega, show (((l.length - 1) / 2 : Nat) : Int) < (l.length : Int) by omega, rd_nat]; exact Ev.some
    ·simp only [e, if_false]; exact Ev.some
theorem HeightsErr_l0 (l : List Int) (hl : l.length < 4611686018427387904) : ∀ (n i : Nat), i + n = l.length → Ev (fun k => Rf_HeightsErr.l0 k l (i : Int)) (chk hE (l.drop i) i).2
 | 0, i, h => by
  refine Ev.succ ?_; simp only [Rf_HeightsErr.l0, show ¬ (i : Int) < (l.length : Int) by omega, if_false]; rw [show l.drop i = [] from List.drop_eq_nil_of_le (by omega)]; exact Ev.some
 | n + 1, i, h => by
  refine Ev.succ ?_; rw [drop_rd (show i < l.length by omega)]; simp only [Rf_HeightsErr.l0, show (i : Int) < (l.length : Int) by omega, show (0 : Int) ≤ (i : Int) by omega, if_true, up (show i < 4611686018427387904 by omega), Within_eq, Option.bind_some, decide_eq_true_eq]; unfold chk hE
  by_cases e : 0 ≤ rd l (i : Int) ∧ rd l (i : Int) ≤ 20000
  ·simp only [e, and_self, if_true]; exact HeightsErr_l0 l hl n (i + 1) (by omega)
  ·simp only [e, if_false, show ¬ (2 : Int) = 0 by omega]; exact Ev.some
theorem HeightsErr_ev (l : List Int) (hl : l.length < 4611686018427387904) : Ev (fun k => Rf_HeightsErr.f k l) (mE l) := by
 unfold Rf_HeightsErr.f mE
 by_cases h1 : l.length = 0
 ·simp only [h1]; exact Ev.some
 ·by_cases h2 : 15 < l.length
  ·simp only [h1, h2, show ¬ (l.length : Int) = 0 by omega, show (l.length : Int) > 15 by omega, if_true, if_false]; exact Ev.some
  ·simp only [h1, h2, show ¬ (l.length : Int) = 0 by omega, show ¬ (l.length : Int) > 15 by omega, if_false]; have := HeightsErr_l0 l hl l.length 0 (by omega); rw [List.drop_zero] at this; exact this
def cl (l : List Int) (v : Int) : Nat := l.countP (fun x => decide (x < v))
theorem cl_append (a b : List Int) (v : Int) : cl (a ++ b) v = cl a v + cl b v := List.countP_append
theorem cl_le (a : List Int) (v : Int) : cl a v ≤ a.length := List.countP_le_length
theorem cl_perm {a b : List Int} (h : a.Perm b) (v : Int) : cl a v = cl b v := h.countP_eq _
theorem cl_all {a : List Int} {v : Int} (h : ∀ x ∈ a, x < v) : cl a v = a.length := List.countP_eq_length.mpr (fun x hx => decide_eq_true (h x hx))
theorem cl_none {a : List Int} {v : Int} (h : ∀ x ∈ a, v ≤ x) : cl a v = 0 := List.countP_eq_zero.mpr (fun x hx => by have := h x hx; simp; omega)
theorem sorted_take {S : List Int} (hs : S.Pairwise (fun a b => a ≤ b)) {i : Nat} (hi : i < S.length) : (∀ x ∈ S.take (i + 1), x ≤ S.getD i 0) ∧ (∀ x ∈ S.drop i, S.getD i 0 ≤ x) := by
 have e : S = S.take i ++ (S.getD i 0 :: S.drop (i + 1)) := by rw [← drop_getD 0 hi, List.take_append_drop]
 rw [e] at hs; obtain ⟨_, h2, h3⟩ := List.pairwise_append.mp hs; obtain ⟨h4, _⟩ := List.pairwise_cons.mp h2
 constructor
 ·intro x hx; rw [List.take_add_one] at hx
  rcases List.mem_append.mp hx with hx | hx
  ·exact h3 x hx _ List.mem_cons_self
  ·rw [show S[i]? = some (S.getD i 0) by simp [List.getD_eq_getElem?_getD, hi]] at hx
   simp at hx; rw [hx]; simp
 ·intro x hx; rw [drop_getD 0 hi] at hx
  rcases List.mem_cons.mp hx with rfl | hx
  ·exact Int.le_refl _
  ·exact h4 x hx
theorem rank_lt {S : List Int} (hs : S.Pairwise (fun a b => a ≤ b)) {i : Nat} (hi : i < S.length) {v : Int} (h : S.getD i 0 < v) : i + 1 ≤ cl S v := by
 have h1 := (sorted_take hs hi).1; have h2 : cl (S.take (i + 1)) v = i + 1 := by
  rw [cl_all (fun x hx => by have := h1 x hx; omega), List.length_take]; omega
 have h3 := cl_append (S.take (i + 1)) (S.drop (i + 1)) v; rw [List.take_append_drop] at h3
 omega
theorem rank_ge {S : List Int} (hs : S.Pairwise (fun a b => a ≤ b)) {i : Nat} (hi : i < S.length) {v : Int} (h : v ≤ S.getD i 0) : cl S v ≤ i := by
 have h1 := (sorted_take hs hi).2; have h2 : cl (S.drop i) v = 0 := cl_none (fun x hx => by have := h1 x hx; omega); have h3 := cl_append (S.take i) (S.drop i) v; rw [List.take_append_drop] at h3; have h4 := cl_le (S.take i) v; rw [List.length_take] at h4
 omega
theorem rank_iff {S : List Int} (hs : S.Pairwise (fun a b => a ≤ b)) {i : Nat} (hi : i < S.length) (v : Int) : (cl S v ≤ i ∧ i < cl S (v + 1)) ↔ S.getD i 0 = v := by
 constructor
 ·rintro ⟨h1, h2⟩
  apply Int.le_antisymm
  ·apply Int.le_of_not_gt; intro h
   have := rank_ge hs hi (v := v + 1) (by omega)
   omega
  ·apply Int.le_of_not_gt; intro h
   have := rank_lt hs hi (v := v) (by omega)
   omega
 ·intro h; exact ⟨rank_ge hs hi (by omega), by have := rank_lt hs hi (v := v + 1) (by omega); omega⟩
def ce (l : List Int) (v : Int) : Nat := l.countP (fun x => decide (x = v))
theorem cl_cons (x : Int) (r : List Int) (v : Int) : cl (x :: r) v = cl r v + (if x < v then 1 else 0) := by
 unfold cl; rw [List.countP_cons]; simp
theorem ce_cons (x : Int) (r : List Int) (v : Int) : ce (x :: r) v = ce r v + (if x = v then 1 else 0) := by
 unfold ce; rw [List.countP_cons]; simp
theorem cl_succ (l : List Int) (v : Int) : cl l (v + 1) = cl l v + ce l v := by
 induction l with
 | nil => rfl
 | cons x r ih =>
  rw [cl_cons, cl_cons, ce_cons, ih]
  split <;> split <;> split <;> omega
theorem Middle_l1 (l : List Int) (h0 : 0 < l.length) (hl : l.length ≤ 15) (i : Nat) (hi : i < l.length) (R : Int)
  (hR1 : cl l (rd l (i : Int)) ≤ (l.length - 1) / 2 ∧ (l.length - 1) / 2 < cl l (rd l (i : Int)) + ce l (rd l (i : Int)) → R = rd l (i : Int))
  (hR2 : ¬ (cl l (rd l (i : Int)) ≤ (l.length - 1) / 2 ∧ (l.length - 1) / 2 < cl l (rd l (i : Int)) + ce l (rd l (i : Int))) → Ev (fun k => Rf_Middle.l0 k l ((i + 1 : Nat) : Int)) R) :
  ∀ (n j a b : Nat), j + n = l.length → a + cl (l.drop j) (rd l (i : Int)) = cl l (rd l (i : Int)) → b + ce (l.drop j) (rd l (i : Int)) = ce l (rd l (i : Int)) → a ≤ j → b ≤ j →
  Ev (fun k => Rf_Middle.l1 k l (i : Int) (a : Int) (b : Int) (j : Int)) R
 | 0, j, a, b, h, ha, hb, haj, hbj => by
  refine Ev.succ ?_; rw [show l.drop j = [] from List.drop_eq_nil_of_le (by omega)] at ha hb; have ha' : a = cl l (rd l (i : Int)) := by rw [← ha]; rfl
  have hb' : b = ce l (rd l (i : Int)) := by rw [← hb]; rfl
  simp only [Rf_Middle.l1, show ¬ (j : Int) < (l.length : Int) by omega, if_false, half_eq h0 (by omega), up (show i < 4611686018427387904 by omega), show (0 : Int) ≤ (i : Int) by omega, show (i : Int) < (l.length : Int) by omega, if_true]; rw [w64 (n := (a : Int) + (b : Int)) (by omega)]; rw [← ha', ← hb'] at hR1 hR2
  by_cases h1 : (a : Int) ≤ (((l.length - 1) / 2 : Nat) : Int)
  ·by_cases h2 : (((l.length - 1) / 2 : Nat) : Int) < (a : Int) + (b : Int)
   ·simp only [h1, h2, if_true]; rw [hR1 ⟨by omega, by omega⟩]; exact Ev.some
   ·simp only [h1, h2, if_true, if_false]; exact hR2 (by omega)
  ·simp only [h1, if_false]; exact hR2 (by omega)
 | n + 1, j, a, b, h, ha, hb, haj, hbj => by
  refine Ev.succ ?_; rw [drop_rd (show j < l.length by omega)] at ha hb; rw [cl_cons] at ha; rw [ce_cons] at hb; have ih := Middle_l1 l h0 hl i hi R hR1 hR2 n (j + 1); simp only [Rf_Middle.l1, show (j : Int) < (l.length : Int) by omega, show (0 : Int) ≤ (j : Int) by omega, show (0 : Int) ≤ (i : Int) by omega, show (i : Int) < (l.length : Int) by omega, if_true, up (show j < 4611686018427387904 by omega), up (show a < 4611686018427387904 by omega), up (show b < 4611686018427387904 by omega)]
  by_cases h1 : rd l (j : Int) < rd l (i : Int)
  ·have h2 : ¬ rd l (j : Int) = rd l (i : Int) := by omega
   simp only [h1, h2, if_true, if_false] at ha hb ⊢; exact ih (a + 1) b (by omega) (by omega) (by omega) (by omega) (by omega)
  ·by_cases h2 : rd l (j : Int) = rd l (i : Int)
   ·simp only [h1, h2, if_true, if_false] at ha hb ⊢; simp only [show ¬ rd l (i : Int) < rd l (i : Int) by omega, if_false] at ha ⊢; exact ih a (b + 1) (by omega) (by omega) (by omega) (by omega) (by omega)
   ·simp only [h1, h2, if_true, if_false] at ha hb ⊢; exact ih a b (by omega) (by omega) (by omega) (by omega) (by omega)
theorem Middle_l0' (l : List Int) (h0 : 0 < l.length) (hl : l.length ≤ 15) : ∀ (n i : Nat), i + n = l.length → (∃ j, i ≤ j ∧ j < l.length ∧ rd l (j : Int) = mid l) → Ev (fun k => Rf_Middle.l0 k l (i : Int)) (mid l)
 | 0, i, h, ⟨j, h1, h2, _⟩ => by omega
 | n + 1, i, h, ⟨j, h1, h2, h3⟩ => by
  refine Ev.succ ?_; simp only [Rf_Middle.l0, show (i : Int) < (l.length : Int) by omega, if_true]; have hrank := rank_iff (isort_sorted l) (i := (l.length - 1) / 2) (by rw [isort_length]; omega) (rd l (i : Int)); rw [cl_perm (isort_perm l), cl_perm (isort_perm l), cl_succ] at hrank; have := Middle_l1 l h0 hl i (by omega) (mid l) (fun hc => hrank.mp hc) (fun hc => ?_) l.length 0 0 0 (by omega) (by simp) (by simp) (by omega) (by omega)
  ·exact this
  ·refine Middle_l0' l h0 hl n (i + 1) (by omega) ⟨j, ?_, h2, h3⟩
   by_cases e : i = j
   ·subst e; exact absurd (hrank.mpr h3.symm) hc
   ·omega
theorem Middle_ev (l : List Int) (h : mE l = 0) : Ev (fun k => Rf_Middle.f k l) (mid l) := by
 have h1 : 0 < l.length ∧ l.length ≤ 15 := by
  unfold mE at h
  split at h
  ·exact absurd h (by simp)
  split at h
  ·exact absurd h (by simp)
  omega
 have hm : mid l ∈ l := by
  have : mid l ∈ isort l := by
   unfold mid; have hi : (l.length - 1) / 2 < (isort l).length := by rw [isort_length]; omega
   simp [List.getD_eq_getElem?_getD, hi]
  exact (isort_perm l).mem_iff.mp this
 obtain ⟨j, hj, e⟩ := List.getElem_of_mem hm; have := Middle_l0' l h1.1 h1.2 l.length 0 (by omega) ⟨j, by omega, hj, by rw [rd_nat]; simp [List.getD_eq_getElem?_getD, hj, e]⟩; exact this

theorem chk_loopE {α : Type} (z : α) (p : α → Int) (g : Nat → α → Option Int) (hg : ∀ x, Ev (fun k => g k x) (p x)) (l : List α) (hl : l.length < 4611686018427387904) (F : Nat → Int → Option (Int × Int))
  (h0 : ∀ k i, ¬ i < (l.length : Int) → F (k + 1) i = some (0, 0))
  (h1 : ∀ k (i : Nat), i < l.length → F (k + 1) (i : Int) = (g k (l.getD i z)).bind fun e => if e = 0 then F k (wrap64 ((i : Int) + 1)) else some ((i : Int), e)) :
  ∀ (n i : Nat), i + n = l.length → Ev (fun k => F k (i : Int)) (chk p (l.drop i) i)
 | 0, i, h => by
  refine Ev.succ ?_; rw [show l.drop i = [] from List.drop_eq_nil_of_le (by omega)]; exact Ev.congr (fun k => (h0 k i (by omega)).symm) Ev.some
 | n + 1, i, h => by
  refine Ev.succ ?_; refine Ev.congr (fun k => (h1 k i (by omega)).symm) ?_; rw [drop_getD z (show i < l.length by omega)]; refine Ev.bind (hg _) ?_; unfold chk
  by_cases e : p (l.getD i z) = 0
  ·simp only [e, if_true, up (show i < 4611686018427387904 by omega)]; exact chk_loopE z p g hg l hl F h0 h1 n (i + 1) (by omega)
  ·simp only [e, if_false]; exact Ev.some
theorem rd112_drop {l : List S112} {i : Nat} (h : i < l.length) : l.drop i = rd_T112 l (i : Int) :: l.drop (i + 1) := by
 unfold rd_T112; exact drop_getD z112 h
theorem rd112_getD (l : List S112) (i : Nat) : rd_T112 l (i : Int) = l.getD i z112 := by unfold rd_T112; simp
def lE (y : S112) : Int := if (0 ≤ y.f0 ∧ y.f0 ≤ 20000) ∧ (0 ≤ y.f1 ∧ y.f1 ≤ 20000) ∧ (0 ≤ y.f2 ∧ y.f2 ≤ 8) then (if y.f0 < y.f1 then 0 else 9) else 2
def laE (l : List S112) : Int × Int := if 10 < l.length then (0, 8) else chk lE l 0
theorem fnz_two (a b : Int) : fnz [a, b] = if a = 0 then b else a := by
 unfold fnz fnz
 split
 ·split <;> rename_i h
  ·rw [h]; rfl
  ·rfl
 ·rfl
theorem CheckLayers_1_ev (y : S112) : Ev (fun k => L_CheckLayers_1.f k y.f0 y.f1 y.f2) (lE y) := by
 unfold L_CheckLayers_1.f lE; simp only [isHeight_eq, within_eq, Option.bind_some, unless_eq, decide_eq_true_eq]
 by_cases h1 : 0 ≤ y.f0 ∧ y.f0 ≤ 20000
 ·by_cases h2 : 0 ≤ y.f1 ∧ y.f1 ≤ 20000
  ·by_cases h3 : 0 ≤ y.f2 ∧ y.f2 ≤ 8
   ·by_cases h4 : y.f0 < y.f1
    ·simp only [h1, h2, h3, h4, and_self, if_true]; exact Ev.bind (first_ev _ (by simp)) Ev.some
    ·simp only [h1, h2, h3, h4, and_self, if_true, if_false]; exact Ev.bind (first_ev _ (by simp)) Ev.some
   ·simp only [h1, h2, h3, and_self, and_false, if_true, if_false]; exact Ev.bind (first_ev _ (by simp)) Ev.some
  ·simp only [h1, h2, and_self, and_false, false_and, if_true, if_false, Bool.false_eq_true]; exact Ev.bind (first_ev _ (by simp)) Ev.some
 ·simp only [h1, false_and, if_false, Bool.false_eq_true]; exact Ev.bind (first_ev _ (by simp)) Ev.some
theorem CheckLayers_ev (l : List S112) (hl : l.length < 4611686018427387904) : Ev (fun k => L_CheckLayers.f k l) (laE l) := by
 unfold L_CheckLayers.f laE
 by_cases h2 : 10 < l.length
 ·simp only [h2, show (l.length : Int) > 10 by omega, if_true]; exact Ev.some
 ·simp only [h2, show ¬ (l.length : Int) > 10 by omega, if_false]; refine Ev.bind (a := chk lE l 0) ?_ Ev.some; refine chk_loopE z112 lE (fun k y => L_CheckLayers_1.f k y.f0 y.f1 y.f2) CheckLayers_1_ev l hl (fun k i => api_CloudLayer_CheckLayers_1.l0 k l (l.length : Int) i) (fun k i h => ?_) (fun k i h => ?_) l.length 0 (by omega)
  ·simp only [api_CloudLayer_CheckLayers_1.l0, h, if_false]
  ·simp only [api_CloudLayer_CheckLayers_1.l0, show (i : Int) < (l.length : Int) by omega, show (0 : Int) ≤ (i : Int) by omega, if_true, rd112_getD]
theorem RefCheckLayers_ev (l : List S112) (hl : l.length < 4611686018427387904) : Ev (fun k => Rf_CheckLayers.f k l) (laE l) := by
  unfold Rf_CheckLayers.f laE
  by_cases h2 : 10 < l.length
  · simp only [h2, show (l.length : Int) > 10 by omega, if_true]; exact Ev.some
  · simp only [h2, show ¬ (l.length : Int) > 10 by omega, if_false]; have key : ∀ (n i : Nat), i + n = l.length → Ev (fun k => Rf_CheckLayers.l0 k l (i : Int)) (chk lE (l.drop i) i) := by
      intro n
      induction n with
      | zero =>
        intro i h; refine Ev.succ ?_; simp only [Rf_CheckLayers.l0, show ¬ (i : Int) < (l.length : Int) by omega, if_false]; rw [show l.drop i = [] from List.drop_eq_nil_of_le (by omega)]; exact Ev.some
      | succ n ih =>
        intro i h; refine Ev.succ ?_; have ih := ih (i + 1) (by omega); rw [rd112_drop (show i < l.length by omega)]; simp only [Rf_CheckLayers.l0, show (i : Int) < (l.length : Int) by omega, show (0 : Int) ≤ (i : Int) by omega, if_true, Within_eq, Option.bind_some, decide_eq_true_eq]; have hj : ∀ b : Bool, Ev (fun k => Rf_CheckLayers.j1 k l (i : Int) b) (if b = true then ((i : Int), 2) else if (rd_T112 l (i : Int)).f0 < (rd_T112 l (i : Int)).f1 then chk lE (l.drop (i + 1)) (i + 1) else ((i : Int), 9)) := by
          intro b; refine Ev.succ ?_
          cases b with
          | true => simp only [Rf_CheckLayers.j1, if_true]; exact Ev.some
          | false =>
            simp only [Rf_CheckLayers.j1, Bool.false_eq_true, if_false, show (i : Int) < (l.length : Int) by omega, show (0 : Int) ≤ (i : Int) by omega, if_true, up (show i < 4611686018427387904 by omega)]
            by_cases h3 : (rd_T112 l (i : Int)).f0 < (rd_T112 l (i : Int)).f1
            · simp only [h3, show ¬ (rd_T112 l (i : Int)).f0 ≥ (rd_T112 l (i : Int)).f1 by omega, if_true, if_false]; exact ih
            · simp only [h3, show (rd_T112 l (i : Int)).f0 ≥ (rd_T112 l (i : Int)).f1 by omega, if_true, if_false]; exact Ev.some
        generalize rd_T112 l (i : Int) = y at hj ⊢; have ht := hj true; simp only [if_true] at ht; unfold chk lE
        by_cases h5 : 0 ≤ y.f0 ∧ y.f0 ≤ 20000
        · by_cases h6 : 0 ≤ y.f1 ∧ y.f1 ≤ 20000
          · by_cases h7 : 0 ≤ y.f2 ∧ y.f2 ≤ 8
            · have hf := hj false; simp only [h5, h6, h7, and_self, if_true, decide_true, Bool.not_true, Bool.false_eq_true, if_false] at hf ⊢
              by_cases h3 : y.f0 < y.f1
              · rw [if_pos h3] at hf; simp only [h3, if_true]; exact hf
              · rw [if_neg h3] at hf; simp only [h3, if_false, show ¬ (9 : Int) = 0 by omega]; exact hf
            · simp only [h5, h6, h7, and_self, and_false, if_true, if_false, decide_false, Bool.not_false, show ¬ (2 : Int) = 0 by omega]; exact ht
          · simp only [h5, h6, and_self, and_false, false_and, if_true, if_false, show ¬ (2 : Int) = 0 by omega]; exact ht
        · simp only [h5, false_and, if_false, show ¬ (2 : Int) = 0 by omega]; exact ht
    exact key l.length 0 (by omega)
theorem laE_ok {l : List S112} (h : (laE l).2 = 0) : l.length ≤ 10 ∧ ∀ y ∈ l, 0 ≤ y.f2 ∧ y.f2 ≤ 8 := by
 unfold laE at h
 split at h
 ·exact absurd h (by simp)
 refine ⟨by omega, fun y hy => ?_⟩; have := chk_all h y hy; unfold lE at this
 split at this
 ·rename_i hh; exact hh.2.2
 ·exact absurd this (by decide)

theorem Compare_eq (a b : Int) : cmp_Compare_int.f a b = some (if a < b then -1 else if a > b then 1 else 0) := by
 unfold cmp_Compare_int.f cmp_isNaN_int.f; simp only [bne_self_eq_false, Option.bind_some, Bool.false_eq_true, if_false]
 split
 ·rfl
 ·split <;> rfl
theorem less_eq (a b c d e f : Int) : L_CeilingOf_1.f a b c d e f = some (if a < d then -1 else if a > d then 1 else 0) := by
 unfold L_CeilingOf_1.f; rw [Compare_eq]; rfl
def kb (x : List S112) (p : Nat) : Int := (x.getD p z112).f0
def swp (x : List S112) (j : Nat) : List S112 := (x.set (j + 1) (x.getD j z112)).set j (x.getD (j + 1) z112)
theorem swp_length (x : List S112) (j : Nat) : (swp x j).length = x.length := by unfold swp; simp
theorem swp_perm {x : List S112} {j : Nat} (h : j + 1 < x.length) : (swp x j).Perm x := by
 unfold swp; rw [show x.getD j z112 = x[j] by simp [List.getD_eq_getElem?_getD, show j < x.length by omega], show x.getD (j + 1) z112 = x[j + 1] by simp [List.getD_eq_getElem?_getD, h]]; exact List.set_set_perm h (by omega)
theorem kb_swp {x : List S112} {j : Nat} (h : j + 1 < x.length) (p : Nat) : kb (swp x j) p = if p = j then kb x (j + 1) else if p = j + 1 then kb x j else kb x p := by
 unfold kb swp; simp only [List.getD_eq_getElem?_getD, List.getElem?_set, List.length_set]
 by_cases h1 : p = j
 ·subst h1; simp [show p < x.length by omega]
 ·by_cases h2 : p = j + 1
  ·subst h2; simp [h]
  ·simp [h1, h2, Ne.symm h1, Ne.symm h2]
def srt (x : List S112) (i j : Nat) : Prop := ∀ p q, p < q → q ≤ i → q ≠ j → kb x p ≤ kb x q
theorem Ins_l1 (N : Nat) (hN : N < 1000) (i : Nat) (hi : i < N) (l : List S112) (P : List S112 → Prop)
  (hP : ∀ x : List S112, x.length = N → x.Perm l → (∀ p q, p < q → q ≤ i → kb x p ≤ kb x q) → ∃ r, P r ∧ Ev (fun k => api_CloudLayer_CeilingOf_1_175.l0 k x 0 (N : Int) ((i + 1 : Nat) : Int)) r) :
  ∀ (j : Nat) (x : List S112), j ≤ i → x.length = N → x.Perm l → srt x i j → ∃ r, P r ∧ Ev (fun k => api_CloudLayer_CeilingOf_1_175.l1 k x 0 (N : Int) (i : Int) (j : Int)) r
 | 0, x, hj, hx, hp, hs => by
  obtain ⟨r, h1, h2⟩ := hP x hx hp (fun p q a b => hs p q a b (by omega)); refine ⟨r, h1, Ev.succ ?_⟩; simp only [api_CloudLayer_CeilingOf_1_175.l1, show ¬ ((0 : Nat) : Int) > 0 by omega, if_false, up (show i < 4611686018427387904 by omega)]; exact h2
 | j + 1, x, hj, hx, hp, hs => by
  have e1 : wrap64 (((j + 1 : Nat) : Int) - 1) = (j : Int) := by rw [w64 (by omega)]; omega
  have e2 : (rd_T112 x ((j + 1 : Nat) : Int)).f0 = kb x (j + 1) := by rw [rd112_getD]; rfl
  have e3 : (rd_T112 x (j : Int)).f0 = kb x j := by rw [rd112_getD]; rfl
  by_cases hlt : kb x (j + 1) < kb x j
  ·have hs' : srt (swp x j) i j := by
    intro p q h1 h2 h3; have a1 := hs p q h1 h2; rw [kb_swp (by omega), kb_swp (by omega)]
    by_cases c1 : q = j + 1
    ·subst c1; rw [if_neg (show ¬ j + 1 = j by omega), if_pos rfl]
     by_cases c2 : p = j
     ·rw [if_pos c2]; omega
     ·rw [if_neg c2, if_neg (by omega)]; exact hs p j (by omega) (by omega) (by omega)
    ·rw [if_neg h3, if_neg c1]
     by_cases c2 : p = j
     ·rw [if_pos c2]; exact hs (j + 1) q (by omega) h2 c1
     ·by_cases c3 : p = j + 1
      ·rw [if_neg c2, if_pos c3]; exact hs j q (by omega) h2 c1
      ·rw [if_neg c2, if_neg c3]; exact a1 c1
   obtain ⟨r, h1, h2⟩ := Ins_l1 N hN i hi l P hP j (swp x j) (by omega) (by rw [swp_length]; exact hx) ((swp_perm (by omega)).trans hp) hs'; refine ⟨r, h1, Ev.succ ?_⟩; simp only [api_CloudLayer_CeilingOf_1_175.l1, show ((j + 1 : Nat) : Int) > 0 by omega, show (0 : Int) ≤ ((j + 1 : Nat) : Int) by omega, show ((j + 1 : Nat) : Int) < (x.length : Int) by omega, if_true, e1, show (0 : Int) ≤ (j : Int) by omega, show (j : Int) < (x.length : Int) by omega, less_eq, Option.bind_some, e2, e3, hlt, show (-1 : Int) < 0 by omega]; have e4 : ((x.set (((j + 1 : Nat) : Int)).toNat (⟨kb x j, (rd_T112 x (j : Int)).f1, (rd_T112 x (j : Int)).f2⟩ : S112)).set ((j : Int)).toNat (⟨kb x (j + 1), (rd_T112 x ((j + 1 : Nat) : Int)).f1, (rd_T112 x ((j + 1 : Nat) : Int)).f2⟩ : S112)) = swp x j := by
    unfold swp kb; rw [Int.toNat_natCast, Int.toNat_natCast, rd112_getD, rd112_getD]
   rw [e4]; exact h2
  ·obtain ⟨r, h1, h2⟩ := hP x hx hp (fun p q a b => by
    by_cases c : q = j + 1
    ·subst c
     by_cases c2 : p = j
     ·subst c2; omega
     ·have := hs p j (by omega) (by omega) (by omega); omega
    ·exact hs p q a b c)
   refine ⟨r, h1, Ev.succ ?_⟩; have e5 : ¬ (if kb x (j + 1) < kb x j then (-1 : Int) else if kb x (j + 1) > kb x j then 1 else 0) < 0 := by
    rw [if_neg hlt]; split <;> omega
   simp only [api_CloudLayer_CeilingOf_1_175.l1, show ((j + 1 : Nat) : Int) > 0 by omega, show (0 : Int) ≤ ((j + 1 : Nat) : Int) by omega, show ((j + 1 : Nat) : Int) < (x.length : Int) by omega, if_true, e1, show (0 : Int) ≤ (j : Int) by omega, show (j : Int) < (x.length : Int) by omega, less_eq, Option.bind_some, e2, e3, e5, if_false, up (show i < 4611686018427387904 by omega)]; exact h2
theorem Ins_l0 (N : Nat) (hN : N < 1000) (l : List S112) : ∀ (n i : Nat) (x : List S112), i + n = N ∨ N ≤ i ∧ n = 0 → x.length = N → x.Perm l → (∀ p q, p < q → q < i → q < N → kb x p ≤ kb x q) →
  ∃ r : List S112, (r.Perm l ∧ ∀ p q, p < q → q < N → kb r p ≤ kb r q) ∧ Ev (fun k => api_CloudLayer_CeilingOf_1_175.l0 k x 0 (N : Int) (i : Int)) r
 | 0, i, x, h, hx, hp, hs => by
  refine ⟨x, ⟨hp, fun p q a b => hs p q a (by omega) b⟩, Ev.succ ?_⟩; simp only [api_CloudLayer_CeilingOf_1_175.l0, show ¬ (i : Int) < (N : Int) by omega, if_false]; exact Ev.some
 | n + 1, i, x, h, hx, hp, hs => by
  obtain ⟨r, h1, h2⟩ := Ins_l1 N hN i (by omega) l (fun r => r.Perm l ∧ ∀ p q, p < q → q < N → kb r p ≤ kb r q)
   (fun y hy hyp hys => Ins_l0 N hN l n (i + 1) y (by omega) hy hyp (fun p q a b c => hys p q a (by omega))) i x (Nat.le_refl _) hx hp (fun p q a b c => hs p q a (by omega) (by omega))
  refine ⟨r, h1, Ev.succ ?_⟩; simp only [api_CloudLayer_CeilingOf_1_175.l0, show (i : Int) < (N : Int) by omega, if_true]; exact h2
theorem sorted_layers_ev (l : List S112) (hl : l.length ≤ 10) : ∃ r : List S112, (r.Perm l ∧ ∀ p q, p < q → q < l.length → kb r p ≤ kb r q) ∧ Ev (fun k => L_sorted_layers.f k l) r := by
 obtain ⟨r, h1, h2⟩ := Ins_l0 l.length (by omega) l (l.length - 1) 1 l (by omega) rfl (List.Perm.refl _) (fun p q a b c => by omega); refine ⟨r, h1, ?_⟩; unfold L_sorted_layers.f api_CloudLayer_CeilingOf_1_177.f api_CloudLayer_CeilingOf_1_176.f; simp only [show l.length < 5864062014805 by omega, if_true]; refine Ev.bind (a := r) ?_ Ev.some; refine Ev.succ ?_; simp only [api_CloudLayer_CeilingOf_1_176.l0, show ¬ (20 : Int) ≤ (l.length : Int) by omega, if_false]; refine Ev.bind (a := r) ?_ ?_
 ·unfold api_CloudLayer_CeilingOf_1_175.f; rw [show wrap64 ((0 : Int) + 1) = ((1 : Nat) : Int) by rw [w64 (by omega)]; rfl]; exact h2
 ·refine Ev.succ ?_; simp only [api_CloudLayer_CeilingOf_1_176.l1, show ¬ (20 : Int) < (l.length : Int) by omega, if_false]; exact Ev.some

def W8 (b : Int) : List S112 → Int
 | [] => 0
 | y :: r => (if y.f0 ≤ b then y.f2 else 0) + W8 b r
def s8 : List S112 → Int
 | [] => 0
 | y :: r => y.f2 + s8 r
theorem W8_append (b : Int) (x y : List S112) : W8 b (x ++ y) = W8 b x + W8 b y := by
  induction x with
  | nil => simp [W8]
  | cons u r ih => simp only [List.cons_append, W8, ih]; omega
theorem s8_append (x y : List S112) : s8 (x ++ y) = s8 x + s8 y := by
  induction x with
  | nil => simp [s8]
  | cons u r ih => simp only [List.cons_append, s8, ih]; omega
theorem W8_perm (b : Int) {x y : List S112} (h : x.Perm y) : W8 b x = W8 b y := by
  induction h with
  | nil => rfl
  | cons u _ ih => simp only [W8, ih]
  | swap u v r => simp only [W8]; omega
  | trans _ _ i1 i2 => rw [i1, i2]
theorem W8_le (b : Int) : ∀ {x : List S112}, (∀ y ∈ x, 0 ≤ y.f2 ∧ y.f2 ≤ 8) → 0 ≤ W8 b x ∧ W8 b x ≤ s8 x ∧ s8 x ≤ 8 * (x.length : Int)
 | [], _ => by simp [W8, s8]
 | u :: r, h => by
  have h1 := W8_le b (x := r) (fun y hy => h y (List.mem_cons_of_mem _ hy)); have h2 := h u List.mem_cons_self; simp only [W8, s8, List.length_cons]
  split <;> omega
theorem W8_all (b : Int) : ∀ {x : List S112}, (∀ y ∈ x, y.f0 ≤ b) → W8 b x = s8 x
 | [], _ => rfl
 | u :: r, h => by
  simp only [W8, s8, W8_all b (x := r) (fun y hy => h y (List.mem_cons_of_mem _ hy)), if_pos (h u List.mem_cons_self)]
theorem W8_none (b : Int) : ∀ {x : List S112}, (∀ y ∈ x, b < y.f0) → W8 b x = 0
 | [], _ => rfl
 | u :: r, h => by
  have := h u List.mem_cons_self; simp only [W8, W8_none b (x := r) (fun y hy => h y (List.mem_cons_of_mem _ hy)), if_neg (show ¬ u.f0 ≤ b by omega)]; rfl
def IsC (l : List S112) (e b : Int) : Prop := (∃ y ∈ l, y.f0 = b) ∧ e ≤ W8 b l ∧ ∀ y ∈ l, e ≤ W8 y.f0 l → b ≤ y.f0
def NoC (l : List S112) (e : Int) : Prop := ∀ y ∈ l, ¬ e ≤ W8 y.f0 l
theorem IsC_uniq {l : List S112} {e b c : Int} (h1 : IsC l e b) (h2 : IsC l e c) : b = c := by
 obtain ⟨⟨y, hy, e1⟩, a1, a2⟩ := h1; obtain ⟨⟨z, hz, e2⟩, b1, b2⟩ := h2; have := a2 z hz (by rw [e2]; exact b1); have := b2 y hy (by rw [e1]; exact a1)
 omega
theorem IsC_not {l : List S112} {e b : Int} (h1 : IsC l e b) (h2 : NoC l e) : False := by
 obtain ⟨⟨y, hy, e1⟩, a1, a2⟩ := h1; exact h2 y hy (by rw [e1]; exact a1)
theorem Ceil_l0 (T : List S112) (e : Int) (he : 1 ≤ e ∧ e ≤ 8) (hb : ∀ y ∈ T, 0 ≤ y.f2 ∧ y.f2 ≤ 8) (hl : T.length ≤ 10) (hs : ∀ p q, p < q → q < T.length → kb T p ≤ kb T q) :
  ∀ (n i : Nat) (c : Int), i + n = T.length → c = s8 (T.take i) → c < e → ∃ r : Int × Int, (r.2 = 0 ∧ IsC T e r.1 ∨ r = (0, 12) ∧ NoC T e) ∧ Ev (fun k => L_CeilingOf.l0 k e c T (T.length : Int) (i : Int)) r
 | 0, i, c, h, hc, hlt => by
  refine ⟨(0, 12), .inr ⟨rfl, fun y hy => ?_⟩, Ev.succ ?_⟩
  ·rw [List.take_of_length_le (by omega)] at hc; have := W8_le y.f0 hb
   omega
  ·simp only [L_CeilingOf.l0, show ¬ (i : Int) < (T.length : Int) by omega, if_false]; exact Ev.some
 | n + 1, i, c, h, hc, hlt => by
  have hi : i < T.length := by omega
  have hm : rd_T112 T (i : Int) ∈ T := by
   have : rd_T112 T (i : Int) ∈ T.drop i := by rw [rd112_drop hi]; exact List.mem_cons_self
   exact List.mem_of_mem_drop this
  have hx := hb _ hm; have hc0 := W8_le 0 (x := T.take i) (fun y hy => hb y (List.mem_of_mem_take hy)); have et : T.take (i + 1) = T.take i ++ [rd_T112 T (i : Int)] := by
   rw [List.take_add_one, rd112_getD]; simp [List.getD_eq_getElem?_getD, hi]
  have hc1 : c + (rd_T112 T (i : Int)).f2 = s8 (T.take (i + 1)) := by
   rw [et, s8_append, hc]; simp [s8]
  have hkb : ∀ q, q < T.length → (rd_T112 T (q : Int)).f0 = kb T q := fun q _ => by rw [rd112_getD]; rfl
  have hmem : ∀ y ∈ T.take (i + 1), y.f0 ≤ (rd_T112 T (i : Int)).f0 := by
   intro y hy; obtain ⟨p, hp, e1⟩ := List.getElem_of_mem hy; rw [List.length_take] at hp; have hpT : p < T.length := by omega
   have e2 : y.f0 = kb T p := by unfold kb; rw [← e1]; simp [List.getD_eq_getElem?_getD, hpT]
   rw [hkb i hi, e2]
   by_cases c : p = i
   ·subst c; exact Int.le_refl _
   ·exact hs p i (by omega) hi
  have hmem2 : ∀ y ∈ T.drop i, (rd_T112 T (i : Int)).f0 ≤ y.f0 := by
   intro y hy; obtain ⟨p, hp, e1⟩ := List.getElem_of_mem hy; rw [List.length_drop] at hp; have hpT : i + p < T.length := by omega
   have e2 : y.f0 = kb T (i + p) := by unfold kb; rw [← e1]; simp [List.getD_eq_getElem?_getD, hpT]
   rw [hkb i hi, e2]
   by_cases c : p = 0
   ·subst c; exact Int.le_refl _
   ·exact hs i (i + p) (by omega) hpT
  by_cases hge : c + (rd_T112 T (i : Int)).f2 ≥ e
  ·refine ⟨((rd_T112 T (i : Int)).f0, 0), .inl ⟨rfl, ⟨_, hm, rfl⟩, ?_, ?_⟩, Ev.succ ?_⟩
   ·have a1 := W8_append (rd_T112 T (i : Int)).f0 (T.take (i + 1)) (T.drop (i + 1)); rw [List.take_append_drop, W8_all _ hmem] at a1; have a2 := W8_le (rd_T112 T (i : Int)).f0 (x := T.drop (i + 1)) (fun y hy => hb y (List.mem_of_mem_drop hy))
    show e ≤ W8 (rd_T112 T (i : Int)).f0 T
    omega
   ·intro y hy hW
    apply Int.le_of_not_gt; intro hlt2
    have a1 := W8_append y.f0 (T.take i) (T.drop i); rw [List.take_append_drop, W8_none y.f0 (x := T.drop i) (fun z hz => by have := hmem2 z hz; simp only at hlt2; omega)] at a1; have a2 := W8_le y.f0 (x := T.take i) (fun y hy => hb y (List.mem_of_mem_take hy))
    omega
   ·simp only [L_CeilingOf.l0, hi, show (i : Int) < (T.length : Int) by omega, show (0 : Int) ≤ (i : Int) by omega, if_true]; rw [w64 (n := c + (rd_T112 T (i : Int)).f2) (by omega)]; simp only [hge, if_true]; exact Ev.some
  ·obtain ⟨r, h1, h2⟩ := Ceil_l0 T e he hb hl hs n (i + 1) (c + (rd_T112 T (i : Int)).f2) (by omega) hc1 (by omega); refine ⟨r, h1, Ev.succ ?_⟩; simp only [L_CeilingOf.l0, show (i : Int) < (T.length : Int) by omega, show (0 : Int) ≤ (i : Int) by omega, if_true]; rw [w64 (n := c + (rd_T112 T (i : Int)).f2) (by omega)]; simp only [hge, if_false, up (show i < 4611686018427387904 by omega)]; exact h2
theorem IsC_perm {a b : List S112} (h : a.Perm b) {e c : Int} : IsC a e c → IsC b e c := by
 rintro ⟨⟨y, hy, e1⟩, a1, a2⟩; refine ⟨⟨y, h.mem_iff.mp hy, e1⟩, by rw [← W8_perm c h]; exact a1, fun z hz hw => a2 z (h.mem_iff.mpr hz) (by rw [W8_perm z.f0 h]; exact hw)⟩
theorem NoC_perm {a b : List S112} (h : a.Perm b) {e : Int} : NoC a e → NoC b e :=
 fun hn y hy hw => hn y (h.mem_iff.mpr hy) (by rw [W8_perm y.f0 h]; exact hw)
def eE (e : Int) : Int := if 1 ≤ e ∧ e ≤ 8 then 0 else 2
theorem CeilingOf_ev (l : List S112) (e : Int) (hl : l.length < 4611686018427387904) : ∃ r : Int × Int, (((laE l).2 ≠ 0 → r = (0, (laE l).2)) ∧ ((laE l).2 = 0 → eE e ≠ 0 → r = (0, eE e)) ∧ ((laE l).2 = 0 → eE e = 0 → (r.2 = 0 ∧ IsC l e r.1 ∨ r = (0, 12) ∧ NoC l e))) ∧ Ev (fun k => L_CeilingOf.f k l e) r := by
 have hstart : ∀ r, Ev (fun k => (if fnz [(laE l).2, eE e] = 0 then ((L_sorted_layers.f k l).bind fun t233 => (L_CeilingOf.l0 k e 0 t233 (t233.length : Int) 0)) else (some (0, fnz [(laE l).2, eE e])))) r → Ev (fun k => L_CeilingOf.f k l e) r := by
  intro r hr; unfold L_CeilingOf.f; refine Ev.bind (CheckLayers_ev l hl) ?_; simp only [within_eq, unless_eq, Option.bind_some, decide_eq_true_eq]; refine Ev.bind (first_ev _ (by simp)) ?_; exact hr
 rw [fnz_two] at hstart
 by_cases h1 : (laE l).2 = 0
 ·rw [if_pos h1] at hstart
  by_cases h2 : eE e = 0
  ·obtain ⟨hl10, hb⟩ := laE_ok h1; have he : 1 ≤ e ∧ e ≤ 8 := by unfold eE at h2; split at h2 <;> omega
   obtain ⟨T, ⟨hp, hs⟩, hT⟩ := sorted_layers_ev l hl10; have hTl := hp.length_eq; obtain ⟨r, hr, hE⟩ := Ceil_l0 T e he (fun y hy => hb y (hp.mem_iff.mp hy)) (by omega) (fun p q a b => hs p q a (by omega)) T.length 0 0 (by omega) (by simp [s8]) (by omega); refine ⟨r, ⟨fun hn => absurd h1 hn, fun _ hn => absurd h2 hn, fun _ _ => ?_⟩, hstart r ?_⟩
   ·rcases hr with ⟨a1, a2⟩ | ⟨a1, a2⟩
    ·exact .inl ⟨a1, IsC_perm hp a2⟩
    ·exact .inr ⟨a1, NoC_perm hp a2⟩
   ·simp only [h2, if_true]; exact Ev.bind hT hE
  ·refine ⟨(0, eE e), ⟨fun hn => absurd h1 hn, fun _ _ => rfl, fun _ hn => absurd hn h2⟩, hstart _ ?_⟩; simp only [h2, if_false]; exact Ev.some
 ·rw [if_neg h1] at hstart; refine ⟨(0, (laE l).2), ⟨fun _ => rfl, fun hn => absurd hn h1, fun hn => absurd hn h1⟩, hstart _ ?_⟩; simp only [h1, if_false]; exact Ev.some
def cs8 (b : Int) (i : Nat) : List S112 → Nat → Int
 | [], _ => 0
 | y :: r, k => (if y.f0 < b ∨ y.f0 = b ∧ k ≤ i then y.f2 else 0) + cs8 b i r (k + 1)
theorem cs8_le (b : Int) (i : Nat) : ∀ (r : List S112) (k : Nat), (∀ y ∈ r, 0 ≤ y.f2 ∧ y.f2 ≤ 8) → 0 ≤ cs8 b i r k ∧ cs8 b i r k ≤ W8 b r
 | [], _, _ => by simp [cs8, W8]
 | u :: r, k, h => by
  have h1 := cs8_le b i r (k + 1) (fun y hy => h y (List.mem_cons_of_mem _ hy)); have h2 := h u List.mem_cons_self; simp only [cs8, W8]
  by_cases c1 : u.f0 ≤ b
  ·rw [if_pos c1]; split <;> omega
  ·rw [if_neg c1, if_neg (by omega)]; omega
theorem cs8_eq (b : Int) (i : Nat) : ∀ (r : List S112) (k : Nat), (∀ q, (hq : q < r.length) → r[q].f0 = b → k + q ≤ i) → cs8 b i r k = W8 b r
 | [], _, _ => rfl
 | u :: r, k, h => by
  have h1 := cs8_eq b i r (k + 1) (fun q hq e1 => by have := h (q + 1) (by simpa using hq) (by simpa using e1); omega); simp only [cs8, W8, h1]
  congr 1
  by_cases c1 : u.f0 ≤ b
  ·rw [if_pos c1]
   by_cases c2 : u.f0 = b
   ·have := h 0 (by simp) (by simpa using c2); rw [if_pos (by omega)]
   ·rw [if_pos (by omega)]
  ·rw [if_neg c1, if_neg (by omega)]
theorem last_of (l : List S112) (b : Int) : ∀ (n : Nat), n ≤ l.length → (∃ q, ∃ hq : q < l.length, q < n ∧ l[q].f0 = b) → ∃ q, ∃ hq : q < l.length, q < n ∧ l[q].f0 = b ∧ ∀ p, (hp : p < l.length) → p < n → l[p].f0 = b → p ≤ q
 | 0, _, ⟨q, _, h, _⟩ => by omega
 | n + 1, hn, ⟨q, hq, h, e1⟩ => by
  by_cases c : l[n].f0 = b
  ·exact ⟨n, by omega, by omega, c, fun p hp h1 _ => by omega⟩
  ·obtain ⟨q', a1, a2, a3, a4⟩ := last_of l b n (by omega) ⟨q, hq, by rcases Nat.lt_or_ge q n with h2 | h2; exact h2; (obtain rfl : q = n := by omega); exact absurd e1 c, e1⟩; refine ⟨q', a1, by omega, a3, fun p hp h1 e2 => ?_⟩
   by_cases c2 : p = n
   ·subst c2; exact absurd e2 c
   ·exact a4 p hp (by omega) e2
def Seen (l : List S112) (e : Int) (i : Nat) (b : Int) (f : Bool) : Prop :=
 (f = true → (∃ p, ∃ hp : p < l.length, p < i ∧ l[p].f0 = b ∧ e ≤ cs8 b p l 0) ∧ ∀ p, (hp : p < l.length) → p < i → e ≤ cs8 l[p].f0 p l 0 → b ≤ l[p].f0) ∧
 (f = false → b = 0 ∧ ∀ p, (hp : p < l.length) → p < i → ¬ e ≤ cs8 l[p].f0 p l 0)
theorem Seen_end {l : List S112} {e b : Int} {f : Bool} (hb : ∀ y ∈ l, 0 ≤ y.f2 ∧ y.f2 ≤ 8) (h : Seen l e l.length b f) : (f = true → IsC l e b) ∧ (f = false → b = 0 ∧ NoC l e) := by
 have key : ∀ y ∈ l, e ≤ W8 y.f0 l → ∃ p, ∃ hp : p < l.length, l[p].f0 = y.f0 ∧ e ≤ cs8 l[p].f0 p l 0 := by
  intro y hy hw; obtain ⟨p, hp, e1⟩ := List.getElem_of_mem hy; obtain ⟨q, hq, a1, a2, a3⟩ := last_of l y.f0 l.length (Nat.le_refl _) ⟨p, hp, hp, by rw [e1]⟩; refine ⟨q, hq, a2, ?_⟩; rw [cs8_eq _ q l 0 (fun r hr e2 => by have := a3 r hr hr (by rw [e2, a2]); omega), a2]; exact hw
 constructor
 ·intro hf; obtain ⟨⟨p, hp, _, a2, a3⟩, a4⟩ := h.1 hf; refine ⟨⟨l[p], List.getElem_mem hp, a2⟩, by have := (cs8_le b p l 0 hb).2; omega, fun y hy hw => ?_⟩; obtain ⟨q, hq, b1, b2⟩ := key y hy hw; rw [← b1]; exact a4 q hq hq b2
 ·intro hf; obtain ⟨a1, a2⟩ := h.2 hf; refine ⟨a1, fun y hy hw => ?_⟩; obtain ⟨q, hq, b1, b2⟩ := key y hy hw; exact a2 q hq hq b2
theorem rd112_get {l : List S112} {i : Nat} (h : i < l.length) : rd_T112 l (i : Int) = l[i] := by
 rw [rd112_getD]; simp [List.getD_eq_getElem?_getD, h]
theorem RefCeil_l1 (l : List S112) (e : Int) (hb : ∀ y ∈ l, 0 ≤ y.f2 ∧ y.f2 ≤ 8) (hl : l.length ≤ 10) (i : Nat) (hi : i < l.length) (b : Int) (f : Bool) (R : Int × Bool)
    (hR : Ev (fun k => Rf_Ceiling.l0 k l e (if e ≤ cs8 l[i].f0 i l 0 then (if f = true then (if l[i].f0 < b then l[i].f0 else b) else l[i].f0) else b) (if e ≤ cs8 l[i].f0 i l 0 then true else f) ((i + 1 : Nat) : Int)) R) :
    ∀ (n j : Nat) (c : Int), j + n = l.length → 0 ≤ c → c ≤ 8 * j → c + cs8 l[i].f0 i (l.drop j) j = cs8 l[i].f0 i l 0 → Ev (fun k => Rf_Ceiling.l1 k l e b f (i : Int) c (j : Int)) R
  | 0, j, c, h, hc0, hc8, hc => by
    refine Ev.succ ?_; rw [show l.drop j = [] from List.drop_eq_nil_of_le (by omega)] at hc; simp only [cs8, Int.add_zero] at hc; rw [← hc] at hR; simp only [Rf_Ceiling.l1, show ¬ (j : Int) < (l.length : Int) by omega, if_false, up (show i < 4611686018427387904 by omega), show (0 : Int) ≤ (i : Int) by omega, show (i : Int) < (l.length : Int) by omega, if_true, rd112_get hi]
    by_cases h1 : e ≤ c
    · simp only [h1, show c ≥ e from h1, if_true] at hR ⊢
      cases f with
      | false => simpa using hR
      | true =>
        by_cases h2 : l[i].f0 < b
        · simp only [h2, if_true] at hR ⊢; exact hR
        · simp only [h2, if_true, if_false] at hR ⊢; exact hR
    · simp only [h1, show ¬ c ≥ e from h1, if_false] at hR ⊢; exact hR
  | n + 1, j, c, h, hc0, hc8, hc => by
    refine Ev.succ ?_; have hj : j < l.length := by omega
    rw [rd112_drop hj, rd112_get hj] at hc; have hx := hb _ (List.getElem_mem hj); have ih := RefCeil_l1 l e hb hl i hi b f R hR n (j + 1); simp only [Rf_Ceiling.l1, show (j : Int) < (l.length : Int) by omega, show (0 : Int) ≤ (j : Int) by omega, up (show j < 4611686018427387904 by omega), show (0 : Int) ≤ (i : Int) by omega, show (i : Int) < (l.length : Int) by omega, if_true, rd112_get hi, rd112_get hj]; rw [w64 (n := c + l[j].f2) (by omega)]; simp only [cs8] at hc
    by_cases h1 : l[j].f0 < l[i].f0
    · rw [if_pos (.inl h1)] at hc; simp only [h1, if_true]; exact ih _ (by omega) (by omega) (by omega) (by omega)
    · by_cases h2 : l[j].f0 = l[i].f0
      · by_cases h3 : j ≤ i
        · rw [if_pos (.inr ⟨h2, h3⟩)] at hc; simp only [h1, h2, show (j : Int) ≤ (i : Int) by omega, if_true, if_false]; simp only [show ¬ l[i].f0 < l[i].f0 by omega, if_false]; exact ih _ (by omega) (by omega) (by omega) (by omega)
        · rw [if_neg (by omega)] at hc; simp only [h1, h2, show ¬ (j : Int) ≤ (i : Int) by omega, if_true, if_false]; simp only [show ¬ l[i].f0 < l[i].f0 by omega, if_false]; exact ih _ (by omega) (by omega) (by omega) (by omega)
      · rw [if_neg (by omega)] at hc; simp only [h1, h2, if_false]; exact ih _ (by omega) (by omega) (by omega) (by omega)
theorem RefCeil_l0 (l : List S112) (e : Int) (hb : ∀ y ∈ l, 0 ≤ y.f2 ∧ y.f2 ≤ 8) (hl : l.length ≤ 10) : ∀ (n i : Nat) (b : Int) (f : Bool), i + n = l.length → Seen l e i b f → ∃ r : Int × Bool, Seen l e l.length r.1 r.2 ∧ Ev (fun k => Rf_Ceiling.l0 k l e b f (i : Int)) r
 | 0, i, b, f, h, hs => by
  refine ⟨(b, f), by rw [show l.length = i by omega]; exact hs, Ev.succ ?_⟩; simp only [Rf_Ceiling.l0, show ¬ (i : Int) < (l.length : Int) by omega, if_false]; exact Ev.some
 | n + 1, i, b, f, h, hs => by
  have hi : i < l.length := by omega
  have hs' : Seen l e (i + 1) (if e ≤ cs8 l[i].f0 i l 0 then (if f = true then (if l[i].f0 < b then l[i].f0 else b) else l[i].f0) else b) (if e ≤ cs8 l[i].f0 i l 0 then true else f) := by
   by_cases h1 : e ≤ cs8 l[i].f0 i l 0
   ·simp only [h1, if_true]; refine ⟨fun _ => ?_, fun hf => by cases hf⟩
    cases f with
    | false =>
     simp only [Bool.false_eq_true, if_false]; obtain ⟨_, a2⟩ := hs.2 rfl; refine ⟨⟨i, hi, by omega, rfl, h1⟩, fun p hp hpi hw => ?_⟩
     by_cases c : p = i
     ·subst c; exact Int.le_refl _
     ·exact absurd hw (a2 p hp (by omega))
    | true =>
     simp only [if_true]; obtain ⟨⟨q, hq, q1, q2, q3⟩, a2⟩ := hs.1 rfl
     by_cases h2 : l[i].f0 < b
     ·rw [if_pos h2]; refine ⟨⟨i, hi, by omega, rfl, h1⟩, fun p hp hpi hw => ?_⟩
      by_cases c : p = i
      ·subst c; exact Int.le_refl _
      ·have := a2 p hp (by omega) hw; omega
     ·rw [if_neg h2]; refine ⟨⟨q, hq, by omega, q2, q3⟩, fun p hp hpi hw => ?_⟩
      by_cases c : p = i
      ·subst c; omega
      ·exact a2 p hp (by omega) hw
   ·simp only [h1, if_false]; refine ⟨fun hf => ?_, fun hf => ?_⟩
    ·obtain ⟨⟨q, hq, q1, q2, q3⟩, a2⟩ := hs.1 hf; refine ⟨⟨q, hq, by omega, q2, q3⟩, fun p hp hpi hw => ?_⟩
     by_cases c : p = i
     ·subst c; exact absurd hw h1
     ·exact a2 p hp (by omega) hw
    ·obtain ⟨a1, a2⟩ := hs.2 hf; refine ⟨a1, fun p hp hpi => ?_⟩
     by_cases c : p = i
     ·subst c; exact h1
     ·exact a2 p hp (by omega)
  obtain ⟨r, h1, h2⟩ := RefCeil_l0 l e hb hl n (i + 1) _ _ (by omega) hs'; refine ⟨r, h1, Ev.succ ?_⟩; simp only [Rf_Ceiling.l0, show (i : Int) < (l.length : Int) by omega, if_true]; exact RefCeil_l1 l e hb hl i hi b f r h2 l.length 0 0 (by omega) (by omega) (by omega) (by simp)
theorem RefCeiling_ev (l : List S112) (e : Int) (hb : ∀ y ∈ l, 0 ≤ y.f2 ∧ y.f2 ≤ 8) (hl : l.length ≤ 10) : ∃ r : Int × Bool, ((r.2 = true → IsC l e r.1) ∧ (r.2 = false → r.1 = 0 ∧ NoC l e)) ∧ Ev (fun k => Rf_Ceiling.f k l e) r := by
 obtain ⟨r, h1, h2⟩ := RefCeil_l0 l e hb hl l.length 0 0 false (by omega) ⟨fun h => (by cases h), fun _ => ⟨rfl, fun p _ h => by omega⟩⟩; exact ⟨r, Seen_end hb h1, h2⟩
theorem CopyLayers_eq (l : List S112) (h : l.length < 20000000) : Rf_CopyLayers.f l = some l := by
 unfold Rf_CopyLayers.f; simp only [Option.bind_some, List.length_nil, List.nil_append]; rw [if_pos (by omega)]
theorem CloudCeilings_ev (l : List S112) (e : Int) (m : List Int) : Ev (fun k => Lw_CloudCeilings.f k l e m) true := by
  unfold Lw_CloudCeilings.f; refine Ev.bind awake_ev ?_; simp only [if_true]; have hskip : Ev (fun k => Lw_CloudCeilings.j0 k l e m true) true := by
    refine Ev.succ ?_; simp only [Lw_CloudCeilings.j0, if_true]; exact Ev.some
  by_cases hl : (l.length : Int) > 12
  · simp only [hl, if_true]; exact hskip
  by_cases hm : (m.length : Int) > 17
  · simp only [hl, hm, if_false, decide_true]; exact hskip
  simp only [hl, hm, if_false, decide_false]; refine Ev.succ ?_; obtain ⟨C, ⟨c1, c2, c3⟩, hC⟩ := CeilingOf_ev l e (by omega); simp only [Lw_CloudCeilings.j0, Bool.false_eq_true, if_false, CopyLayers_eq l (by omega), CopyInts_eq m (by omega), Option.bind_some]; refine Ev.bind (CheckLayers_ev l (by omega)) ?_; refine Ev.bind hC ?_; refine Ev.bind (MiddleOf_ev m (by omega)) ?_; refine Ev.bind (RefCheckLayers_ev l (by omega)) ?_; simp only [if_true, bne_self_eq_false]; refine Ev.succ ?_; simp only [Lw_CloudCeilings.j1, Bool.false_eq_true, if_false]; refine Ev.bind (HeightsErr_ev m (by omega)) ?_; have h4 : ∀ d : Int, (d ≠ 0 → C = (0, d)) → (d = 0 → (laE l).2 = 0 ∧ eE e = 0) → Ev (fun k => Lw_CloudCeilings.j4 k l e C.1 C.2 d) true := by
    intro d hd1 hd2; refine Ev.succ ?_; simp only [Lw_CloudCeilings.j4]
    by_cases hd : d = 0
    · obtain ⟨a1, a2⟩ := hd2 hd; obtain ⟨hl10, hb⟩ := laE_ok a1; simp only [hd, if_true]; obtain ⟨r, ⟨r1, r2⟩, hr⟩ := RefCeiling_ev l e hb hl10; refine Ev.bind hr ?_
      rcases c3 a1 a2 with ⟨b1, b2⟩ | ⟨b1, b2⟩
      · cases h2 : r.2 with
        | false => exact absurd (r2 h2).2 (fun hn => IsC_not b2 hn)
        | true =>
          simp only [b1, if_true, IsC_uniq b2 (r1 h2), beq_self_eq_true]; exact Ev.some
      · cases h2 : r.2 with
        | false =>
          simp only [b1, Bool.false_eq_true, if_true, if_false, beq_self_eq_true]; exact Ev.some
        | true => exact absurd b2 (fun hn => IsC_not (r1 h2) hn)
    · rw [hd1 hd]; simp only [hd, if_true, if_false, beq_self_eq_true]; exact Ev.some
  have h2 : Ev (fun k => Lw_CloudCeilings.j2 k l e C.1 C.2 (laE l).2 false) true := by
    refine Ev.succ ?_; simp only [Lw_CloudCeilings.j2, Bool.false_eq_true, if_false, Within_eq, Option.bind_some]
    by_cases h1 : (laE l).2 = 0
    · simp only [h1, if_true]
      by_cases he : 1 ≤ e ∧ e ≤ 8
      · simp only [he, and_self, decide_true, Bool.not_true]; refine Ev.succ ?_; simp only [Lw_CloudCeilings.j3, Bool.false_eq_true, if_false]; exact h4 0 (fun hn => absurd rfl hn) (fun _ => ⟨h1, by unfold eE; rw [if_pos he]⟩)
      · simp only [he, decide_false, Bool.not_false]; refine Ev.succ ?_; simp only [Lw_CloudCeilings.j3, if_true]; have e2 : eE e = 2 := by unfold eE; rw [if_neg he]
        exact h4 2 (fun _ => by rw [c2 h1 (by rw [e2]; decide), e2]) (fun hn => absurd hn (by decide))
    · simp only [h1, if_false]; refine Ev.succ ?_; simp only [Lw_CloudCeilings.j3, Bool.false_eq_true, if_false]; exact h4 _ (fun _ => c1 h1) (fun hn => absurd hn h1)
  by_cases h : mE m = 0
  · simp only [h, if_true]; refine Ev.bind (Middle_ev m h) ?_; rw [bne_self_eq_false]; exact h2
  · simp only [h, if_false, if_true]; exact h2
theorem CloudCeilings_pure (l : List S112) (_ : l.length ≤ maxLen ∧ ∀ x ∈ l, (Lit.int .i64 x.f0).wf = true ∧ (Lit.int .i64 x.f1).wf = true ∧ (Lit.int .i64 x.f2).wf = true) (e : Int) (_ : (Lit.int .i64 e).wf = true) (m : List Int) (_ : m.length ≤ maxLen) (_ : ∀ x ∈ m, (Lit.int .i64 x).wf = true) : ∃ k, Lw_CloudCeilings.f k l e m = some true := (CloudCeilings_ev l e m).ex
end Go.Proofs.Yteiafijbgjgiaaa.P
