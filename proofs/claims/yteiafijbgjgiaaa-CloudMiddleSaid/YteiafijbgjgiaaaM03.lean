/-
PLAIN LAW: what the walks compute answers as the statement says (no program in sight; Ev: from some number of rounds on).
-/
import Derived.Test.YteiafijbgjgiaaaM02
namespace Go.Proofs.Yteiafijbgjgiaaa.P
open Go Go.RowKit Go.Proofs.Yteiafijbgjgiaaa.A Go.Proofs.YteiafijbgjgiaaaW.PrintWords Go.Proofs.YteiafijbgjgiaaaW.PrintLast Go.Proofs.YteiafijbgjgiaaaW.PrintMore
set_option linter.unusedSimpArgs false
set_option linter.unusedVariables false
def Ev {α : Type} (f : Nat → Option α) (r : α) : Prop := ∃ k, ∀ j, k ≤ j → f j = some r

theorem Ev.some {α : Type} {r : α} : Ev (fun _ => Option.some r) r := ⟨0, fun _ _ => rfl⟩
theorem Ev.bind {α β : Type} {f : Nat → Option α} {g : Nat → α → Option β} {a : α} {b : β} (h : Ev f a) (h2 : Ev (fun k => g k a) b) : Ev (fun k => (f k).bind (g k)) b := by
 obtain ⟨k, hk⟩ := h; obtain ⟨m, hm⟩ := h2; exact ⟨max k m, fun j hj => by show (f j).bind (g j) = _; rw [hk j (by omega)]; exact hm j (by omega)⟩
theorem Ev.succ {α : Type} {f : Nat → Option α} {r : α} (h : Ev (fun k => f (k + 1)) r) : Ev f r := by
 obtain ⟨k, hk⟩ := h; exact ⟨k + 1, fun j hj => by obtain ⟨m, rfl⟩ : ∃ m, j = m + 1 := ⟨j - 1, by omega⟩; exact hk m (by omega)⟩
theorem Ev.congr {α : Type} {f g : Nat → Option α} {r : α} (e : ∀ k, f k = g k) (h : Ev f r) : Ev g r := by
 obtain ⟨k, hk⟩ := h; exact ⟨k, fun j hj => by rw [← e j]; exact hk j hj⟩
theorem Ev.ex {α : Type} {f : Nat → Option α} {r : α} (h : Ev f r) : ∃ k, f k = Option.some r := let ⟨k, hk⟩ := h; ⟨k, hk k (Nat.le_refl _)⟩
theorem Ev.of_mono {α : Type} {f : Nat → Option α} {r : α} (hm : ∀ k, LeO (f k) (f (k + 1))) {k : Nat} (h : f k = Option.some r) : Ev f r := by
  refine ⟨k, fun j hj => ?_⟩
  induction j with
  | zero => obtain rfl : k = 0 := by omega
            exact h
  | succ j ih =>
    by_cases e : k = j + 1
    · subst e; exact h
    · exact hm j r (ih (by omega))
theorem up {i : Nat} (h : i < 4611686018427387904) : wrap64 ((i : Int) + 1) = ((i + 1 : Nat) : Int) := by
 unfold wrap64; omega
theorem w64 {n : Int} (h : -9223372036854775808 ≤ n ∧ n ≤ 9223372036854775807) : wrap64 n = n := by unfold wrap64; omega
theorem rd_nat (l : List Int) (i : Nat) : rd l (i : Int) = l.getD i 0 := by unfold rd; simp
theorem drop_rd {l : List Int} {i : Nat} (h : i < l.length) : l.drop i = rd l (i : Int) :: l.drop (i + 1) := by
 rw [rd_nat, List.drop_eq_getElem_cons h]
 simp [List.getD_eq_getElem?_getD, h]
theorem drop_getD {α : Type} {l : List α} {i : Nat} (z : α) (h : i < l.length) : l.drop i = l.getD i z :: l.drop (i + 1) := by
 rw [List.drop_eq_getElem_cons h]
 simp [List.getD_eq_getElem?_getD, h]

theorem mx_eq (a b : Int) : mx a b = max a b := by unfold mx; split <;> omega
theorem mn_eq (a b : Int) : mn a b = min a b := by unfold mn; split <;> omega
theorem within_eq (a b c : Int) : L_within.f a b c = some (decide (b ≤ a ∧ a ≤ c)) := by
 unfold L_within.f
 by_cases h : b ≤ a <;> simp [h]
theorem Within_eq (a b c : Int) : Bs_Within.f a b c = some (decide (b ≤ a ∧ a ≤ c)) := by
 unfold Bs_Within.f
 by_cases h : b ≤ a <;> simp [h]
theorem unless_eq (b : Bool) (e : Int) : L_unless.f b e = some (if b = true then 0 else e) := by
 unfold L_unless.f
 cases b <;> simp
def fnz : List Int → Int
 | [] => 0
 | x :: r => if x = 0 then fnz r else x

theorem first_l0 (l : List Int) (hl : l.length < 4611686018427387904) : ∀ (n i : Nat), i + n = l.length → Ev (fun k => L_first.l0 k l (l.length : Int) (i : Int)) (fnz (l.drop i))
 | 0, i, h => by
  refine Ev.succ (f := fun k => L_first.l0 k l (l.length : Int) (i : Int)) ?_; have h1 : ¬ (i : Int) < (l.length : Int) := by omega
  simp only [L_first.l0, h1, if_false]; rw [show l.drop i = [] from List.drop_eq_nil_of_le (by omega)]; exact Ev.some
 | n + 1, i, h => by
  refine Ev.succ (f := fun k => L_first.l0 k l (l.length : Int) (i : Int)) ?_; have h1 : (i : Int) < (l.length : Int) := by omega
  have h2 : (0 : Int) ≤ (i : Int) := by omega
  simp only [L_first.l0, h1, h2, if_true, up (show i < 4611686018427387904 by omega)]; rw [drop_rd (show i < l.length by omega)]; unfold fnz
  by_cases e : rd l (i : Int) = 0
  ·simp only [e, if_true]; exact first_l0 l hl n (i + 1) (by omega)
  ·simp only [e, if_false]; exact Ev.some
theorem first_ev (l : List Int) (hl : l.length < 4611686018427387904) : Ev (fun k => L_first.f k l) (fnz l) := first_l0 l hl l.length 0 (by omega)

theorem CopyInts_eq (l : List Int) (h : l.length < 4611686018427) : Bs_CopyInts.f l = some l := by
 unfold Bs_CopyInts.f; simp only [Option.bind_some, List.length_nil, List.nil_append]; rw [if_pos (by omega)]
def chk {α : Type} (p : α → Int) : List α → Nat → Int × Int
 | [], _ => (0, 0)
 | x :: r, i => if p x = 0 then chk p r (i + 1) else ((i : Int), p x)
theorem chk_all {α : Type} {p : α → Int} : ∀ {l : List α} {i : Nat}, (chk p l i).2 = 0 → ∀ x ∈ l, p x = 0
 | [], i, _ => by simp
 | y :: r, i, h => by
  unfold chk at h
  split at h <;> rename_i e
  ·intro x hx
   rcases List.mem_cons.mp hx with rfl | hx
   ·exact e
   ·exact chk_all h x hx
  ·exact absurd h e
theorem chk_of {α : Type} {p : α → Int} : ∀ {l : List α} {i : Nat}, (∀ x ∈ l, p x = 0) → chk p l i = (0, 0)
 | [], i, _ => rfl
 | y :: r, i, h => by
  unfold chk; rw [if_pos (h y List.mem_cons_self)]; exact chk_of (fun x hx => h x (List.mem_cons_of_mem _ hx))
theorem chk_loop {α : Type} (z : α) (p : α → Int) (l : List α) (hl : l.length < 4611686018427387904) (F : Nat → Int → Option (Int × Int))
  (h0 : ∀ k i, ¬ i < (l.length : Int) → F (k + 1) i = some (0, 0))
  (h1 : ∀ k (i : Nat), i < l.length → F (k + 1) (i : Int) = if p (l.getD i z) = 0 then F k (wrap64 ((i : Int) + 1)) else some ((i : Int), p (l.getD i z))) :
  ∀ (n i : Nat), i + n = l.length → Ev (fun k => F k (i : Int)) (chk p (l.drop i) i)
 | 0, i, h => by
  refine Ev.succ (f := fun k => F k (i : Int)) ?_; rw [show l.drop i = [] from List.drop_eq_nil_of_le (by omega)]; exact Ev.congr (fun k => (h0 k i (by omega)).symm) Ev.some
 | n + 1, i, h => by
  refine Ev.succ (f := fun k => F k (i : Int)) ?_; refine Ev.congr (fun k => (h1 k i (by omega)).symm) ?_; rw [drop_getD z (show i < l.length by omega)]; unfold chk
  by_cases e : p (l.getD i z) = 0
  ·simp only [e, if_true, up (show i < 4611686018427387904 by omega)]; exact chk_loop z p l hl F h0 h1 n (i + 1) (by omega)
  ·simp only [e, if_false]; exact Ev.some
theorem awake_ev : Ev (fun k => Lw_awake.f k) true :=
 Ev.of_mono (k := 1500) (fun k => Lw_awake.mono k) (by kernel_rfl)
def hE (x : Int) : Int := if 0 ≤ x ∧ x ≤ 20000 then 0 else 2
def mE (l : List Int) : Int := if l.length = 0 then 10 else if 15 < l.length then 8 else (chk hE l 0).2
def mid (l : List Int) : Int := (isort l).getD ((l.length - 1) / 2) 0
theorem isHeight_eq (a : Int) : L_isHeight.f a = some (decide (0 ≤ a ∧ a ≤ 20000)) := by
 unfold L_isHeight.f; rw [within_eq]; rfl
theorem MiddleOf_1_eq (a : Int) : L_MiddleOf_1.f a = some (hE a) := by
 unfold L_MiddleOf_1.f hE; simp only [isHeight_eq, unless_eq, Option.bind_some, decide_eq_true_eq]
theorem isort_length (l : List Int) : (isort l).length = l.length := (isort_perm l).length_eq
theorem half_eq {n : Nat} (h : 0 < n) (h2 : n < 1000) : wrap64 (Int.tdiv (wrap64 ((n : Int) - 1)) 2) = (((n - 1) / 2 : Nat) : Int) := by
 rw [w64 (n := (n : Int) - 1) (by omega), Int.tdiv_eq_ediv_of_nonneg (by omega), w64 (by omega)]; omega
theorem MiddleOf_ev (l : List Int) (hl : l.length < 4611686018427387904) : Ev (fun k => L_MiddleOf.f k l) (if mE l = 0 then (mid l, 0) else (0, mE l)) := by
 unfold L_MiddleOf.f; simp only [unless_eq, Option.bind_some]; refine Ev.bind (first_ev _ (by simp)) ?_; unfold mE
 by_cases h1 : l.length = 0
 ·simp only [h1, show ¬ ((0 : Nat) : Int) > 0 by omega, decide_false, fnz]; exact Ev.some
 ·by_cases h2 : 15 < l.length
  ·simp only [h1, h2, show (l.length : Int) > 0 by omega, show ¬ (l.length : Int) ≤ 15 by omega, decide_false, decide_true, fnz, if_true, if_false]; exact Ev.some
  ·simp only [h1, h2, show (l.length : Int) > 0 by omega, show (l.length : Int) ≤ 15 by omega, decide_true, fnz, if_true, if_false]; refine Ev.bind (a := chk hE l 0) ?_ ?_
   ·refine chk_loop 0 hE l hl (fun k i => L_each_int_MiddleOf_1.l0 k l (l.length : Int) i) (fun k i h => ?_) (fun k i h => ?_) l.length 0 (by omega)
    ·simp only [L_each_int_MiddleOf_1.l0, h, if_false]
    ·simp only [L_each_int_MiddleOf_1.l0, show (i : Int) < (l.length : Int) by omega, show (0 : Int) ≤ (i : Int) by omega, if_true, MiddleOf_1_eq, Option.bind_some, rd_nat]
   ·by_cases e : (chk hE l 0).2 = 0
    ·simp only [e, if_true, L_sorted_ints.f, slices_Sort_int_int.f, show l.length < 17592186044416 by omega, show l.length < 4611686018427387904 by omega, Option.bind_some, half_eq (show 0 < l.length by omega) (by omega), isort_length, show (0 : Int) ≤ (((l.length - 1) / 2 : Nat) : Int) by omega, show (((l.length - 1) / 2 : Nat) : Int) < (l.length : Int) by omega, rd_nat]; exact Ev.some
    ·simp only [e, if_false]; exact Ev.some
theorem HeightsErr_l0 (l : List Int) (hl : l.length < 4611686018427387904) : ∀ (n i : Nat), i + n = l.length → Ev (fun k => Rf_HeightsErr.l0 k l (i : Int)) (chk hE (l.drop i) i).2
 | 0, i, h => by
  refine Ev.succ ?_; simp only [Rf_HeightsErr.l0, show ¬ (i : Int) < (l.length : Int) by omega, if_false]; rw [show l.drop i = [] from List.drop_eq_nil_of_le (by omega)]; exact Ev.some
 | n + 1, i, h => by
  refine Ev.succ ?_; rw [drop_rd (show i < l.length by omega)]; simp only [Rf_HeightsErr.l0, show (i : Int) < (l.length : Int) by omega, show (0 : Int) ≤ (i : Int) by omega, if_true, up (show i < 4611686018427387904 by omega), Within_eq, Option.bind_some, decide_eq_true_eq]; unfold chk hE
  by_cases e : 0 ≤ rd l (i : Int) ∧ rd l (i : Int) ≤ 20000
  ·simp only [e, and_self, if_true]; exact HeightsErr_l0 l hl n (i + 1) (by omega)
  ·simp only [e, if_false, show ¬ (2 : Int) = 0 by omega]; exact Ev.some
theorem HeightsErr_ev (l : List Int) (hl : l.length < 4611686018427387904) : Ev (fun k => Rf_HeightsErr.f k l) (mE l) := by
 unfold Rf_HeightsErr.f mE
 by_cases h1 : l.length = 0
 ·simp only [h1]; exact Ev.some
 ·by_cases h2 : 15 < l.length
  ·simp only [h1, h2, show ¬ (l.length : Int) = 0 by omega, show (l.length : Int) > 15 by omega, if_true, if_false]; exact Ev.some
  ·simp only [h1, h2, show ¬ (l.length : Int) = 0 by omega, show ¬ (l.length : Int) > 15 by omega, if_false]; have := HeightsErr_l0 l hl l.length 0 (by omega); rw [List.drop_zero] at this; exact this
def cl (l : List Int) (v : Int) : Nat := l.countP (fun x => decide (x < v))
theorem cl_append (a b : List Int) (v : Int) : cl (a ++ b) v = cl a v + cl b v := List.countP_append
theorem cl_le (a : List Int) (v : Int) : cl a v ≤ a.length := List.countP_le_length
theorem cl_perm {a b : List Int} (h : a.Perm b) (v : Int) : cl a v = cl b v := h.countP_eq _
theorem cl_all {a : List Int} {v : Int} (h : ∀ x ∈ a, x < v) : cl a v = a.length := List.countP_eq_length.mpr (fun x hx => decide_eq_true (h x hx))
theorem cl_none {a : List Int} {v : Int} (h : ∀ x ∈ a, v ≤ x) : cl a v = 0 := List.countP_eq_zero.mpr (fun x hx => by have := h x hx; simp; omega)
theorem sorted_take {S : List Int} (hs : S.Pairwise (fun a b => a ≤ b)) {i : Nat} (hi : i < S.length) : (∀ x ∈ S.take (i + 1), x ≤ S.getD i 0) ∧ (∀ x ∈ S.drop i, S.getD i 0 ≤ x) := by
 have e : S = S.take i ++ (S.getD i 0 :: S.drop (i + 1)) := by rw [← drop_getD 0 hi, List.take_append_drop]
 rw [e] at hs; obtain ⟨_, h2, h3⟩ := List.pairwise_append.mp hs; obtain ⟨h4, _⟩ := List.pairwise_cons.mp h2
 constructor
 ·intro x hx; rw [List.take_add_one] at hx
  rcases List.mem_append.mp hx with hx | hx
  ·exact h3 x hx _ List.mem_cons_self
  ·rw [show S[i]? = some (S.getD i 0) by simp [List.getD_eq_getElem?_getD, hi]] at hx
   simp at hx; rw [hx]; simp
 ·intro x hx; rw [drop_getD 0 hi] at hx
  rcases List.mem_cons.mp hx with rfl | hx
  ·exact Int.le_refl _
  ·exact h4 x hx
theorem rank_lt {S : List Int} (hs : S.Pairwise (fun a b => a ≤ b)) {i : Nat} (hi : i < S.length) {v : Int} (h : S.getD i 0 < v) : i + 1 ≤ cl S v := by
 have h1 := (sorted_take hs hi).1; have h2 : cl (S.take (i + 1)) v = i + 1 := by
  rw [cl_all (fun x hx => by have := h1 x hx; omega), List.length_take]; omega
 have h3 := cl_append (S.take (i + 1)) (S.drop (i + 1)) v; rw [List.take_append_drop] at h3
 omega
theorem rank_ge {S : List Int} (hs : S.Pairwise (fun a b => a ≤ b)) {i : Nat} (hi : i < S.length) {v : Int} (h : v ≤ S.getD i 0) : cl S v ≤ i := by
 have h1 := (sorted_take hs hi).2; have h2 : cl (S.drop i) v = 0 := cl_none (fun x hx => by have := h1 x hx; omega); have h3 := cl_append (S.take i) (S.drop i) v; rw [List.take_append_drop] at h3; have h4 := cl_le (S.take i) v; rw [List.length_take] at h4
 omega
theorem isort_of_perm {a b : List Int} (h : a.Perm b) : isort a = isort b :=
 List.Perm.eq_of_pairwise (le := fun a b => a ≤ b) (fun a b _ _ h1 h2 => by omega) (isort_sorted a) (isort_sorted b) (((isort_perm a).trans h).trans (isort_perm b).symm)
theorem mid_of_perm {a b : List Int} (h : a.Perm b) : mid a = mid b := by
 unfold mid; rw [isort_of_perm h, h.length_eq]
theorem mid_within (s o : List Int) (h1 : o.length < s.length) (h2 : (s.length + o.length) % 2 = 1) (lo hi : Int) (hb : ∀ x ∈ s, lo ≤ x ∧ x ≤ hi) : lo ≤ mid (o ++ s) ∧ mid (o ++ s) ≤ hi := by
 have hl : (isort (o ++ s)).length = o.length + s.length := by rw [isort_length, List.length_append]
 have hi' : ((o ++ s).length - 1) / 2 < (isort (o ++ s)).length := by rw [hl, List.length_append]; omega
 have c1 : ∀ v, cl (isort (o ++ s)) v = cl o v + cl s v := fun v => by rw [cl_perm (isort_perm _), cl_append]
 have hlen : (o ++ s).length = o.length + s.length := List.length_append; unfold mid
 constructor
 ·apply Int.le_of_not_gt; intro h
  have := rank_lt (isort_sorted (o ++ s)) hi' (v := lo) h; rw [c1, cl_none (a := s) (fun x hx => (hb x hx).1)] at this; have := cl_le o lo
  omega
 ·apply Int.le_of_not_gt; intro h
  have := rank_ge (isort_sorted (o ++ s)) hi' (v := hi + 1) (by omega); rw [c1, cl_all (a := s) (fun x hx => by have := (hb x hx).2; omega)] at this
  omega
theorem mE_ok {l : List Int} (h : mE l = 0) : 0 < l.length ∧ l.length ≤ 15 ∧ ∀ x ∈ l, hE x = 0 := by
 unfold mE at h
 split at h
 ·exact absurd h (by simp)
 split at h
 ·exact absurd h (by simp)
 exact ⟨by omega, by omega, chk_all h⟩
theorem mE_perm {a b : List Int} (h : a.Perm b) (ha : mE a = 0) : mE b = 0 := by
 obtain ⟨h1, h2, h3⟩ := mE_ok ha; have hl := h.length_eq; unfold mE; rw [if_neg (by omega), if_neg (by omega), chk_of (fun x hx => h3 x (h.mem_iff.mpr hx))]
theorem Middle_l0 (s o : List Int) (h7 : s.length ≤ 7) (h1 : o.length < s.length) (h2 : (s.length + o.length) % 2 = 1) (hm : mE (o ++ s) = 0) : ∀ (n i : Nat) (a b : Int), i + n = s.length → (∀ x ∈ s.take i, a ≤ x ∧ x ≤ b) →
  Ev (fun k => Lw_CloudMiddle.l0 k s o (o ++ s) a b (i : Int)) true
 | 0, i, a, b, h, hb => by
  refine Ev.succ ?_; simp only [Lw_CloudMiddle.l0, show ¬ (i : Int) < (s.length : Int) by omega, if_false, CopyInts_eq (o ++ s) (by rw [List.length_append]; omega), CopyInts_eq s (by omega), Option.bind_some]; have e1 := MiddleOf_ev (o ++ s) (by rw [List.length_append]; omega); rw [if_pos hm] at e1; refine Ev.bind e1 ?_; simp only [show s.length + o.length < 17592186044416 by omega, if_true]; have e2 := MiddleOf_ev (s ++ o) (by rw [List.length_append]; omega); rw [if_pos (mE_perm List.perm_append_comm hm)] at e2; refine Ev.bind e2 ?_; rw [List.take_of_length_le (by omega)] at hb; have := mid_within s o h1 h2 a b hb; simp only [if_true, Within_eq, Option.bind_some, this, and_self, decide_true, mid_of_perm (List.perm_append_comm (l₁ := s) (l₂ := o)), beq_self_eq_true]; exact Ev.some
 | n + 1, i, a, b, h, hb => by
  refine Ev.succ ?_; simp only [Lw_CloudMiddle.l0, show (i : Int) < (s.length : Int) by omega, show (0 : Int) ≤ (i : Int) by omega, if_true, up (show i < 4611686018427387904 by omega), mn_eq, mx_eq]; refine Middle_l0 s o h7 h1 h2 hm n (i + 1) _ _ (by omega) (fun x hx => ?_); rw [List.take_add_one, show s[i]? = some (rd s (i : Int)) by rw [rd_nat]; simp [List.getD_eq_getElem?_getD, show i < s.length by omega]] at hx
  rcases List.mem_append.mp hx with hx | hx
  ·have := hb x hx; omega
  ·simp at hx; subst hx; omega
theorem CloudMiddle_ev (s o : List Int) (hs : s.length ≤ maxLen) (ho : o.length ≤ maxLen) : Ev (fun k => Lw_CloudMiddle.f k s o) true := by
 unfold Lw_CloudMiddle.f; refine Ev.bind awake_ev ?_; simp only [if_true]; have hskip : Ev (fun k => Lw_CloudMiddle.j0 k s o true) true := by
  refine Ev.succ ?_; simp only [Lw_CloudMiddle.j0, if_true]; exact Ev.some
 by_cases h0 : (s.length : Int) = 0
 ·simp only [h0, if_true]; exact hskip
 by_cases h7 : (s.length : Int) > 7
 ·simp only [h0, h7, if_true, if_false]; exact hskip
 by_cases h1 : (o.length : Int) ≥ (s.length : Int)
 ·simp only [h0, h7, h1, if_true, if_false]; exact hskip
 simp only [h0, h7, h1, if_false]; have e : (Int.tmod (wrap64 ((s.length : Int) + (o.length : Int))) 2 == 0) = decide ((s.length + o.length) % 2 = 0) := by
  rw [w64 (by omega), Int.tmod_eq_emod_of_nonneg (by omega)]; rw [Bool.eq_iff_iff, beq_iff_eq, decide_eq_true_eq]
  omega
 rw [e]
 by_cases h2 : (s.length + o.length) % 2 = 0
 ·simp only [h2, decide_true]; exact hskip
 simp only [h2, decide_false]; refine Ev.succ ?_; simp only [Lw_CloudMiddle.j0, Bool.false_eq_true, if_false, CopyInts_eq o (by omega), Option.bind_some, show o.length + s.length < 17592186044416 by omega, if_true]; refine Ev.bind (HeightsErr_ev (o ++ s) (by rw [List.length_append]; omega)) ?_
 by_cases hm : mE (o ++ s) = 0
 ·simp only [hm, if_true, show 0 < (s.length : Int) by omega]; refine Middle_l0 s o (by omega) (by omega) (by omega) hm (s.length - 1) 1 _ _ (by omega) (fun x hx => ?_); rw [List.take_add_one, show s[0]? = some (rd s 0) by rw [show (0 : Int) = ((0 : Nat) : Int) from rfl, rd_nat]; simp [List.getD_eq_getElem?_getD, show 0 < s.length by omega]] at hx
  simp at hx; subst hx; omega
 ·simp only [hm, if_false]; exact Ev.some
theorem CloudMiddle_pure (s : List Int) (hs : s.length ≤ maxLen) (_ : ∀ x ∈ s, (Lit.int .i64 x).wf = true) (o : List Int) (ho : o.length ≤ maxLen) (_ : ∀ x ∈ o, (Lit.int .i64 x).wf = true) : ∃ k, Lw_CloudMiddle.f k s o = some true := (CloudMiddle_ev s o hs ho).ex
end Go.Proofs.Yteiafijbgjgiaaa.P
