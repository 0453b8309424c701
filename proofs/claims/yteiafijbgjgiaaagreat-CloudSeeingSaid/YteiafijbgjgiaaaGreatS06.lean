/-
PLAIN LAW: what the walks compute answers as the statement says (no program in sight; Ev: from some number of rounds on).
-/
import Derived.Test.YteiafijbgjgiaaaGreatS05
namespace Go.Proofs.YteiafijbgjgiaaaGreat.P
open Go Go.RowKit Go.Proofs.YteiafijbgjgiaaaGreat.A Go.Proofs.YteiafijbgjgiaaaGreatW.PrintWords Go.Proofs.YteiafijbgjgiaaaGreatW.PrintLast Go.Proofs.YteiafijbgjgiaaaGreatW.PrintMore
set_option linter.unusedSimpArgs false
set_option linter.unusedVariables false
def Ev {α : Type} (f : Nat → Option α) (r : α) : Prop := ∃ k, ∀ j, k ≤ j → f j = some r

theorem Ev.some {α : Type} {r : α} : Ev (fun _ => Option.some r) r := ⟨0, fun _ _ => rfl⟩
theorem Ev.bind {α β : Type} {f : Nat → Option α} {g : Nat → α → Option β} {a : α} {b : β} (h : Ev f a) (h2 : Ev (fun k => g k a) b) : Ev (fun k => (f k).bind (g k)) b := by
 obtain ⟨k, hk⟩ := h; obtain ⟨m, hm⟩ := h2; exact ⟨max k m, fun j hj => by show (f j).bind (g j) = _; rw [hk j (by omega)]; exact hm j (by omega)⟩
theorem Ev.succ {α : Type} {f : Nat → Option α} {r : α} (h : Ev (fun k => f (k + 1)) r) : Ev f r := by
 obtain ⟨k, hk⟩ := h; exact ⟨k + 1, fun j hj => by obtain ⟨m, rfl⟩ : ∃ m, j = m + 1 := ⟨j - 1, by omega⟩; exact hk m (by omega)⟩
theorem Ev.congr {α : Type} {f g : Nat → Option α} {r : α} (e : ∀ k, f k = g k) (h : Ev f r) : Ev g r := by
 obtain ⟨k, hk⟩ := h; exact ⟨k, fun j hj => by rw [← e j]; exact hk j hj⟩
theorem Ev.ex {α : Type} {f : Nat → Option α} {r : α} (h : Ev f r) : ∃ k, f k = Option.some r := let ⟨k, hk⟩ := h; ⟨k, hk k (Nat.le_refl _)⟩
theorem Ev.of_mono {α : Type} {f : Nat → Option α} {r : α} (hm : ∀ k, LeO (f k) (f (k + 1))) {k : Nat} (h : f k = Option.some r) : Ev f r := by
  refine ⟨k, fun j hj => ?_⟩
  induction j with
  | zero => obtain rfl : k = 0 := by omega
            exact h
  | succ j ih =>
    by_cases e : k = j + 1
    · subst e; exact h
    · exact hm j r (ih (by omega))
theorem Ev.iff {α : Type} {f : Nat → Option α} {r s : α} (h : Ev f r) (h2 : Ev f s) : r = s := by
 obtain ⟨k, hk⟩ := h; obtain ⟨m, hm⟩ := h2; exact Option.some.inj ((hk (max k m) (by omega)).symm.trans (hm (max k m) (by omega)))

theorem up {i : Nat} (h : i < 4611686018427387904) : wrap64 ((i : Int) + 1) = ((i + 1 : Nat) : Int) := by
 unfold wrap64; omega
theorem w64 {n : Int} (h : -9223372036854775808 ≤ n ∧ n ≤ 9223372036854775807) : wrap64 n = n := by unfold wrap64; omega
theorem rd_nat (l : List Int) (i : Nat) : rd l (i : Int) = l.getD i 0 := by unfold rd; simp
theorem drop_rd {l : List Int} {i : Nat} (h : i < l.length) : l.drop i = rd l (i : Int) :: l.drop (i + 1) := by
 rw [rd_nat, List.drop_eq_getElem_cons h]
 simp [List.getD_eq_getElem?_getD, h]
theorem drop_getD {α : Type} {l : List α} {i : Nat} (z : α) (h : i < l.length) : l.drop i = l.getD i z :: l.drop (i + 1) := by
 rw [List.drop_eq_getElem_cons h]
 simp [List.getD_eq_getElem?_getD, h]

theorem mx_eq (a b : Int) : mx a b = max a b := by unfold mx; split <;> omega
theorem i64_in {n : Int} (h : (Lit.int .i64 n).wf = true) : -9223372036854775808 ≤ n ∧ n ≤ 9223372036854775807 := by
 simp [Lit.wf, IntKind.min, IntKind.max, IntKind.signed, IntKind.bits] at h
 omega

theorem within_eq (a b c : Int) : L_within.f a b c = some (decide (b ≤ a ∧ a ≤ c)) := by
 unfold L_within.f
 by_cases h : b ≤ a <;> simp [h]
theorem Within_eq (a b c : Int) : Bs_Within.f a b c = some (decide (b ≤ a ∧ a ≤ c)) := by
 unfold Bs_Within.f
 by_cases h : b ≤ a <;> simp [h]
theorem unless_eq (b : Bool) (e : Int) : L_unless.f b e = some (if b = true then 0 else e) := by
 unfold L_unless.f
 cases b <;> simp
theorem Size_eq (a : Int) : Bs_Size.f a = some (mx a (wrap64 (-a))) := rfl

def fnz : List Int → Int
 | [] => 0
 | x :: r => if x = 0 then fnz r else x

theorem first_l0 (l : List Int) (hl : l.length < 4611686018427387904) : ∀ (n i : Nat), i + n = l.length → Ev (fun k => L_first.l0 k l (l.length : Int) (i : Int)) (fnz (l.drop i))
 | 0, i, h => by
  refine Ev.succ (f := fun k => L_first.l0 k l (l.length : Int) (i : Int)) ?_; have h1 : ¬ (i : Int) < (l.length : Int) := by omega
  simp only [L_first.l0, h1, if_false]; rw [show l.drop i = [] from List.drop_eq_nil_of_le (by omega)]; exact Ev.some
 | n + 1, i, h => by
  refine Ev.succ (f := fun k => L_first.l0 k l (l.length : Int) (i : Int)) ?_; have h1 : (i : Int) < (l.length : Int) := by omega
  have h2 : (0 : Int) ≤ (i : Int) := by omega
  simp only [L_first.l0, h1, h2, if_true, up (show i < 4611686018427387904 by omega)]; rw [drop_rd (show i < l.length by omega)]; unfold fnz
  by_cases e : rd l (i : Int) = 0
  ·simp only [e, if_true]; exact first_l0 l hl n (i + 1) (by omega)
  ·simp only [e, if_false]; exact Ev.some
theorem first_ev (l : List Int) (hl : l.length < 4611686018427387904) : Ev (fun k => L_first.f k l) (fnz l) := first_l0 l hl l.length 0 (by omega)

theorem size_abs {x : Int} (h : -9223372036854775807 ≤ x ∧ x ≤ 9223372036854775807) : mx x (wrap64 (-x)) = (x.natAbs : Int) := by
 rw [w64 (n := -x) (by omega), mx_eq]; omega
theorem gcd_step (x y : Int) : Int.gcd y (x.tmod y) = Int.gcd x y := by
 show Nat.gcd y.natAbs (x.tmod y).natAbs = Nat.gcd x.natAbs y.natAbs
 rw [Int.natAbs_tmod, Nat.gcd_comm, ← Nat.gcd_rec, Nat.gcd_comm]
theorem tmod_in {x y : Int} (h0 : y ≠ 0) : (x.tmod y).natAbs < y.natAbs := by
 rw [Int.natAbs_tmod]; exact Nat.mod_lt _ (by omega)
theorem Gcd_l0 : ∀ (m : Nat) (x y : Int), y.natAbs ≤ m → x.natAbs < 9223372036854775808 → y.natAbs < 9223372036854775808 → Ev (fun k => Bs_Gcd.l0 k x y) (Int.gcd x y : Int)
 | 0, x, y, h, hx, _ => by
  refine Ev.succ (f := fun k => Bs_Gcd.l0 k x y) ?_; obtain rfl : y = 0 := by omega
  simp only [Bs_Gcd.l0, if_true, Size_eq, Option.bind_some, size_abs (x := x) (by omega), Int.gcd_zero_right]; exact Ev.some
 | m + 1, x, y, h, hx, hy => by
  refine Ev.succ (f := fun k => Bs_Gcd.l0 k x y) ?_
  by_cases h0 : y = 0
  ·subst h0; simp only [Bs_Gcd.l0, if_true, Size_eq, Option.bind_some, size_abs (x := x) (by omega), Int.gcd_zero_right]; exact Ev.some
  ·simp only [Bs_Gcd.l0, h0, if_false]; have ht := tmod_in (x := x) h0; rw [← gcd_step x y]; exact Gcd_l0 m y (x.tmod y) (by omega) hy (by omega)
theorem divisor_l0 : ∀ (m : Nat) (x y : Int), y.natAbs ≤ m → x.natAbs < 9223372036854775808 → y.natAbs < 9223372036854775808 → Ev (fun k => L_divisor.l0 k x y) (Int.gcd x y : Int)
 | 0, x, y, h, hx, _ => by
  refine Ev.succ (f := fun k => L_divisor.l0 k x y) ?_; obtain rfl : y = 0 := by omega
  simp only [L_divisor.l0, if_true, size_abs (x := x) (by omega), Int.gcd_zero_right]; exact Ev.some
 | m + 1, x, y, h, hx, hy => by
  refine Ev.succ (f := fun k => L_divisor.l0 k x y) ?_
  by_cases h0 : y = 0
  ·subst h0; simp only [L_divisor.l0, if_true, size_abs (x := x) (by omega), Int.gcd_zero_right]; exact Ev.some
  ·simp only [L_divisor.l0, h0, if_false]; have ht := tmod_in (x := x) h0; rw [← gcd_step x y]; exact divisor_l0 m y (x.tmod y) (by omega) hy (by omega)
theorem CopyInts_eq (l : List Int) (h : l.length < 4611686018427) : Bs_CopyInts.f l = some l := by
 unfold Bs_CopyInts.f; simp only [Option.bind_some, List.length_nil, List.nil_append]; rw [if_pos (by omega)]
theorem both_eq (a b : Int) : Lw_both.f a b = some (if a = 0 then b else a) := by
 unfold Lw_both.f; split <;> rfl
theorem few_eq (l : List Int) : Lw_few.f l = some (decide (l.length ≤ 26)) := by
 unfold Lw_few.f; congr 2; apply propext; omega
def chk {α : Type} (p : α → Int) : List α → Nat → Int × Int
 | [], _ => (0, 0)
 | x :: r, i => if p x = 0 then chk p r (i + 1) else ((i : Int), p x)
theorem chk_all {α : Type} {p : α → Int} : ∀ {l : List α} {i : Nat}, (chk p l i).2 = 0 → ∀ x ∈ l, p x = 0
 | [], i, _ => by simp
 | y :: r, i, h => by
  unfold chk at h
  split at h <;> rename_i e
  ·intro x hx
   rcases List.mem_cons.mp hx with rfl | hx
   ·exact e
   ·exact chk_all h x hx
  ·exact absurd h e
theorem chk_loop {α : Type} (z : α) (p : α → Int) (l : List α) (hl : l.length < 4611686018427387904) (F : Nat → Int → Option (Int × Int))
  (h0 : ∀ k i, ¬ i < (l.length : Int) → F (k + 1) i = some (0, 0))
  (h1 : ∀ k (i : Nat), i < l.length → F (k + 1) (i : Int) = if p (l.getD i z) = 0 then F k (wrap64 ((i : Int) + 1)) else some ((i : Int), p (l.getD i z))) :
  ∀ (n i : Nat), i + n = l.length → Ev (fun k => F k (i : Int)) (chk p (l.drop i) i)
 | 0, i, h => by
  refine Ev.succ (f := fun k => F k (i : Int)) ?_; rw [show l.drop i = [] from List.drop_eq_nil_of_le (by omega)]; exact Ev.congr (fun k => (h0 k i (by omega)).symm) Ev.some
 | n + 1, i, h => by
  refine Ev.succ (f := fun k => F k (i : Int)) ?_; refine Ev.congr (fun k => (h1 k i (by omega)).symm) ?_; rw [drop_getD z (show i < l.length by omega)]; unfold chk
  by_cases e : p (l.getD i z) = 0
  ·simp only [e, if_true, up (show i < 4611686018427387904 by omega)]; exact chk_loop z p l hl F h0 h1 n (i + 1) (by omega)
  ·simp only [e, if_false]; exact Ev.some
theorem isSignal_eq (a : Int) : L_isSignal.f a = some (decide (0 ≤ a ∧ a ≤ 10000)) := by
 unfold L_isSignal.f; rw [within_eq]; rfl
theorem isConstant_eq (a : Int) : L_isConstant.f a = some (decide (1 ≤ a ∧ a ≤ 1000000)) := by
 unfold L_isConstant.f; rw [within_eq]; rfl
def sE (x : Int) : Int := if 0 ≤ x ∧ x ≤ 10000 then 0 else 2
def pE (l : List Int) : Int × Int := if l.length = 0 then (0, 10) else if 24 < l.length then (0, 8) else chk sE l 0
theorem CheckProfile_1_eq (a : Int) : L_CheckProfile_1.f a = some (sE a) := by
 unfold L_CheckProfile_1.f sE; simp only [isSignal_eq, unless_eq, Option.bind_some, decide_eq_true_eq]
theorem each_profile_ev (l : List Int) (hl : l.length < 4611686018427387904) : Ev (fun k => L_each_int_CheckProfile_1.f k l) (chk sE l 0) := by
 refine chk_loop 0 sE l hl (fun k i => L_each_int_CheckProfile_1.l0 k l (l.length : Int) i) (fun k i h => ?_) (fun k i h => ?_) l.length 0 (by omega)
 ·simp only [L_each_int_CheckProfile_1.l0, h, if_false]
 ·simp only [L_each_int_CheckProfile_1.l0, show (i : Int) < (l.length : Int) by omega, show (0 : Int) ≤ (i : Int) by omega, if_true, CheckProfile_1_eq, Option.bind_some, rd_nat]
theorem CheckProfile_ev (l : List Int) (hl : l.length < 4611686018427387904) : Ev (fun k => L_CheckProfile.f k l) (pE l) := by
 unfold L_CheckProfile.f; simp only [unless_eq, Option.bind_some]; refine Ev.bind (first_ev _ (by simp)) ?_; unfold pE
 by_cases h1 : l.length = 0
 ·simp only [h1, show ¬ ((0 : Nat) : Int) > 0 by omega, decide_false, fnz]; exact Ev.some
 ·by_cases h2 : 24 < l.length
  ·simp only [h1, h2, show (l.length : Int) > 0 by omega, show ¬ (l.length : Int) ≤ 24 by omega, decide_false, decide_true, fnz, if_true, if_false]; exact Ev.some
  ·simp only [h1, h2, show (l.length : Int) > 0 by omega, show (l.length : Int) ≤ 24 by omega, decide_true, fnz, if_true, if_false]; exact Ev.bind (each_profile_ev l hl) Ev.some
theorem RefCheckProfile_ev (l : List Int) (hl : l.length < 4611686018427387904) : Ev (fun k => Rf_CheckProfile.f k l) (pE l) := by
 unfold Rf_CheckProfile.f pE
 by_cases h1 : l.length = 0
 ·simp only [h1]; exact Ev.some
 ·by_cases h2 : 24 < l.length
  ·simp only [h1, h2, show ¬ (l.length : Int) = 0 by omega, show (l.length : Int) > 24 by omega, if_true, if_false]; exact Ev.some
  ·simp only [h1, h2, show ¬ (l.length : Int) = 0 by omega, show ¬ (l.length : Int) > 24 by omega, if_false]; refine chk_loop 0 sE l hl (fun k i => Rf_CheckProfile.l0 k l i) (fun k i h => ?_) (fun k i h => ?_) l.length 0 (by omega)
   ·simp only [Rf_CheckProfile.l0, h, if_false]
   ·simp only [Rf_CheckProfile.l0, show (i : Int) < (l.length : Int) by omega, show (0 : Int) ≤ (i : Int) by omega, if_true, Within_eq, Option.bind_some, rd_nat, sE, decide_eq_true_eq]
    split <;> simp
theorem open_ev (l : List Int) (hl : l.length < 4611686018427387904) : Ev (fun k => L_open.f k l) (l, (pE l).2) := by
 unfold L_open.f; exact Ev.bind (CheckProfile_ev l hl) Ev.some
theorem pE_ok {l : List Int} (h : (pE l).2 = 0) : 0 < l.length ∧ l.length ≤ 24 ∧ ∀ x ∈ l, 0 ≤ x ∧ x ≤ 10000 := by
 unfold pE at h
 split at h
 ·exact absurd h (by simp)
 split at h
 ·exact absurd h (by simp)
 refine ⟨by omega, by omega, fun x hx => ?_⟩; have := chk_all h x hx; unfold sE at this
 split at this <;> omega
def sm : List Int → Int
 | [] => 0
 | x :: r => x + sm r
theorem sm_append (a b : List Int) : sm (a ++ b) = sm a + sm b := by
  induction a with
  | nil => simp [sm]
  | cons x r ih => simp only [List.cons_append, sm, ih]; omega
theorem sm_nonneg : ∀ {l : List Int}, (∀ x ∈ l, 0 ≤ x ∧ x ≤ 10000) → 0 ≤ sm l ∧ sm l ≤ 10000 * (l.length : Int)
 | [], _ => by simp [sm]
 | x :: r, h => by
  have := sm_nonneg (l := r) (fun y hy => h y (List.mem_cons_of_mem _ hy)); have h2 := h x List.mem_cons_self; simp only [sm, List.length_cons]; omega
theorem take_succ_sm {l : List Int} {i : Nat} (h : i < l.length) : sm (l.take (i + 1)) = sm (l.take i) + l.getD i 0 := by
 rw [List.take_add_one, sm_append]
 simp [List.getD_eq_getElem?_getD, h, sm]
theorem sm_take {l : List Int} (hb : ∀ x ∈ l, 0 ≤ x ∧ x ≤ 10000) (i : Nat) (hl : l.length ≤ 24) : 0 ≤ sm (l.take i) ∧ sm (l.take i) ≤ 240000 := by
 have := sm_nonneg (l := l.take i) (fun x hx => hb x (List.mem_of_mem_take hx)); have h2 : (l.take i).length ≤ 24 := by rw [List.length_take]; omega
 omega
theorem sum_l0 (l : List Int) (hb : ∀ x ∈ l, 0 ≤ x ∧ x ≤ 10000) (hl : l.length ≤ 24) : ∀ (n i : Nat), i + n = l.length → Ev (fun k => L_profile_sum.l0 k (sm (l.take i)) l (l.length : Int) (i : Int)) (sm l)
 | 0, i, h => by
  refine Ev.succ (f := fun k => L_profile_sum.l0 k (sm (l.take i)) l (l.length : Int) (i : Int)) ?_; simp only [L_profile_sum.l0, show ¬ (i : Int) < (l.length : Int) by omega, if_false]; rw [List.take_of_length_le (by omega)]; exact Ev.some
 | n + 1, i, h => by
  refine Ev.succ (f := fun k => L_profile_sum.l0 k (sm (l.take i)) l (l.length : Int) (i : Int)) ?_; have hi : i < l.length := by omega
  have h1 := sm_take hb i hl; have h2 := sm_take hb (i + 1) hl; rw [take_succ_sm hi] at h2; simp only [L_profile_sum.l0, show (i : Int) < (l.length : Int) by omega, show (0 : Int) ≤ (i : Int) by omega, if_true, up (show i < 4611686018427387904 by omega), rd_nat]; rw [w64 (n := sm (l.take i) + l.getD i 0) (by omega), ← take_succ_sm hi]; exact sum_l0 l hb hl n (i + 1) (by omega)
theorem sum_ev (l : List Int) (hb : ∀ x ∈ l, 0 ≤ x ∧ x ≤ 10000) (hl : l.length ≤ 24) : Ev (fun k => L_profile_sum.f k l) (sm l) := by
 have := sum_l0 l hb hl l.length 0 (by omega); exact this
theorem Rest_l0 (l : List Int) (c : Int) (hc : -4000000 ≤ c ∧ c ≤ 4000000) (hb : ∀ x ∈ l, 0 ≤ x ∧ x ≤ 10000) (hl : l.length ≤ 24) (g : Nat) (hg : g ≤ l.length) : ∀ (n i : Nat), i + n = g → Ev (fun k => Rf_Rest.l0 k l (c - sm (l.take i)) (g : Int) (i : Int)) (c - sm (l.take g))
 | 0, i, h => by
  refine Ev.succ (f := fun k => Rf_Rest.l0 k l (c - sm (l.take i)) (g : Int) (i : Int)) ?_; simp only [Rf_Rest.l0, show ¬ (i : Int) < (g : Int) by omega, if_false]; rw [show i = g by omega]; exact Ev.some
 | n + 1, i, h => by
  refine Ev.succ (f := fun k => Rf_Rest.l0 k l (c - sm (l.take i)) (g : Int) (i : Int)) ?_; have hi : i < l.length := by omega
  have h1 := sm_take hb i hl; have h2 := sm_take hb (i + 1) hl; rw [take_succ_sm hi] at h2; simp only [Rf_Rest.l0, show (i : Int) < (g : Int) by omega, show (i : Int) < (l.length : Int) by omega, show (0 : Int) ≤ (i : Int) by omega, if_true, up (show i < 4611686018427387904 by omega), rd_nat]; rw [w64 (n := c - sm (l.take i) - l.getD i 0) (by omega), show c - sm (l.take i) - l.getD i 0 = c - sm (l.take (i + 1)) by rw [take_succ_sm hi]; omega]; exact Rest_l0 l c hc hb hl g hg n (i + 1) (by omega)
theorem Rest_ev (l : List Int) (c : Int) (hc : -4000000 ≤ c ∧ c ≤ 4000000) (hb : ∀ x ∈ l, 0 ≤ x ∧ x ≤ 10000) (hl : l.length ≤ 24) (g : Nat) (hg : g ≤ l.length) : Ev (fun k => Rf_Rest.f k l c (g : Int)) (c - sm (l.take g)) := by
 have := Rest_l0 l c hc hb hl g hg g 0 (by omega); rw [show c - sm (l.take 0) = c by simp [sm]] at this; exact this
def cE (a : Int) : Int := if 1 ≤ a ∧ a ≤ 1000000 then 0 else 2
theorem constantErr_eq (a : Int) : L_constantErr.f a = some (cE a) := by
 unfold L_constantErr.f cE; simp only [isConstant_eq, unless_eq, Option.bind_some, decide_eq_true_eq]
theorem ConstantErr_eq (a : Int) : Rf_ConstantErr.f a = some (cE a) := by
 unfold Rf_ConstantErr.f cE; simp only [Within_eq, Option.bind_some, decide_eq_true_eq]
 split <;> rfl
abbrev St := Option (List S40 × S40)
def fl : St → List S40
 | none => []
 | some (b, r) => b ++ [r]
def stepG (gap : Int) (s : St) (i : Int) : St :=
 match s with
 | none => some ([], ⟨i, i⟩)
 | some (b, r) => if i - r.f1 - 1 ≤ gap then some (b, ⟨r.f0, i⟩) else some (b ++ [r], ⟨i, i⟩)
def stepM (gap : Int) (s : St) (q : S40) : St :=
 match s with
 | none => some ([], q)
 | some (b, r) => if q.f0 - r.f1 - 1 ≤ gap then some (b, ⟨r.f0, q.f1⟩) else some (b ++ [r], q)
def G (p : Int → Bool) (gap : Int) : Nat → St
 | 0 => none
 | n + 1 => if p (n : Int) = true then stepG gap (G p gap n) (n : Int) else G p gap n
def mf (gap : Int) (l : List S40) : St := l.foldl (stepM gap) none
theorem mf_snoc (gap : Int) (l : List S40) (q : S40) : mf gap (l ++ [q]) = stepM gap (mf gap l) q := by simp [mf, List.foldl_append]
theorem G_last (p : Int → Bool) (gap : Int) : ∀ (n : Nat) (b : List S40) (r : S40), G p gap n = some (b, r) → r.f1 < n ∧ p r.f1 = true ∧ ∀ k : Int, r.f1 < k → k < n → p k = false
  | 0, b, r, h => by simp [G] at h
  | n + 1, b, r, h => by
    unfold G at h
    by_cases c : p (n : Int) = true
    · rw [if_pos c] at h
      cases e : G p gap n with
      | none => rw [e] at h; simp only [stepG, Option.some.injEq, Prod.mk.injEq] at h; obtain ⟨_, rfl⟩ := h; exact ⟨by simp; omega, c, fun k h1 h2 => by simp at h1; omega⟩
      | some s =>
        obtain ⟨b', r'⟩ := s; rw [e] at h; simp only [stepG] at h
        split at h <;> (simp only [Option.some.injEq, Prod.mk.injEq] at h; obtain ⟨_, rfl⟩ := h; exact ⟨by simp; omega, c, fun k h1 h2 => by simp at h1; omega⟩)
    · rw [if_neg c] at h; obtain ⟨h1, h2, h3⟩ := G_last p gap n b r h; refine ⟨by omega, h2, fun k hk hk2 => ?_⟩
      by_cases e : k = n
      · subst e; simpa using c
      · exact h3 k hk (by omega)
theorem mf_runs (p : Int → Bool) (gap : Int) (hg : 0 ≤ gap) : ∀ n, mf gap (fl (G p 0 n)) = G p gap n
  | 0 => rfl
  | n + 1 => by
    have ih := mf_runs p gap hg n; unfold G
    by_cases c : p (n : Int) = true
    · rw [if_pos c, if_pos c]
      cases e : G p 0 n with
      | none =>
        rw [e] at ih; simp only [fl, mf, List.foldl_nil] at ih; rw [← ih]; rfl
      | some s =>
        obtain ⟨b, r⟩ := s; obtain ⟨h1, h2, h3⟩ := G_last p 0 n b r e; rw [e] at ih; simp only [fl, mf_snoc] at ih; simp only [stepG]
        by_cases d : (n : Int) - r.f1 - 1 ≤ 0
        · rw [if_pos d]; simp only [fl, mf_snoc]; rw [← ih]; have hn : (n : Int) - r.f1 - 1 ≤ gap := by omega
          cases mf gap b with
          | none => simp only [stepM]; rw [if_pos hn]
          | some s =>
            obtain ⟨b', r'⟩ := s; simp only [stepM]
            by_cases f : r.f0 - r'.f1 - 1 ≤ gap
            · simp only [f, if_true]; rw [if_pos hn]
            · simp only [f, if_false]; rw [if_pos hn]
        · rw [if_neg d]; have : fl (some (b ++ [r], (⟨(n : Int), (n : Int)⟩ : S40))) = (b ++ [r]) ++ [(⟨(n : Int), (n : Int)⟩ : S40)] := rfl; rw [this, mf_snoc, mf_snoc, ih]
          cases G p gap n with
          | none => rfl
          | some s => rfl
    · rw [if_neg c, if_neg c]; exact ih
theorem Ev.shift {α : Type} {f : Nat → Option α} {r : α} (h : Ev f r) (d : Nat) : Ev (fun k => f (k + d)) r := by
 obtain ⟨k, hk⟩ := h; exact ⟨k, fun j hj => hk (j + d) (by omega)⟩
def ptE (n d : Int) : Int := if 0 < d ∧ Int.gcd n d = 1 then (if (0 ≤ n ∧ n ≤ d) ∧ d ≤ 1000000000 then 0 else 2) else 3
theorem divisor_pos {x y : Int} (hx : x.natAbs ≤ 9223372036854775808) (hy : 0 < y ∧ y ≤ 9223372036854775807) : Ev (fun k => L_divisor.f k x y) (Int.gcd x y : Int) := by
 have ht := tmod_in (x := x) (y := y) (by omega); have h : Ev (fun k => L_divisor.l0 k x y) (Int.gcd x y : Int) := by
  refine Ev.succ (f := fun k => L_divisor.l0 k x y) ?_; simp only [L_divisor.l0, show ¬ y = 0 by omega, if_false]; rw [← gcd_step x y]; exact divisor_l0 _ y (x.tmod y) (Nat.le_refl _) (by omega) (by omega)
 exact h
theorem Gcd_pos {x y : Int} (hx : x.natAbs ≤ 9223372036854775808) (hy : 0 < y ∧ y ≤ 9223372036854775807) : Ev (fun k => Bs_Gcd.f k x y) (Int.gcd x y : Int) := by
 have ht := tmod_in (x := x) (y := y) (by omega); have h : Ev (fun k => Bs_Gcd.l0 k x y) (Int.gcd x y : Int) := by
  refine Ev.succ (f := fun k => Bs_Gcd.l0 k x y) ?_; simp only [Bs_Gcd.l0, show ¬ y = 0 by omega, if_false]; rw [← gcd_step x y]; exact Gcd_l0 _ y (x.tmod y) (Nat.le_refl _) (by omega) (by omega)
 exact h
theorem partErr_j0 (b : Bool) (n d : Int) : Ev (fun k => L_partErr.j0 k b n d) (if b = true then 3 else (if (0 ≤ n ∧ n ≤ d) ∧ d ≤ 1000000000 then 0 else 2)) := by
 refine Ev.succ (f := fun k => L_partErr.j0 k b n d) ?_; simp only [L_partErr.j0, within_eq, unless_eq, Option.bind_some, decide_eq_true_eq]
 by_cases hb : b = true
 ·simp only [hb, if_true]; exact Ev.some
 ·simp only [hb, if_false]
  by_cases h : 0 ≤ n ∧ n ≤ d
  ·simp only [h, and_self, true_and, if_true]; exact Ev.some
  ·simp only [h, false_and, if_false, Bool.false_eq_true]; exact Ev.some
theorem partErr_ev {n d : Int} (hn : -9223372036854775808 ≤ n ∧ n ≤ 9223372036854775807) (hd : -9223372036854775808 ≤ d ∧ d ≤ 9223372036854775807) : Ev (fun k => L_partErr.f k n d) (ptE n d) := by
 unfold L_partErr.f ptE
 by_cases h0 : d ≤ 0
 ·simp only [h0, if_true, show ¬ 0 < d by omega, false_and, if_false]; exact partErr_j0 true n d
 ·simp only [h0, if_false, show 0 < d by omega, true_and]; refine Ev.bind (divisor_pos (by omega) (by omega)) ?_
  by_cases h1 : Int.gcd n d = 1
  ·simp only [h1, if_true]; exact partErr_j0 _ n d
  ·simp only [h1, if_false]; have : ((Int.gcd n d : Int) != 1) = true := by simp; omega
   rw [this]; exact partErr_j0 true n d
theorem PartErr_ev {n d : Int} (hn : -9223372036854775808 ≤ n ∧ n ≤ 9223372036854775807) (hd : -9223372036854775808 ≤ d ∧ d ≤ 9223372036854775807) : Ev (fun k => Rf_PartErr.f k n d) (ptE n d) := by
 unfold Rf_PartErr.f Bs_IsLowest.f ptE
 by_cases h0 : 0 < d
 ·simp only [gt_iff_lt, h0, if_true, true_and]; refine Ev.bind (a := decide (Int.gcd n d = 1)) (Ev.bind (Gcd_pos (by omega) (by omega)) (by rw [show ((Int.gcd n d : Int) == 1) = decide (Int.gcd n d = 1) by rw [Bool.eq_iff_iff]; simp; omega]; exact Ev.some)) ?_; simp only [Within_eq, Option.bind_some, decide_eq_true_eq]
  by_cases h1 : Int.gcd n d = 1
  ·simp only [h1, if_true]
   by_cases h2 : 0 ≤ n ∧ n ≤ d
   ·simp only [h2, and_self, true_and, if_true]
    by_cases h3 : d ≤ 1000000000
    ·rw [if_neg (by omega), if_pos h3]; exact Ev.some
    ·rw [if_pos (by omega), if_neg h3]; exact Ev.some
   ·simp only [h2, false_and, if_false]; exact Ev.some
  ·simp only [h1, if_false]; exact Ev.some
 ·simp only [gt_iff_lt, h0, if_false, false_and, Option.bind_some, Bool.false_eq_true]; exact Ev.some
theorem ptE_ok {n d : Int} (h : ptE n d = 0) : 0 ≤ n ∧ n ≤ d ∧ 0 < d ∧ d ≤ 1000000000 ∧ Int.gcd n d = 1 := by
 unfold ptE at h
 split at h
 ·split at h
  ·omega
  ·omega
 ·omega
theorem fnz2 (a b : Int) : fnz [a, b] = if a = 0 then b else a := by
 unfold fnz fnz fnz; split
 ·split <;> simp_all
 ·rfl
theorem fnz3 (a b c : Int) : fnz [a, b, c] = if a = 0 then (if b = 0 then c else b) else a := by
 rw [fnz, fnz2]
theorem fnz4 (a b c d : Int) : fnz [a, b, c, d] = if a = 0 then (if b = 0 then (if c = 0 then d else c) else b) else a := by
 rw [fnz, fnz3]
theorem ProfileErr_ev (l : List Int) (hl : l.length < 4611686018427387904) : Ev (fun k => Rf_ProfileErr.f k l) (pE l).2 := by
 unfold Rf_ProfileErr.f; exact Ev.bind (RefCheckProfile_ev l hl) Ev.some
theorem isGates_eq (a : Int) : L_isGates.f a = some (decide (0 ≤ a ∧ a ≤ 24)) := by
 unfold L_isGates.f; rw [within_eq]; rfl

theorem sum_any (l : List Int) (hl : l.length < 4611686018427387904) : ∃ v, Ev (fun k => L_profile_sum.f k l) v := by
 have : ∀ (n i : Nat) (s : Int), i + n = l.length → ∃ v, Ev (fun k => L_profile_sum.l0 k s l (l.length : Int) (i : Int)) v := by
  intro n
  induction n with
  | zero =>
   intro i s h; refine ⟨s, Ev.succ (f := fun k => L_profile_sum.l0 k s l (l.length : Int) (i : Int)) ?_⟩; simp only [L_profile_sum.l0, show ¬ (i : Int) < (l.length : Int) by omega, if_false]; exact Ev.some
  | succ n ih =>
   intro i s h; obtain ⟨v, hv⟩ := ih (i + 1) (wrap64 (s + l.getD i 0)) (by omega); refine ⟨v, Ev.succ (f := fun k => L_profile_sum.l0 k s l (l.length : Int) (i : Int)) ?_⟩; simp only [L_profile_sum.l0, show (i : Int) < (l.length : Int) by omega, show (0 : Int) ≤ (i : Int) by omega, if_true, up (show i < 4611686018427387904 by omega), rd_nat]; exact hv
 exact this l.length 0 0 (by omega)
def vis (l : List Int) (c n d : Int) : Nat → Nat → Int
 | 0, i => (i : Int)
 | m + 1, i => if (c - sm (l.take (i + 1))) * d ≤ n * c then (i : Int) else vis l c n d m (i + 1)
theorem prod_in {x d : Int} (hx : 0 ≤ x ∧ x ≤ 1000000) (hd : 0 ≤ d ∧ d ≤ 1000000000) : 0 ≤ x * d ∧ x * d ≤ 1000000000000000 := by
 refine ⟨Int.mul_nonneg hx.1 hd.1, ?_⟩; have := Int.mul_le_mul hx.2 hd.2 hd.1 (by omega)
 omega
theorem sm_le {l : List Int} (hb : ∀ x ∈ l, 0 ≤ x ∧ x ≤ 10000) (i : Nat) : sm (l.take i) ≤ sm l := by
 have h : sm l = sm (l.take i) + sm (l.drop i) := by rw [← sm_append, List.take_append_drop]
 have := (sm_nonneg (l := l.drop i) (fun y hy => hb y (List.mem_of_mem_drop hy))).1
 omega
theorem Vis_l0 (l : List Int) (c n d : Int) (hb : ∀ x ∈ l, 0 ≤ x ∧ x ≤ 10000) (hl : l.length ≤ 24) (hc : 1 ≤ c ∧ c ≤ 1000000) (hs : sm l ≤ c) (hn : 0 ≤ n ∧ n ≤ 1000000000) (hd : 0 ≤ d ∧ d ≤ 1000000000) : ∀ (m i : Nat), i + m = l.length → Ev (fun k => L_VisibilityOf.l0 k c l (c - sm (l.take i)) l (l.length : Int) (i : Int) n d) (vis l c n d m i, 0)
 | 0, i, h => by
  refine Ev.succ (f := fun k => L_VisibilityOf.l0 k c l (c - sm (l.take i)) l (l.length : Int) (i : Int) n d) ?_; simp only [L_VisibilityOf.l0, show ¬ (i : Int) < (l.length : Int) by omega, if_false]; rw [show i = l.length by omega]; exact Ev.some
 | m + 1, i, h => by
  refine Ev.succ (f := fun k => L_VisibilityOf.l0 k c l (c - sm (l.take i)) l (l.length : Int) (i : Int) n d) ?_; have hi : i < l.length := by omega
  have h1 := sm_take hb i hl; have h2 := sm_take hb (i + 1) hl; have h3 := sm_le hb (i + 1); have e : c - sm (l.take i) - l.getD i 0 = c - sm (l.take (i + 1)) := by rw [take_succ_sm hi]; omega
  simp only [L_VisibilityOf.l0, show (i : Int) < (l.length : Int) by omega, show (0 : Int) ≤ (i : Int) by omega, if_true, up (show i < 4611686018427387904 by omega), rd_nat]; rw [w64 (n := c - sm (l.take i) - l.getD i 0) (by omega), e]; have p1 := prod_in (x := c - sm (l.take (i + 1))) (d := d) (by omega) hd; have p2 := prod_in (x := c) (d := n) (by omega) hn; rw [Int.mul_comm] at p2; rw [w64 (n := (c - sm (l.take (i + 1))) * d) (by omega), w64 (n := n * c) (by omega)]; unfold vis
  by_cases q : (c - sm (l.take (i + 1))) * d ≤ n * c
  ·simp only [q, if_true]; exact Ev.some
  ·simp only [q, if_false]; exact Vis_l0 l c n d hb hl hc hs hn hd m (i + 1) (by omega)
theorem RefVis_l0 (l : List Int) (c n d : Int) (hb : ∀ x ∈ l, 0 ≤ x ∧ x ≤ 10000) (hl : l.length ≤ 24) (hc : 1 ≤ c ∧ c ≤ 1000000) (hs : sm l ≤ c) (hn : 0 ≤ n ∧ n ≤ 1000000000) (hd : 0 ≤ d ∧ d ≤ 1000000000) : ∀ (m i : Nat), i + m = l.length → Ev (fun k => Rf_Visibility.l0 k l c (i : Int) n d) (vis l c n d m i)
 | 0, i, h => by
  refine Ev.succ (f := fun k => Rf_Visibility.l0 k l c (i : Int) n d) ?_; simp only [Rf_Visibility.l0, show ¬ (i : Int) < (l.length : Int) by omega, if_false]; rw [show i = l.length by omega]; exact Ev.some
 | m + 1, i, h => by
  refine Ev.succ (f := fun k => Rf_Visibility.l0 k l c (i : Int) n d) ?_; have hi : i < l.length := by omega
  have h2 := sm_take hb (i + 1) hl; have h3 := sm_le hb (i + 1); simp only [Rf_Visibility.l0, show (i : Int) < (l.length : Int) by omega, if_true, up (show i < 4611686018427387904 by omega)]; refine Ev.bind (Rest_ev l c (by omega) hb hl (i + 1) (by omega)) ?_; have p1 := prod_in (x := c - sm (l.take (i + 1))) (d := d) (by omega) hd; have p2 := prod_in (x := c) (d := n) (by omega) hn; rw [Int.mul_comm] at p2; rw [w64 (n := (c - sm (l.take (i + 1))) * d) (by omega), w64 (n := n * c) (by omega)]; unfold vis
  by_cases q : (c - sm (l.take (i + 1))) * d ≤ n * c
  ·simp only [q, if_true]; exact Ev.some
  ·simp only [q, if_false]; exact RefVis_l0 l c n d hb hl hc hs hn hd m (i + 1) (by omega)
theorem RefVis_ev (l : List Int) (c n d : Int) (hb : ∀ x ∈ l, 0 ≤ x ∧ x ≤ 10000) (hl : l.length ≤ 24) (hc : 1 ≤ c ∧ c ≤ 1000000) (hs : sm l ≤ c) (hn : 0 ≤ n ∧ n ≤ 1000000000) (hd : 0 ≤ d ∧ d ≤ 1000000000) : Ev (fun k => Rf_Visibility.f k l c n d) (vis l c n d l.length 0) := RefVis_l0 l c n d hb hl hc hs hn hd l.length 0 (by omega)
def vE (l : List Int) (c n d : Int) : Int := if (pE l).2 = 0 then (if cE c = 0 then (if ptE n d = 0 then (if sm l ≤ c then 0 else 20) else ptE n d) else cE c) else (pE l).2
theorem cE_ok {c : Int} (h : cE c = 0) : 1 ≤ c ∧ c ≤ 1000000 := by unfold cE at h; split at h <;> omega
theorem VisibilityOf_ev (l : List Int) (c n d : Int) (hl : l.length < 4611686018427387904) (hn : -9223372036854775808 ≤ n ∧ n ≤ 9223372036854775807) (hd : -9223372036854775808 ≤ d ∧ d ≤ 9223372036854775807) :
  Ev (fun k => L_VisibilityOf.f k l c n d) (if vE l c n d = 0 then (vis l c n d l.length 0, 0) else (0, vE l c n d)) := by
 unfold L_VisibilityOf.f; refine Ev.bind (open_ev l hl) ?_; simp only [constantErr_eq, Option.bind_some]; refine Ev.bind (partErr_ev hn hd) ?_; obtain ⟨v, hv⟩ := sum_any l hl; refine Ev.bind hv ?_; simp only [unless_eq, Option.bind_some, decide_eq_true_eq]; refine Ev.bind (first_ev _ (by simp)) ?_; rw [fnz4]
 by_cases h1 : (pE l).2 = 0
 ·obtain ⟨h3, h4, h5⟩ := pE_ok h1; obtain rfl := Ev.iff hv (sum_ev l h5 h4); have e : (if (pE l).2 = 0 then (if cE c = 0 then (if ptE n d = 0 then (if sm l ≤ c then 0 else 20) else ptE n d) else cE c) else (pE l).2) = vE l c n d := rfl; rw [e]
  by_cases h : vE l c n d = 0
  ·simp only [h, if_true]; unfold vE at h; rw [if_pos h1] at h
   split at h
   ·split at h
    ·split at h
     ·rename_i q1 q2 q3
      have := ptE_ok q2; have h9 := Vis_l0 l c n d h5 h4 (cE_ok q1) q3 (by omega) (by omega) l.length 0 (by omega); rw [show c - sm (l.take 0) = c by simp [sm]] at h9; exact h9
     ·exact absurd h (by simp)
    ·rename_i q; exact absurd h q
   ·rename_i q; exact absurd h q
  ·simp only [h, if_false]; exact Ev.some
 ·have e : vE l c n d = (pE l).2 := by unfold vE; rw [if_neg h1]
  rw [e]; simp only [h1, if_false]; exact Ev.some

theorem rd_snoc (b : List S40) (r : S40) : rd_T40 (b ++ [r]) (b.length : Int) = r := by
 unfold rd_T40; simp
theorem set_snoc (b : List S40) (r x : S40) : (b ++ [r]).set b.length x = b ++ [x] := by simp
theorem len_snoc (b : List S40) (r : S40) (h : b.length < 1000) : wrap64 (((b ++ [r]).length : Int) - 1) = (b.length : Int) := by
 rw [List.length_append, List.length_singleton]; unfold wrap64; omega
theorem fl_len (p : Int → Bool) (gap : Int) : ∀ n, (fl (G p gap n)).length ≤ n
  | 0 => by simp [G, fl]
  | n + 1 => by
    have ih := fl_len p gap n; unfold G
    split
    · cases e : G p gap n with
      | none => simp [stepG, fl]
      | some s =>
        obtain ⟨b, r⟩ := s; rw [e] at ih; simp only [fl, List.length_append, List.length_singleton] at ih; simp only [stepG]
        split <;> simp only [fl, List.length_append, List.length_singleton] <;> omega
    · omega
theorem G_in_range (p : Int → Bool) (gap : Int) : ∀ n, ∀ r ∈ fl (G p gap n), 0 ≤ r.f0 ∧ r.f0 ≤ r.f1 ∧ r.f1 < n
 | 0 => fun r h => by simp [G, fl] at h
 | n + 1 => fun r h => by
  have ih := G_in_range p gap n; unfold G at h
  split at h
  ·cases e : G p gap n with
   | none =>
    rw [e] at h; simp only [stepG, fl, List.nil_append, List.mem_singleton] at h; subst h; exact ⟨by simp, by simp, by simp; omega⟩
   | some s =>
    obtain ⟨b, q⟩ := s; have hl := G_last p gap n b q e; rw [e] at h ih; have hq := ih q (by simp [fl]); simp only [stepG] at h
    split at h <;> simp only [fl, List.mem_append, List.mem_singleton] at h
    ·rcases h with h | rfl
     ·have := ih r (by simp [fl, h]); omega
     ·exact ⟨hq.1, by simp; omega, by simp; omega⟩
    ·rcases h with h | rfl
     ·have := ih r (by simp only [fl, List.mem_append, List.mem_singleton]; exact h); omega
     ·exact ⟨by simp, by simp, by simp; omega⟩
  ·have := ih r h; omega
theorem fl_some (b : List S40) (r : S40) : fl (some (b, r)) = b ++ [r] := rfl
theorem runs_l0 (P : Int → Bool) (pk : Nat → Int → Option Bool) (n : Nat) (hn : n ≤ 30) (hp : ∀ i : Nat, i < n → Ev (fun k => pk k (i : Int)) (P (i : Int))) : ∀ (m i : Nat), i + m = n → ∀ d, Ev (fun k => L_runs.l0 (pk (k + d)) k (fl (G P 0 i)) (n : Int) (i : Int)) (fl (G P 0 n))
 | 0, i, h, d => by
  refine Ev.succ (f := fun k => L_runs.l0 (pk (k + d)) k (fl (G P 0 i)) (n : Int) (i : Int)) ?_; simp only [L_runs.l0, show ¬ (i : Int) < (n : Int) by omega, if_false]; rw [show i = n by omega]; exact Ev.some
 | m + 1, i, h, d => by
  refine Ev.succ (f := fun k => L_runs.l0 (pk (k + d)) k (fl (G P 0 i)) (n : Int) (i : Int)) ?_; obtain ⟨x, hx⟩ : ∃ x, x = fl (G P 0 i) := ⟨_, rfl⟩; rw [← hx]; have hi : i < n := by omega
  have ih := runs_l0 P pk n hn hp m (i + 1) (by omega) (d + 1); have hlen := fl_len P 0 i; simp only [L_runs.l0, show (i : Int) < (n : Int) by omega, if_true, up (show i < 4611686018427387904 by omega)]; refine Ev.bind (f := fun k => pk (k + 1 + d) (i : Int)) (by have := (hp i hi).shift (1 + d); simpa only [Nat.add_assoc] using this) ?_; have ekd : ∀ k : Nat, k + 1 + d = k + (d + 1) := fun k => by omega
  simp only [ekd]
  by_cases c : P (i : Int) = true
  ·have eG : G P 0 (i + 1) = stepG 0 (G P 0 i) (i : Int) := by rw [G, if_pos c]
   rw [eG] at ih; simp only [c, if_true]
   cases e : G P 0 i with
   | none =>
    rw [e] at ih hx; obtain rfl : x = [] := hx; simp only [List.length_nil, show ¬ (wrap64 (((0 : Nat) : Int) - 1) ≥ 0) by unfold wrap64; omega, if_false, show (0 : Nat) < 8796093022208 by omega, if_true]; exact ih
   | some s =>
    obtain ⟨b, r⟩ := s; have hl := G_last P 0 i b r e; have hr := G_in_range P 0 i r (by rw [e]; simp [fl]); rw [e] at ih hlen hx; obtain rfl : x = b ++ [r] := hx; simp only [fl_some, List.length_append, List.length_singleton] at hlen; simp only [len_snoc b r (by omega)]; simp only [show (b.length : Int) ≥ 0 by omega, show (0 : Int) ≤ (b.length : Int) by omega, if_true]; have h1 : (b.length : Int) < ((b ++ [r]).length : Int) := by simp only [List.length_append, List.length_singleton]; omega
    simp only [h1, if_true, rd_snoc, Int.toNat_natCast, set_snoc]; rw [w64 (n := (i : Int) - 1) (by omega)]; have h2 : (b ++ [r]).length < 8796093022208 := by simp only [List.length_append, List.length_singleton]; omega
    by_cases q : r.f1 = (i : Int) - 1
    ·simp only [q, if_true]; simp only [stepG, show (i : Int) - r.f1 - 1 ≤ 0 by omega, if_true, fl_some] at ih; exact ih
    ·simp only [q, if_false, h2, if_true]; simp only [stepG, show ¬ (i : Int) - r.f1 - 1 ≤ 0 by omega, if_false, fl_some] at ih; exact ih
  ·have eG : G P 0 (i + 1) = G P 0 i := by rw [G, if_neg c]
   rw [eG] at ih; simp only [c, if_false, Bool.false_eq_true]; rw [hx]; exact ih
theorem runs_ev (P : Int → Bool) (pk : Nat → Int → Option Bool) (n : Nat) (hn : n ≤ 30) (hp : ∀ i : Nat, i < n → Ev (fun k => pk k (i : Int)) (P (i : Int))) : Ev (fun k => L_runs.f (pk k) k (n : Int)) (fl (G P 0 n)) := runs_l0 P pk n hn hp n 0 (by omega) 0

def bl (l : List Int) (x0 x1 x2 x3 : Int) (i : Int) : Bool := decide (i < x0 ∨ rd l i ≥ x1 ∨ (sm l - sm (l.take i.toNat)) * x3 < x2 * sm l)
theorem isBlind_ev (l : List Int) (x0 x1 x2 x3 : Int) (hb : ∀ x ∈ l, 0 ≤ x ∧ x ≤ 10000) (hl : l.length ≤ 24) (h2 : 0 ≤ x2 ∧ x2 ≤ 1000000000) (h3 : 0 ≤ x3 ∧ x3 ≤ 1000000000) (i : Nat) (hi : i < l.length) : Ev (fun k => L_sight_isBlind.f k l x0 x1 x2 x3 (i : Int)) (bl l x0 x1 x2 x3 (i : Int)) := by
 unfold L_sight_isBlind.f; simp only [show (0 : Int) ≤ (i : Int) by omega, show (i : Int) ≤ (l.length : Int) by omega, show (i : Int) < (l.length : Int) by omega, if_true, Int.toNat_natCast]; have hd : ∀ x ∈ l.drop i, 0 ≤ x ∧ x ≤ 10000 := fun x hx => hb x (List.mem_of_mem_drop hx); refine Ev.bind (sum_ev (l.drop i) hd (by rw [List.length_drop]; omega)) ?_; have es : sm (l.drop i) = sm l - sm (l.take i) := by
  have : sm l = sm (l.take i) + sm (l.drop i) := by rw [← sm_append, List.take_append_drop]
  omega
 have b1 := sm_take hb i hl; have b2 := sm_take hb l.length hl; rw [List.take_length] at b2; have b3 := sm_le hb i; have p1 := prod_in (x := sm l - sm (l.take i)) (d := x3) (by omega) h3; have p2 := prod_in (x := sm l) (d := x2) (by omega) h2; rw [Int.mul_comm] at p2; unfold bl; simp only [Int.toNat_natCast]
 by_cases c1 : (i : Int) < x0
 ·simp only [c1, if_true, true_or, decide_true]; exact Ev.some
 ·by_cases c2 : rd l (i : Int) ≥ x1
  ·simp only [c1, c2, if_true, if_false, true_or, or_true, decide_true]; exact Ev.some
  ·simp only [c1, c2, if_false, false_or]; refine Ev.bind (sum_ev l hb hl) ?_; rw [es, w64 (by omega), w64 (by omega)]; exact Ev.some
theorem IsBlind_ev (l : List Int) (x0 x1 x2 x3 : Int) (hb : ∀ x ∈ l, 0 ≤ x ∧ x ≤ 10000) (hl : l.length ≤ 24) (h2 : 0 ≤ x2 ∧ x2 ≤ 1000000000) (h3 : 0 ≤ x3 ∧ x3 ≤ 1000000000) (i : Nat) (hi : i < l.length) : Ev (fun k => Rf_IsBlind.f k l x0 x1 x2 x3 (i : Int)) (bl l x0 x1 x2 x3 (i : Int)) := by
 unfold Rf_IsBlind.f; have b1 := sm_take hb i hl; have b2 := sm_take hb l.length hl; rw [List.take_length] at b2; have b3 := sm_le hb i; have p1 := prod_in (x := sm l - sm (l.take i)) (d := x3) (by omega) h3; have p2 := prod_in (x := sm l) (d := x2) (by omega) h2; rw [Int.mul_comm] at p2; refine Ev.bind (Rest_ev l 0 (by omega) hb hl l.length (Nat.le_refl _)) ?_; rw [List.take_length]; have e : wrap64 (-(0 - sm l)) = sm l := by rw [w64 (by omega)]; omega
 simp only [show (0 : Int) ≤ (i : Int) by omega, show (i : Int) < (l.length : Int) by omega, if_true, e]; unfold bl; simp only [Int.toNat_natCast]
 by_cases c1 : (i : Int) < x0
 ·simp only [c1, if_true, true_or, decide_true]; exact Ev.some
 ·by_cases c2 : rd l (i : Int) ≥ x1
  ·simp only [c1, c2, if_true, if_false, true_or, or_true, decide_true]; exact Ev.some
  ·simp only [c1, c2, if_false, false_or]; refine Ev.bind (Rest_ev l (sm l) (by omega) hb hl i (by omega)) ?_; rw [w64 (n := (sm l - sm (l.take i)) * x3) (by omega), w64 (n := x2 * sm l) (by omega)]; exact Ev.some
theorem Blind_l0 (l : List Int) (x0 x1 x2 x3 : Int) (hb : ∀ x ∈ l, 0 ≤ x ∧ x ≤ 10000) (hl : l.length ≤ 24) (h2 : 0 ≤ x2 ∧ x2 ≤ 1000000000) (h3 : 0 ≤ x3 ∧ x3 ≤ 1000000000) : ∀ (m i : Nat), i + m = l.length → Ev (fun k => Rf_Blind.l0 k l (fl (G (bl l x0 x1 x2 x3) 0 i)) (i : Int) x0 x1 x2 x3) (fl (G (bl l x0 x1 x2 x3) 0 l.length))
  | 0, i, h => by
    refine Ev.succ (f := fun k => Rf_Blind.l0 k l (fl (G (bl l x0 x1 x2 x3) 0 i)) (i : Int) x0 x1 x2 x3) ?_; simp only [Rf_Blind.l0, show ¬ (i : Int) < (l.length : Int) by omega, if_false]; rw [show i = l.length by omega]; exact Ev.some
  | m + 1, i, h => by
    refine Ev.succ (f := fun k => Rf_Blind.l0 k l (fl (G (bl l x0 x1 x2 x3) 0 i)) (i : Int) x0 x1 x2 x3) ?_; obtain ⟨x, hx⟩ : ∃ x, x = fl (G (bl l x0 x1 x2 x3) 0 i) := ⟨_, rfl⟩; rw [← hx]; have hi : i < l.length := by omega
    have ih := Blind_l0 l x0 x1 x2 x3 hb hl h2 h3 m (i + 1) (by omega); have hlen := fl_len (bl l x0 x1 x2 x3) 0 i; simp only [Rf_Blind.l0, show (i : Int) < (l.length : Int) by omega, if_true, up (show i < 4611686018427387904 by omega)]; refine Ev.bind (IsBlind_ev l x0 x1 x2 x3 hb hl h2 h3 i hi) ?_; generalize hP : bl l x0 x1 x2 x3 = P at *
    by_cases c : P (i : Int) = true
    · have eG : G P 0 (i + 1) = stepG 0 (G P 0 i) (i : Int) := by rw [G, if_pos c]
      rw [eG] at ih; simp only [c, if_true]
      cases e : G P 0 i with
      | none =>
        rw [e] at ih hx; obtain rfl : x = [] := hx; simp only [List.length_nil, show (0 : Nat) < 8796093022208 by omega, if_true]
        by_cases c0 : (i : Int) > 0
        · simp only [c0, if_true]; obtain ⟨j, rfl⟩ : ∃ j, i = j + 1 := ⟨i - 1, by omega⟩; rw [show wrap64 (((j + 1 : Nat) : Int) - 1) = (j : Int) by unfold wrap64; omega]; have hj := IsBlind_ev l x0 x1 x2 x3 hb hl h2 h3 j (by omega); rw [hP] at hj; refine Ev.bind hj ?_; have : P (j : Int) = false := by
            have e2 := e; rw [G] at e2
            by_cases cj : P (j : Int) = true
            · rw [if_pos cj] at e2
              cases e3 : G P 0 j with
              | none => rw [e3] at e2; simp [stepG] at e2
              | some s => obtain ⟨b', r'⟩ := s; rw [e3] at e2; simp only [stepG] at e2; split at e2 <;> cases e2
            · simpa using cj
          simp only [this, Bool.false_eq_true, if_false]; exact ih
        · simp only [c0, if_false]; exact ih
      | some s =>
        obtain ⟨b, r⟩ := s; have hq := G_last P 0 i b r e; have hr := G_in_range P 0 i r (by rw [e]; simp [fl]); rw [e] at ih hlen hx; obtain rfl : x = b ++ [r] := hx; simp only [fl_some, List.length_append, List.length_singleton] at hlen; simp only [show (i : Int) > 0 by omega, if_true]; obtain ⟨j, rfl⟩ : ∃ j, i = j + 1 := ⟨i - 1, by omega⟩; rw [show wrap64 (((j + 1 : Nat) : Int) - 1) = (j : Int) by unfold wrap64; omega]; have hj := IsBlind_ev l x0 x1 x2 x3 hb hl h2 h3 j (by omega); rw [hP] at hj; refine Ev.bind hj ?_; simp only [len_snoc b r (by omega)]; have h1 : (b.length : Int) < ((b ++ [r]).length : Int) := by simp only [List.length_append, List.length_singleton]; omega
        have h4 : (b ++ [r]).length < 8796093022208 := by simp only [List.length_append, List.length_singleton]; omega
        by_cases q : P (j : Int) = true
        · have hf : r.f1 = (j : Int) := by
            by_cases w : r.f1 = (j : Int)
            · exact w
            · have := hq.2.2 (j : Int) (by omega) (by omega); rw [this] at q; cases q
          simp only [q, if_true, show (0 : Int) ≤ (b.length : Int) by omega, h1, rd_snoc, Int.toNat_natCast, set_snoc]; simp only [stepG, show ((j + 1 : Nat) : Int) - r.f1 - 1 ≤ 0 by omega, if_true, fl_some] at ih; exact ih
        · have hf : r.f1 ≠ (j : Int) := fun w => q (by rw [← w]; exact hq.2.1); simp only [q, if_false, h4, if_true]; simp only [stepG, show ¬ ((j + 1 : Nat) : Int) - r.f1 - 1 ≤ 0 by omega, if_false, fl_some] at ih; exact ih
    · have eG : G P 0 (i + 1) = G P 0 i := by rw [G, if_neg c]
      rw [eG] at ih; simp only [c, if_false, Bool.false_eq_true]; rw [hx]; exact ih
theorem Blind_ev (l : List Int) (x0 x1 x2 x3 : Int) (hb : ∀ x ∈ l, 0 ≤ x ∧ x ≤ 10000) (hl : l.length ≤ 24) (h2 : 0 ≤ x2 ∧ x2 ≤ 1000000000) (h3 : 0 ≤ x3 ∧ x3 ≤ 1000000000) : Ev (fun k => Rf_Blind.f k l x0 x1 x2 x3) (fl (G (bl l x0 x1 x2 x3) 0 l.length)) := Blind_l0 l x0 x1 x2 x3 hb hl h2 h3 l.length 0 (by omega)
def bE (x0 x1 x2 x3 : Int) : Int := if (0 ≤ x0 ∧ x0 ≤ 24) ∧ (1 ≤ x1 ∧ x1 ≤ 10000) then ptE x2 x3 else 2
theorem BlindErr_ev {x0 x1 x2 x3 : Int} (hn : -9223372036854775808 ≤ x2 ∧ x2 ≤ 9223372036854775807) (hd : -9223372036854775808 ≤ x3 ∧ x3 ≤ 9223372036854775807) : Ev (fun k => Rf_BlindErr.f k x0 x1 x2 x3) (bE x0 x1 x2 x3) := by
 unfold Rf_BlindErr.f bE; simp only [Within_eq, Option.bind_some, decide_eq_true_eq]
 by_cases h1 : 0 ≤ x0 ∧ x0 ≤ 24
 ·by_cases h2 : 1 ≤ x1 ∧ x1 ≤ 10000
  ·simp only [h1, h2, and_self, if_true]; exact Ev.bind (PartErr_ev hn hd) Ev.some
  ·simp only [h1, h2, and_false, and_self, if_true, if_false]; exact Ev.some
 ·simp only [h1, false_and, if_false]; exact Ev.some
theorem bE_ok {x0 x1 x2 x3 : Int} (h : bE x0 x1 x2 x3 = 0) : ptE x2 x3 = 0 := by
 unfold bE at h; split at h
 ·exact h
 ·omega
theorem BlindIn_ev (l : List Int) (x0 x1 x2 x3 : Int) (hl : l.length < 4611686018427387904) (hn : -9223372036854775808 ≤ x2 ∧ x2 ≤ 9223372036854775807) (hd : -9223372036854775808 ≤ x3 ∧ x3 ≤ 9223372036854775807) :
  Ev (fun k => L_BlindIn.f k l x0 x1 x2 x3) (if (if (pE l).2 = 0 then bE x0 x1 x2 x3 else (pE l).2) = 0 then (fl (G (bl l x0 x1 x2 x3) 0 l.length), 0) else ([], (if (pE l).2 = 0 then bE x0 x1 x2 x3 else (pE l).2))) := by
 unfold L_BlindIn.f; refine Ev.bind (open_ev l hl) ?_; simp only [isGates_eq, within_eq, unless_eq, Option.bind_some, decide_eq_true_eq]; have fin : ∀ u : Int, (u = if (0 ≤ x0 ∧ x0 ≤ 24) ∧ (1 ≤ x1 ∧ x1 ≤ 10000) then 0 else 2) → Ev (fun k => (L_partErr.f k x2 x3).bind fun t => ((L_first.f k [(pE l).2, u, t]).bind fun t2 => if t2 = 0 then ((L_runs_blind.f k (l.length : Int) l x0 x1 x2 x3).bind fun t3 => some (t3, 0)) else some ([], t2))) (if (if (pE l).2 = 0 then bE x0 x1 x2 x3 else (pE l).2) = 0 then (fl (G (bl l x0 x1 x2 x3) 0 l.length), 0) else ([], (if (pE l).2 = 0 then bE x0 x1 x2 x3 else (pE l).2))) := by
  intro u hu; refine Ev.bind (partErr_ev hn hd) ?_; refine Ev.bind (first_ev _ (by simp)) ?_; have e : fnz [(pE l).2, u, ptE x2 x3] = (if (pE l).2 = 0 then bE x0 x1 x2 x3 else (pE l).2) := by
   rw [fnz3, hu]; unfold bE
   by_cases h : (0 ≤ x0 ∧ x0 ≤ 24) ∧ (1 ≤ x1 ∧ x1 ≤ 10000)
   ·simp only [h, and_self, if_true]
   ·simp only [h, if_false, show ¬ (2 : Int) = 0 by omega]
  rw [e]
  by_cases h : (if (pE l).2 = 0 then bE x0 x1 x2 x3 else (pE l).2) = 0
  ·simp only [h, if_true]
   by_cases h1 : (pE l).2 = 0
   ·rw [if_pos h1] at h; obtain ⟨h3, h4, h5⟩ := pE_ok h1; have hp := ptE_ok (bE_ok h); refine Ev.bind ?_ Ev.some; unfold L_runs_blind.f; exact runs_ev (bl l x0 x1 x2 x3) (fun k i => L_sight_isBlind.f k l x0 x1 x2 x3 i) l.length (by omega) (fun i hi => isBlind_ev l x0 x1 x2 x3 h5 h4 (by omega) (by omega) i hi)
   ·rw [if_neg h1] at h; exact absurd h h1
  ·simp only [h, if_false]; exact Ev.some
 by_cases h1 : 0 ≤ x0 ∧ x0 ≤ 24
 ·by_cases h2 : 1 ≤ x1 ∧ x1 ≤ 10000
  ·have := fin 0 (by rw [if_pos ⟨h1, h2⟩]); simp only [h1, h2, and_self, if_true]; exact this
  ·have := fin 2 (by rw [if_neg (fun h => h2 h.2)]); simp only [h1, h2, and_self, if_true, if_false]; exact this
 ·have := fin 2 (by rw [if_neg (fun h => h1 h.1)]); simp only [h1, if_false, Bool.false_eq_true]; exact this
def Sm (r : S40) : Prop := 0 ≤ r.f0 ∧ r.f0 ≤ 30 ∧ 0 ≤ r.f1 ∧ r.f1 ≤ 30
def keep (len : Int) (r : S40) : Bool := decide (len ≤ r.f1 - r.f0 + 1)
theorem del_eq {r : S40} (h : Sm r) (len : Int) : L_LayersIn_2.f r.f0 r.f1 len = some (!keep len r) := by
 unfold L_LayersIn_2.f keep; obtain ⟨h1, h2, h3, h4⟩ := h; rw [w64 (n := r.f1 - r.f0) (by omega), w64 (n := r.f1 - r.f0 + 1) (by omega)]
 congr 1
 by_cases c : len ≤ r.f1 - r.f0 + 1
 ·simp only [c, decide_true, Bool.not_true, decide_eq_false_iff_not]; omega
 ·simp only [c, decide_false, Bool.not_false, decide_eq_true_eq]; omega
theorem rd_drop {l : List S40} {i : Nat} (h : i < l.length) : l.drop i = rd_T40 l (i : Int) :: l.drop (i + 1) := by
 unfold rd_T40; exact drop_getD z40 h
theorem rd_mem {l : List S40} {i : Nat} (h : i < l.length) : rd_T40 l (i : Int) ∈ l := by
 have : rd_T40 l (i : Int) ∈ l.drop i := by rw [rd_drop h]; exact List.mem_cons_self
 exact List.mem_of_mem_drop this
def fi (len : Int) : List S40 → Nat → Int
 | [], _ => -1
 | x :: r, i => if keep len x = true then fi len r (i + 1) else (i : Int)
theorem IndexFunc_l0 (l : List S40) (len : Int) (hb : ∀ r ∈ l, Sm r) (hl : l.length < 1000) : ∀ (n i : Nat), i + n = l.length → Ev (fun k => api_Range_81.l0 k l len (l.length : Int) (i : Int)) (fi len (l.drop i) i)
 | 0, i, h => by
  refine Ev.succ (f := fun k => api_Range_81.l0 k l len (l.length : Int) (i : Int)) ?_; simp only [api_Range_81.l0, show ¬ (i : Int) < (l.length : Int) by omega, if_false]; rw [show l.drop i = [] from List.drop_eq_nil_of_le (by omega)]; exact Ev.some
 | n + 1, i, h => by
  refine Ev.succ (f := fun k => api_Range_81.l0 k l len (l.length : Int) (i : Int)) ?_; have hi : i < l.length := by omega
  rw [rd_drop hi]; simp only [api_Range_81.l0, show (i : Int) < (l.length : Int) by omega, show (0 : Int) ≤ (i : Int) by omega, if_true, up (show i < 4611686018427387904 by omega), del_eq (hb _ (rd_mem hi)), Option.bind_some, fi]
  by_cases c : keep len (rd_T40 l (i : Int)) = true
  ·simp only [c, Bool.not_true, Bool.false_eq_true, if_false, if_true]; exact IndexFunc_l0 l len hb hl n (i + 1) (by omega)
  ·simp only [c, if_false, show (!keep len (rd_T40 l (i : Int))) = true by simpa using c, if_true]; exact Ev.some
theorem fi_spec (len : Int) : ∀ (l : List S40) (i : Nat), (fi len l i = -1 ∧ l.filter (keep len) = l) ∨ ∃ j : Nat, j < l.length ∧ fi len l i = ((i + j : Nat) : Int) ∧ l.take j ++ (l.drop (j + 1)).filter (keep len) = l.filter (keep len)
 | [], i => .inl ⟨rfl, rfl⟩
 | x :: r, i => by
  unfold fi
  by_cases c : keep len x = true
  ·rw [if_pos c]
   rcases fi_spec len r (i + 1) with ⟨h1, h2⟩ | ⟨j, h1, h2, h3⟩
   ·exact .inl ⟨h1, by rw [List.filter_cons_of_pos c, h2]⟩
   ·refine .inr ⟨j + 1, by simp; omega, by rw [h2]; congr 1; omega, ?_⟩; rw [List.filter_cons_of_pos c, ← h3]; rfl
  ·rw [if_neg c]; exact .inr ⟨0, by simp, by simp, by rw [List.filter_cons_of_neg c]; rfl⟩
theorem Delete_l0 (len : Int) : ∀ (n : Nat) (x : List S40) (a i : Nat), (∀ r ∈ x, Sm r) → x.length < 1000 → a ≤ i → i + n = x.length → Ev (fun k => api_Range_52.l0 k x len (a : Int) (i : Int)) (x.take a ++ (x.drop i).filter (keep len))
 | 0, x, a, i, hb, hl, ha, h => by
  refine Ev.succ (f := fun k => api_Range_52.l0 k x len (a : Int) (i : Int)) ?_; simp only [api_Range_52.l0, show ¬ (i : Int) < (x.length : Int) by omega, show (0 : Int) ≤ (a : Int) by omega, show (a : Int) ≤ (x.length : Int) by omega, if_false, if_true, Int.toNat_natCast]; rw [show x.drop i = [] from List.drop_eq_nil_of_le (by omega)]; simp only [List.filter_nil, List.append_nil]; exact Ev.some
 | n + 1, x, a, i, hb, hl, ha, h => by
  refine Ev.succ (f := fun k => api_Range_52.l0 k x len (a : Int) (i : Int)) ?_; have hi : i < x.length := by omega
  have hm := rd_mem hi; rw [rd_drop hi]; simp only [api_Range_52.l0, show (i : Int) < (x.length : Int) by omega, show (0 : Int) ≤ (i : Int) by omega, show (0 : Int) ≤ (a : Int) by omega, show (a : Int) < (x.length : Int) by omega, if_true, up (show i < 4611686018427387904 by omega), up (show a < 4611686018427387904 by omega), del_eq (hb _ hm), Option.bind_some, Int.toNat_natCast]
  by_cases c : keep len (rd_T40 x (i : Int)) = true
  ·simp only [c, Bool.not_true, Bool.false_eq_true, if_false]; rw [List.filter_cons_of_pos c]; have hs : (⟨(rd_T40 x (i : Int)).f0, (rd_T40 x (i : Int)).f1⟩ : S40) = rd_T40 x (i : Int) := rfl; have ih := Delete_l0 len n (x.set a (rd_T40 x (i : Int))) (a + 1) (i + 1) (fun r hr => by
    rcases List.mem_or_eq_of_mem_set hr with hr | rfl
    ·exact hb r hr
    ·exact hb _ hm) (by rw [List.length_set]; exact hl) (by omega) (by rw [List.length_set]; omega)
   rw [List.drop_set_of_lt (show a < i + 1 by omega), List.take_succ_eq_append_getElem (show a < (x.set a (rd_T40 x (i : Int))).length by rw [List.length_set]; omega), List.getElem_set_self, List.take_set_of_le (Nat.le_refl _)] at ih; rw [List.append_assoc] at ih; exact ih
  ·simp only [show (!keep len (rd_T40 x (i : Int))) = true by simpa using c, if_true]; rw [List.filter_cons_of_neg c]; exact Delete_l0 len n x a (i + 1) hb hl (by omega) (by omega)
theorem Delete_ev (x : List S40) (len : Int) (hb : ∀ r ∈ x, Sm r) (hl : x.length < 1000) : Ev (fun k => api_Range_52.f k x len) (x.filter (keep len)) := by
 unfold api_Range_52.f; have h0 := IndexFunc_l0 x len hb hl x.length 0 (by omega); rw [List.drop_zero] at h0; refine Ev.bind (f := fun k => api_Range_81.f k x len) h0 ?_
 rcases fi_spec len x 0 with ⟨h1, h2⟩ | ⟨j, h1, h2, h3⟩
 ·rw [h1, h2]; simp only [if_true]; exact Ev.some
 ·rw [h2, Nat.zero_add]; simp only [show ¬ (j : Int) = -1 by omega, if_false, up (show j < 4611686018427387904 by omega)]; have := Delete_l0 len (x.length - (j + 1)) x j (j + 1) hb hl (by omega) (by omega); rw [h3] at this; exact this

theorem stepM_Sm {gap : Int} {s : St} {q : S40} (hs : ∀ r ∈ fl s, Sm r) (hq : Sm q) : ∀ r ∈ fl (stepM gap s q), Sm r := by
  intro r hr
  match s with
  | none => simp only [stepM, fl, List.nil_append, List.mem_singleton] at hr; subst hr; exact hq
  | some (b, t) =>
    simp only [stepM] at hr
    split at hr <;> simp only [fl, List.mem_append, List.mem_singleton] at hr
    · rcases hr with hr | rfl
      · exact hs r (by simp [fl, hr])
      · have h1 := hs t (by simp [fl]); exact ⟨h1.1, h1.2.1, hq.2.2.1, hq.2.2.2⟩
    · rcases hr with hr | rfl
      · exact hs r (by simp only [fl, List.mem_append, List.mem_singleton]; exact hr)
      · exact hq
theorem stepM_len {gap : Int} {s : St} {q : S40} : (fl (stepM gap s q)).length ≤ (fl s).length + 1 := by
  match s with
  | none => simp [stepM, fl]
  | some (b, t) => simp only [stepM]; split <;> simp [fl]
theorem Layers_l0 (rs : List S40) (x0 gap len : Int) (hb : ∀ r ∈ rs, Sm r) (hl : rs.length ≤ 30) (hg : 0 ≤ gap ∧ gap ≤ 24) : ∀ (n j : Nat) (s : St), j + n = rs.length → (∀ r ∈ fl s, Sm r) → (fl s).length ≤ j → Ev (fun k => L_LayersIn.l0 k (fl s) rs (rs.length : Int) (j : Int) x0 gap len) ((fl ((rs.drop j).foldl (stepM gap) s)).filter (keep len), 0)
 | 0, j, s, h, hs, hsl => by
  refine Ev.succ (f := fun k => L_LayersIn.l0 k (fl s) rs (rs.length : Int) (j : Int) x0 gap len) ?_; simp only [L_LayersIn.l0, show ¬ (j : Int) < (rs.length : Int) by omega, if_false]; rw [show rs.drop j = [] from List.drop_eq_nil_of_le (by omega)]; exact Ev.bind (Delete_ev (fl s) len hs (by omega)) Ev.some
 | n + 1, j, s, h, hs, hsl => by
  refine Ev.succ (f := fun k => L_LayersIn.l0 k (fl s) rs (rs.length : Int) (j : Int) x0 gap len) ?_; have hj : j < rs.length := by omega
  have hq := hb _ (rd_mem hj); have ih := Layers_l0 rs x0 gap len hb hl hg n (j + 1) (stepM gap s (rd_T40 rs (j : Int))) (by omega) (stepM_Sm hs hq) (by have := stepM_len (gap := gap) (s := s) (q := rd_T40 rs (j : Int)); omega); rw [rd_drop hj, List.foldl_cons]; obtain ⟨x, hx⟩ : ∃ x, x = fl s := ⟨_, rfl⟩; rw [← hx] at hsl ⊢; simp only [L_LayersIn.l0, show (j : Int) < (rs.length : Int) by omega, show (0 : Int) ≤ (j : Int) by omega, if_true, up (show j < 4611686018427387904 by omega)]; generalize rd_T40 rs (j : Int) = q at *
  match s with
  | none =>
   obtain rfl : x = [] := hx; simp only [List.length_nil, show ¬ (wrap64 (((0 : Nat) : Int) - 1) ≥ 0) by unfold wrap64; omega, if_false, show (0 : Nat) < 8796093022208 by omega, if_true]; exact ih
  | some (b, r) =>
   have hr := hs r (by simp [fl]); obtain rfl : x = b ++ [r] := hx; simp only [List.length_append, List.length_singleton] at hsl; simp only [len_snoc b r (by omega)]; have h1 : (b.length : Int) < ((b ++ [r]).length : Int) := by simp only [List.length_append, List.length_singleton]; omega
   have h2 : (b ++ [r]).length < 8796093022208 := by simp only [List.length_append, List.length_singleton]; omega
   obtain ⟨u1, u2, u3, u4⟩ := hr; obtain ⟨v1, v2, v3, v4⟩ := hq; simp only [show (b.length : Int) ≥ 0 by omega, show (0 : Int) ≤ (b.length : Int) by omega, h1, if_true, rd_snoc, Int.toNat_natCast, set_snoc]; rw [w64 (n := q.f0 - r.f1) (by omega), w64 (n := q.f0 - r.f1 - 1) (by omega)]
   by_cases c : q.f0 - r.f1 - 1 ≤ gap
   ·simp only [c, if_true]; simp only [stepM, c, if_true, fl_some] at ih ⊢; exact ih
   ·simp only [c, if_false, h2, if_true]; simp only [stepM, c, if_false, fl_some] at ih ⊢; exact ih
def rE (x0 x1 x2 : Int) : Int := if ((1 ≤ x0 ∧ x0 ≤ 10000) ∧ (0 ≤ x1 ∧ x1 ≤ 24)) ∧ (1 ≤ x2 ∧ x2 ≤ 24) then 0 else 2
theorem RuleErr_eq (x0 x1 x2 : Int) : Rf_RuleErr.f x0 x1 x2 = some (rE x0 x1 x2) := by
 unfold Rf_RuleErr.f rE; simp only [Within_eq, Option.bind_some, decide_eq_true_eq]
 by_cases h1 : 1 ≤ x0 ∧ x0 ≤ 10000
 ·by_cases h2 : 0 ≤ x1 ∧ x1 ≤ 24
  ·by_cases h3 : 1 ≤ x2 ∧ x2 ≤ 24
   ·simp only [h1, h2, h3, and_self, if_true]
   ·simp only [h1, h2, h3, and_self, and_false, if_true, if_false]
  ·simp only [h1, h2, and_false, false_and, if_true, if_false, and_self]
 ·simp only [h1, false_and, if_false]
theorem rE_ok {x0 x1 x2 : Int} (h : rE x0 x1 x2 = 0) : (1 ≤ x0 ∧ x0 ≤ 10000) ∧ (0 ≤ x1 ∧ x1 ≤ 24) ∧ (1 ≤ x2 ∧ x2 ≤ 24) := by
 unfold rE at h; split at h <;> omega
def cl (l : List Int) (x0 : Int) (i : Int) : Bool := decide (x0 ≤ rd l i)
theorem G_Sm (p : Int → Bool) (gap : Int) (n : Nat) (hn : n ≤ 30) : ∀ r ∈ fl (G p gap n), Sm r := fun r hr => by
 have := G_in_range p gap n r hr; exact ⟨by omega, by omega, by omega, by omega⟩
theorem LayersIn_j0 (l : List Int) (e x0 x1 x2 : Int) (b : Bool) (hok : (if e = 0 then (if b = true then 0 else 2) else e) = 0 → l.length ≤ 24 ∧ 0 ≤ x1 ∧ x1 ≤ 24) : Ev (fun k => L_LayersIn.j0 k e b x0 x1 x2 l) (if (if e = 0 then (if b = true then 0 else 2) else e) = 0 then ((fl (G (cl l x0) x1 l.length)).filter (keep x2), 0) else ([], (if e = 0 then (if b = true then 0 else 2) else e))) := by
 refine Ev.succ (f := fun k => L_LayersIn.j0 k e b x0 x1 x2 l) ?_; simp only [L_LayersIn.j0, unless_eq, Option.bind_some]; have hf : Ev (fun k => L_first.f k [e, if b = true then 0 else 2]) (if e = 0 then (if b = true then 0 else 2) else e) := by
  have := first_ev [e, if b = true then 0 else 2] (by simp); rw [fnz2] at this; exact this
 refine Ev.bind hf ?_; generalize (if e = 0 then (if b = true then 0 else 2) else e) = u at *
 by_cases h : u = 0
 ·obtain ⟨h4, hg⟩ := hok h; simp only [h, if_true]; have hr : Ev (fun k => L_runs_floor.f k (l.length : Int) l x0 x1 x2) (fl (G (cl l x0) 0 l.length)) := by
   unfold L_runs_floor.f; refine runs_ev (cl l x0) (fun _ => L_runs_floor.p l x0) l.length (by omega) (fun i hi => ?_); unfold L_runs_floor.p cl; simp only [show (0 : Int) ≤ (i : Int) by omega, show (i : Int) < (l.length : Int) by omega, if_true]; exact Ev.some
  refine Ev.bind hr ?_; have hlen := fl_len (cl l x0) 0 l.length; have := Layers_l0 (fl (G (cl l x0) 0 l.length)) x0 x1 x2 (G_Sm _ _ _ (by omega)) (by omega) hg (fl (G (cl l x0) 0 l.length)).length 0 none (by omega) (by simp [fl]) (by simp [fl]); rw [List.drop_zero] at this; have hm := mf_runs (cl l x0) x1 hg.1 l.length; unfold mf at hm; rw [hm] at this; exact this
 ·simp only [h, if_false]; exact Ev.some
def lE (l : List Int) (x0 x1 x2 : Int) : Int := if (pE l).2 = 0 then rE x0 x1 x2 else (pE l).2
theorem LayersIn_ev (l : List Int) (x0 x1 x2 : Int) (hl : l.length < 4611686018427387904) : Ev (fun k => L_LayersIn.f k l x0 x1 x2) (if lE l x0 x1 x2 = 0 then ((fl (G (cl l x0) x1 l.length)).filter (keep x2), 0) else ([], lE l x0 x1 x2)) := by
 unfold L_LayersIn.f; refine Ev.bind (open_ev l hl) ?_; simp only [within_eq, isGates_eq, Option.bind_some, decide_eq_true_eq]; have fin : ∀ b : Bool, (if b = true then (0 : Int) else 2) = rE x0 x1 x2 → Ev (fun k => L_LayersIn.j0 k (pE l).2 b x0 x1 x2 l) (if lE l x0 x1 x2 = 0 then ((fl (G (cl l x0) x1 l.length)).filter (keep x2), 0) else ([], lE l x0 x1 x2)) := by
  intro b hb; have := LayersIn_j0 l (pE l).2 x0 x1 x2 b (fun h => by
   rw [hb] at h
   split at h
   ·rename_i h1
    have h2 := rE_ok h; have h3 := pE_ok h1
    omega
   ·rename_i h1; exact absurd h h1)
  rw [hb] at this; exact this
 by_cases h1 : 1 ≤ x0 ∧ x0 ≤ 10000
 ·by_cases h2 : 0 ≤ x1 ∧ x1 ≤ 24
  ·have := fin (decide (1 ≤ x2 ∧ x2 ≤ 24)) (by unfold rE; simp only [h1, h2, and_self, true_and, decide_eq_true_eq]); simp only [h1, h2, and_self, if_true]; exact this
  ·have := fin false (by unfold rE; simp only [h1, h2, and_false, false_and, if_false, Bool.false_eq_true]); simp only [h1, h2, and_self, if_true, if_false]; exact this
 ·have := fin false (by unfold rE; simp only [h1, false_and, if_false, Bool.false_eq_true]); simp only [h1, if_false]; exact this

theorem RefLayers_l1 (rs : List S40) (x0 gap len : Int) (hb : ∀ r ∈ rs, Sm r) (hl : rs.length ≤ 30) : ∀ (n j : Nat) (o : List S40), j + n = rs.length → o.length ≤ j → Ev (fun k => Rf_Layers.l1 k rs o (j : Int) x0 gap len) (o ++ (rs.drop j).filter (keep len))
 | 0, j, o, h, ho => by
  refine Ev.succ (f := fun k => Rf_Layers.l1 k rs o (j : Int) x0 gap len) ?_; simp only [Rf_Layers.l1, show ¬ (j : Int) < (rs.length : Int) by omega, if_false]; rw [show rs.drop j = [] from List.drop_eq_nil_of_le (by omega)]; simp only [List.filter_nil, List.append_nil]; exact Ev.some
 | n + 1, j, o, h, ho => by
  refine Ev.succ (f := fun k => Rf_Layers.l1 k rs o (j : Int) x0 gap len) ?_; have hj : j < rs.length := by omega
  obtain ⟨q1, q2, q3, q4⟩ := hb _ (rd_mem hj); rw [rd_drop hj]; simp only [Rf_Layers.l1, show (j : Int) < (rs.length : Int) by omega, show (0 : Int) ≤ (j : Int) by omega, if_true, up (show j < 4611686018427387904 by omega), show o.length < 8796093022208 by omega]; generalize hq : rd_T40 rs (j : Int) = q at *; rw [w64 (n := q.f1 - q.f0) (by omega), w64 (n := q.f1 - q.f0 + 1) (by omega)]
  by_cases c : len ≤ q.f1 - q.f0 + 1
  ·have ck : keep len q = true := by unfold keep; simpa using c
   simp only [ge_iff_le, c, if_true]; rw [List.filter_cons_of_pos ck]; have := RefLayers_l1 rs x0 gap len hb hl n (j + 1) (o ++ [q]) (by omega) (by simp; omega); rw [List.append_assoc] at this; exact this
  ·have ck : ¬ keep len q = true := by unfold keep; simpa using c
   simp only [ge_iff_le, c, if_false]; rw [List.filter_cons_of_neg ck]; exact RefLayers_l1 rs x0 gap len hb hl n (j + 1) o (by omega) (by omega)
theorem RefLayers_l0 (l : List Int) (x0 gap len : Int) (hl : l.length ≤ 24) (hg : 0 ≤ gap ∧ gap ≤ 24) : ∀ (n i : Nat), i + n = l.length → Ev (fun k => Rf_Layers.l0 k l (fl (G (cl l x0) gap i)) (i : Int) x0 gap len) ((fl (G (cl l x0) gap l.length)).filter (keep len))
 | 0, i, h => by
  refine Ev.succ (f := fun k => Rf_Layers.l0 k l (fl (G (cl l x0) gap i)) (i : Int) x0 gap len) ?_; simp only [Rf_Layers.l0, show ¬ (i : Int) < (l.length : Int) by omega, if_false]; rw [show i = l.length by omega]; have hlen := fl_len (cl l x0) gap l.length; have := RefLayers_l1 (fl (G (cl l x0) gap l.length)) x0 gap len (G_Sm _ _ _ (by omega)) (by omega) (fl (G (cl l x0) gap l.length)).length 0 [] (by omega) (by simp); exact this
 | n + 1, i, h => by
  refine Ev.succ (f := fun k => Rf_Layers.l0 k l (fl (G (cl l x0) gap i)) (i : Int) x0 gap len) ?_; have hi : i < l.length := by omega
  have ih := RefLayers_l0 l x0 gap len hl hg n (i + 1) (by omega); have hlen := fl_len (cl l x0) gap i; obtain ⟨x, hx⟩ : ∃ x, x = fl (G (cl l x0) gap i) := ⟨_, rfl⟩; rw [← hx]; simp only [Rf_Layers.l0, show (i : Int) < (l.length : Int) by omega, show (0 : Int) ≤ (i : Int) by omega, if_true, up (show i < 4611686018427387904 by omega)]; have hP : (rd l (i : Int) < x0) ↔ ¬ cl l x0 (i : Int) = true := by unfold cl; simp only [decide_eq_true_eq]; omega
  generalize cl l x0 = P at *
  by_cases c : P (i : Int) = true
  ·have eG : G P gap (i + 1) = stepG gap (G P gap i) (i : Int) := by rw [G, if_pos c]
   rw [eG] at ih; simp only [show ¬ (rd l (i : Int) < x0) from fun h => hP.1 h c, if_false]
   cases e : G P gap i with
   | none =>
    rw [e] at ih hx; obtain rfl : x = [] := hx; simp only [List.length_nil, show ¬ (((0 : Nat) : Int) > 0) by omega, if_false, show (0 : Nat) < 8796093022208 by omega, if_true]; exact ih
   | some s =>
    obtain ⟨b, r⟩ := s; have hr := G_in_range P gap i r (by rw [e]; simp [fl]); rw [e] at ih hlen hx; obtain rfl : x = b ++ [r] := hx; simp only [fl_some, List.length_append, List.length_singleton] at hlen; have h0 : ((b ++ [r]).length : Int) > 0 := by simp only [List.length_append, List.length_singleton]; omega
    simp only [len_snoc b r (by omega)]; have h1 : (b.length : Int) < ((b ++ [r]).length : Int) := by simp only [List.length_append, List.length_singleton]; omega
    have h2 : (b ++ [r]).length < 8796093022208 := by simp only [List.length_append, List.length_singleton]; omega
    simp only [h0, show (0 : Int) ≤ (b.length : Int) by omega, h1, if_true, rd_snoc, Int.toNat_natCast, set_snoc]; rw [w64 (n := (i : Int) - r.f1) (by omega), w64 (n := (i : Int) - r.f1 - 1) (by omega)]
    by_cases q : (i : Int) - r.f1 - 1 ≤ gap
    ·simp only [q, if_true]; simp only [stepG, q, if_true, fl_some] at ih; exact ih
    ·simp only [q, if_false, h2, if_true]; simp only [stepG, q, if_false, fl_some] at ih; exact ih
  ·have eG : G P gap (i + 1) = G P gap i := by rw [G, if_neg c]
   rw [eG] at ih; simp only [hP.2 c, if_true]; rw [hx]; exact ih
theorem RefLayers_ev (l : List Int) (x0 gap len : Int) (hl : l.length ≤ 24) (hg : 0 ≤ gap ∧ gap ≤ 24) : Ev (fun k => Rf_Layers.f k l x0 gap len) ((fl (G (cl l x0) gap l.length)).filter (keep len)) := RefLayers_l0 l x0 gap len hl hg l.length 0 (by omega)
theorem Ranges_l0 (x : List S40) (hl : x.length < 4611686018427387904) : ∀ (n i : Nat), i + n = x.length → Ev (fun k => Bs_Ranges.l0 k x x (i : Int)) true
 | 0, i, h => by
  refine Ev.succ (f := fun k => Bs_Ranges.l0 k x x (i : Int)) ?_; simp only [Bs_Ranges.l0, show ¬ (i : Int) < (x.length : Int) by omega, if_false]; exact Ev.some
 | n + 1, i, h => by
  refine Ev.succ (f := fun k => Bs_Ranges.l0 k x x (i : Int)) ?_; simp only [Bs_Ranges.l0, show (i : Int) < (x.length : Int) by omega, show (0 : Int) ≤ (i : Int) by omega, if_true, beq_self_eq_true, Bool.not_true, Bool.or_self, Bool.false_eq_true, if_false, up (show i < 4611686018427387904 by omega)]; exact Ranges_l0 x hl n (i + 1) (by omega)
theorem Ranges_ev (x : List S40) (hl : x.length < 4611686018427387904) : Ev (fun k => Bs_Ranges.f k x x) true := by
 unfold Bs_Ranges.f; simp only [if_true]; exact Ranges_l0 x hl x.length 0 (by omega)
theorem filter_len (p : S40 → Bool) (x : List S40) : (x.filter p).length ≤ x.length := List.length_filter_le _ _
theorem awake_ev : Ev (fun k => Lw_awake.f k) true :=
 Ev.of_mono (k := 1500) (fun k => Lw_awake.mono k) (by kernel_rfl)
theorem seeing_j3 (l : List Int) (L : List S40) (g x0 x1 x2 x3 x4 x5 : Int) (h : if lE l x3 x4 x5 = 0 then g = 0 ∧ L = (fl (G (cl l x3) x4 l.length)).filter (keep x5) else g = lE l x3 x4 x5 ∧ L = []) : Ev (fun k => Lw_CloudSeeing.j3 k l L g (pE l).2 false x0 x1 x2 x3 x4 x5) true := by
 refine Ev.succ (f := fun k => Lw_CloudSeeing.j3 k l L g (pE l).2 false x0 x1 x2 x3 x4 x5) ?_; simp only [Lw_CloudSeeing.j3, Bool.false_eq_true, if_false, RuleErr_eq, both_eq, Option.bind_some]; have e : (if (pE l).2 = 0 then rE x3 x4 x5 else (pE l).2) = lE l x3 x4 x5 := rfl; rw [e]
 by_cases c : lE l x3 x4 x5 = 0
 ·rw [if_pos c] at h; obtain ⟨h1, h2⟩ := h; simp only [c, h1, if_true]; have c2 := c; unfold lE at c2
  split at c2
  ·rename_i hp
   obtain ⟨p1, p2, p3⟩ := pE_ok hp; obtain ⟨r1, r2, r3⟩ := rE_ok c2; refine Ev.bind (RefLayers_ev l x3 x4 x5 p2 r2) ?_; rw [h2]; refine Ev.bind (Ranges_ev _ ?_) Ev.some; have := filter_len (keep x5) (fl (G (cl l x3) x4 l.length)); have h9 := fl_len (cl l x3) x4 l.length
   omega
  ·rename_i hp; exact absurd c2 hp
 ·rw [if_neg c] at h; obtain ⟨h1, h2⟩ := h; subst h1 h2; simp only [c, if_false, if_true, List.length_nil]; exact Ev.some
theorem seeing_j2 (l : List Int) (R L : List S40) (f g x0 x1 x2 x3 x4 x5 b0 b1 b2 b3 : Int) (hb2 : -9223372036854775808 ≤ b2 ∧ b2 ≤ 9223372036854775807) (hb3 : -9223372036854775808 ≤ b3 ∧ b3 ≤ 9223372036854775807) (hf : if (if (pE l).2 = 0 then bE b0 b1 b2 b3 else (pE l).2) = 0 then f = 0 ∧ R = fl (G (bl l b0 b1 b2 b3) 0 l.length) else f = (if (pE l).2 = 0 then bE b0 b1 b2 b3 else (pE l).2) ∧ R = []) (h : if lE l x3 x4 x5 = 0 then g = 0 ∧ L = (fl (G (cl l x3) x4 l.length)).filter (keep x5) else g = lE l x3 x4 x5 ∧ L = []) :
  Ev (fun k => Lw_CloudSeeing.j2 k l R f L g (pE l).2 false x0 x1 x2 x3 x4 x5 b0 b1 b2 b3) true := by
 refine Ev.succ (f := fun k => Lw_CloudSeeing.j2 k l R f L g (pE l).2 false x0 x1 x2 x3 x4 x5 b0 b1 b2 b3) ?_; simp only [Lw_CloudSeeing.j2, Bool.false_eq_true, if_false]; refine Ev.bind (BlindErr_ev hb2 hb3) ?_; simp only [both_eq, Option.bind_some]; have j3 := seeing_j3 l L g x0 x1 x2 x3 x4 x5 h; generalize hu : (if (pE l).2 = 0 then bE b0 b1 b2 b3 else (pE l).2) = u at *
 by_cases c : u = 0
 ·rw [if_pos c] at hf; obtain ⟨h1, h2⟩ := hf; simp only [c, h1, if_true]; rw [c] at hu
  split at hu
  ·rename_i hp
   obtain ⟨p1, p2, p3⟩ := pE_ok hp; have hq := ptE_ok (bE_ok hu); refine Ev.bind (Blind_ev l b0 b1 b2 b3 p3 p2 (by omega) (by omega)) ?_; rw [h2]; refine Ev.bind (Ranges_ev _ (by have h9 := fl_len (bl l b0 b1 b2 b3) 0 l.length; omega)) ?_; exact j3
  ·rename_i hp; exact absurd hu hp
 ·rw [if_neg c] at hf; obtain ⟨h1, h2⟩ := hf; subst h1 h2; simp only [c, if_false, if_true, List.length_nil, show ((0 : Nat) : Int) = 0 from rfl]; exact j3
theorem seeing_j1 (l : List Int) (v e : Int) (R L : List S40) (f g x0 x1 x2 x3 x4 x5 b0 b1 b2 b3 : Int) (hb2 : -9223372036854775808 ≤ b2 ∧ b2 ≤ 9223372036854775807) (hb3 : -9223372036854775808 ≤ b3 ∧ b3 ≤ 9223372036854775807) (hv : if vE l x0 x1 x2 = 0 then e = 0 ∧ v = vis l x0 x1 x2 l.length 0 else e = vE l x0 x1 x2 ∧ v = 0) (hf : if (if (pE l).2 = 0 then bE b0 b1 b2 b3 else (pE l).2) = 0 then f = 0 ∧ R = fl (G (bl l b0 b1 b2 b3) 0 l.length) else f = (if (pE l).2 = 0 then bE b0 b1 b2 b3 else (pE l).2) ∧ R = []) (h : if lE l x3 x4 x5 = 0 then g = 0 ∧ L = (fl (G (cl l x3) x4 l.length)).filter (keep x5) else g = lE l x3 x4 x5 ∧ L = []) :
  Ev (fun k => Lw_CloudSeeing.j1 k l v e R f L g (pE l).2 (vE l x0 x1 x2) x0 x1 x2 x3 x4 x5 b0 b1 b2 b3) true := by
 refine Ev.succ (f := fun k => Lw_CloudSeeing.j1 k l v e R f L g (pE l).2 (vE l x0 x1 x2) x0 x1 x2 x3 x4 x5 b0 b1 b2 b3) ?_; have j2 := seeing_j2 l R L f g x0 x1 x2 x3 x4 x5 b0 b1 b2 b3 hb2 hb3 hf h; simp only [Lw_CloudSeeing.j1]
 by_cases c : vE l x0 x1 x2 = 0
 ·rw [if_pos c] at hv; obtain ⟨h1, h2⟩ := hv; simp only [c, h1, if_true]; unfold vE at c
  split at c
  ·split at c
   ·split at c
    ·split at c
     ·rename_i q1 q2 q3 q4
      obtain ⟨p1, p2, p3⟩ := pE_ok q1; have hq := ptE_ok q3; refine Ev.bind (RefVis_ev l x0 x1 x2 p3 p2 (cE_ok q2) q4 (by omega) (by omega)) ?_; rw [h2]; simp only [bne_self_eq_false]; exact j2
     ·exact absurd c (by simp)
    ·rename_i q; exact absurd c q
   ·rename_i q; exact absurd c q
  ·rename_i q; exact absurd c q
 ·rw [if_neg c] at hv; obtain ⟨h1, h2⟩ := hv; subst h1 h2; simp only [c, if_false, if_true]; exact j2
theorem CloudSeeing_pure (l : List Int) (_ : l.length ≤ maxLen) (_ : ∀ x ∈ l, (Lit.int .i64 x).wf = true) (a0 : Int) (h0 : (Lit.int .i64 a0).wf = true) (a1 : Int) (h1 : (Lit.int .i64 a1).wf = true) (a2 : Int) (h2 : (Lit.int .i64 a2).wf = true) (a3 : Int) (h3 : (Lit.int .i64 a3).wf = true) (a4 : Int) (h4 : (Lit.int .i64 a4).wf = true) (a5 : Int) (h5 : (Lit.int .i64 a5).wf = true) (b0 : Int) (k0 : (Lit.int .i64 b0).wf = true) (b1 : Int) (k1 : (Lit.int .i64 b1).wf = true) (b2 : Int) (k2 : (Lit.int .i64 b2).wf = true) (b3 : Int) (k3 : (Lit.int .i64 b3).wf = true) : ∃ k, Lw_CloudSeeing.f k l a0 a1 a2 a3 a4 a5 b0 b1 b2 b3 = some true := by
 have h1 := i64_in h1; have h2 := i64_in h2; have k2 := i64_in k2; have k3 := i64_in k3
 apply Ev.ex (f := fun k => Lw_CloudSeeing.f k l a0 a1 a2 a3 a4 a5 b0 b1 b2 b3)
 unfold Lw_CloudSeeing.f; refine Ev.bind awake_ev ?_; simp only [few_eq, if_true, Option.bind_some, decide_eq_true_eq]
 by_cases hf : l.length ≤ 26
 ·have hl : l.length < 4611686018427387904 := by omega
  simp only [hf, if_true, CopyInts_eq l (by omega), Option.bind_some]; refine Ev.bind (VisibilityOf_ev l a0 a1 a2 hl h1 h2) ?_; refine Ev.bind (BlindIn_ev l b0 b1 b2 b3 hl k2 k3) ?_; refine Ev.bind (LayersIn_ev l a3 a4 a5 hl) ?_; refine Ev.bind (ProfileErr_ev l hl) ?_; simp only [ConstantErr_eq, Option.bind_some]; refine Ev.bind (PartErr_ev h1 h2) ?_; simp only [both_eq, Option.bind_some]; have hv : if vE l a0 a1 a2 = 0 then (if vE l a0 a1 a2 = 0 then (vis l a0 a1 a2 l.length 0, 0) else (0, vE l a0 a1 a2)).2 = 0 ∧ (if vE l a0 a1 a2 = 0 then (vis l a0 a1 a2 l.length 0, 0) else (0, vE l a0 a1 a2)).1 = vis l a0 a1 a2 l.length 0 else (if vE l a0 a1 a2 = 0 then (vis l a0 a1 a2 l.length 0, 0) else (0, vE l a0 a1 a2)).2 = vE l a0 a1 a2 ∧ (if vE l a0 a1 a2 = 0 then (vis l a0 a1 a2 l.length 0, 0) else (0, vE l a0 a1 a2)).1 = 0 := by
   by_cases c : vE l a0 a1 a2 = 0 <;> simp [c]
  generalize (if vE l a0 a1 a2 = 0 then (vis l a0 a1 a2 l.length 0, 0) else (0, vE l a0 a1 a2)) = V at *; generalize hu : (if (pE l).2 = 0 then bE b0 b1 b2 b3 else (pE l).2) = u; have hB : if u = 0 then (if u = 0 then (fl (G (bl l b0 b1 b2 b3) 0 l.length), 0) else ([], u)).2 = 0 ∧ (if u = 0 then (fl (G (bl l b0 b1 b2 b3) 0 l.length), (0 : Int)) else ([], u)).1 = fl (G (bl l b0 b1 b2 b3) 0 l.length) else (if u = 0 then (fl (G (bl l b0 b1 b2 b3) 0 l.length), 0) else ([], u)).2 = u ∧ (if u = 0 then (fl (G (bl l b0 b1 b2 b3) 0 l.length), 0) else ([], u)).1 = [] := by
   by_cases c : u = 0 <;> simp [c]
  generalize (if u = 0 then (fl (G (bl l b0 b1 b2 b3) 0 l.length), (0 : Int)) else ([], u)) = B at *; have hL : if lE l a3 a4 a5 = 0 then (if lE l a3 a4 a5 = 0 then ((fl (G (cl l a3) a4 l.length)).filter (keep a5), 0) else ([], lE l a3 a4 a5)).2 = 0 ∧ (if lE l a3 a4 a5 = 0 then ((fl (G (cl l a3) a4 l.length)).filter (keep a5), (0 : Int)) else ([], lE l a3 a4 a5)).1 = (fl (G (cl l a3) a4 l.length)).filter (keep a5) else (if lE l a3 a4 a5 = 0 then ((fl (G (cl l a3) a4 l.length)).filter (keep a5), 0) else ([], lE l a3 a4 a5)).2 = lE l a3 a4 a5 ∧ (if lE l a3 a4 a5 = 0 then ((fl (G (cl l a3) a4 l.length)).filter (keep a5), 0) else ([], lE l a3 a4 a5)).1 = [] := by
   by_cases c : lE l a3 a4 a5 = 0 <;> simp [c]
  generalize (if lE l a3 a4 a5 = 0 then ((fl (G (cl l a3) a4 l.length)).filter (keep a5), (0 : Int)) else ([], lE l a3 a4 a5)) = L at *; subst hu; have j1 := seeing_j1 l V.1 V.2 B.1 L.1 B.2 L.2 a0 a1 a2 a3 a4 a5 b0 b1 b2 b3 k2 k3 hv hB hL
  by_cases c : (if (pE l).2 = 0 then (if cE a0 = 0 then ptE a1 a2 else cE a0) else (pE l).2) = 0
  ·simp only [c, if_true]; have hp : (pE l).2 = 0 := by split at c <;> assumption
   rw [if_pos hp] at c; have hc : cE a0 = 0 := by split at c <;> assumption
   rw [if_pos hc] at c; obtain ⟨p1, p2, p3⟩ := pE_ok hp; have hc2 := cE_ok hc; refine Ev.bind (Rest_ev l a0 (by omega) p3 p2 l.length (Nat.le_refl _)) ?_; rw [List.take_length]; refine Ev.succ (f := fun k => Lw_CloudSeeing.j0 k l V.1 V.2 B.1 B.2 L.1 L.2 (pE l).2 0 (decide (a0 - sm l < 0)) a0 a1 a2 a3 a4 a5 b0 b1 b2 b3) ?_; simp only [Lw_CloudSeeing.j0, decide_eq_true_eq]; have ev : vE l a0 a1 a2 = if sm l ≤ a0 then 0 else 20 := by unfold vE; rw [if_pos hp, if_pos hc, if_pos c]
   rw [ev] at j1
   by_cases q : a0 - sm l < 0
   ·rw [if_neg (by omega)] at j1; simp only [q, if_true]; exact j1
   ·rw [if_pos (by omega)] at j1; simp only [q, if_false]; exact j1
  ·simp only [c, if_false]; refine Ev.succ (f := fun k => Lw_CloudSeeing.j0 k l V.1 V.2 B.1 B.2 L.1 L.2 (pE l).2 (if (pE l).2 = 0 then (if cE a0 = 0 then ptE a1 a2 else cE a0) else (pE l).2) false a0 a1 a2 a3 a4 a5 b0 b1 b2 b3) ?_; simp only [Lw_CloudSeeing.j0, Bool.false_eq_true, if_false]; have ev : vE l a0 a1 a2 = (if (pE l).2 = 0 then (if cE a0 = 0 then ptE a1 a2 else cE a0) else (pE l).2) := by
    unfold vE
    by_cases hp : (pE l).2 = 0
    ·rw [if_pos hp] at c ⊢
     by_cases hc : cE a0 = 0
     ·rw [if_pos hc] at c ⊢; rw [if_neg c, if_pos hp, if_pos hc]
     ·rw [if_neg hc, if_pos hp, if_neg hc]
    ·rw [if_neg hp, if_neg hp]
   rw [ev] at j1; exact j1
 ·simp only [hf, if_false]; exact Ev.some
end Go.Proofs.YteiafijbgjgiaaaGreat.P
