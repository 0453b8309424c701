/-
PLAIN LAW: what the walks compute answers as the statement says (no program in sight; Ev: from some number of rounds on).
-/
import Derived.Test.YteiafijbgjgiaaaP02
namespace Go.Proofs.Yteiafijbgjgiaaa.P
open Go Go.RowKit Go.Proofs.Yteiafijbgjgiaaa.A Go.Proofs.YteiafijbgjgiaaaW.PrintWords Go.Proofs.YteiafijbgjgiaaaW.PrintLast Go.Proofs.YteiafijbgjgiaaaW.PrintMore
set_option linter.unusedSimpArgs false
set_option linter.unusedVariables false
def Ev {α : Type} (f : Nat → Option α) (r : α) : Prop := ∃ k, ∀ j, k ≤ j → f j = some r

theorem Ev.some {α : Type} {r : α} : Ev (fun _ => Option.some r) r := ⟨0, fun _ _ => rfl⟩
theorem Ev.bind {α β : Type} {f : Nat → Option α} {g : Nat → α → Option β} {a : α} {b : β} (h : Ev f a) (h2 : Ev (fun k => g k a) b) : Ev (fun k => (f k).bind (g k)) b := by
 obtain ⟨k, hk⟩ := h; obtain ⟨m, hm⟩ := h2; exact ⟨max k m, fun j hj => by show (f j).bind (g j) = _; rw [hk j (by omega)]; exact hm j (by omega)⟩
theorem Ev.succ {α : Type} {f : Nat → Option α} {r : α} (h : Ev (fun k => f (k + 1)) r) : Ev f r := by
 obtain ⟨k, hk⟩ := h; exact ⟨k + 1, fun j hj => by obtain ⟨m, rfl⟩ : ∃ m, j = m + 1 := ⟨j - 1, by omega⟩; exact hk m (by omega)⟩
theorem Ev.congr {α : Type} {f g : Nat → Option α} {r : α} (e : ∀ k, f k = g k) (h : Ev f r) : Ev g r := by
 obtain ⟨k, hk⟩ := h; exact ⟨k, fun j hj => by rw [← e j]; exact hk j hj⟩
theorem Ev.ex {α : Type} {f : Nat → Option α} {r : α} (h : Ev f r) : ∃ k, f k = Option.some r := let ⟨k, hk⟩ := h; ⟨k, hk k (Nat.le_refl _)⟩
theorem Ev.of_mono {α : Type} {f : Nat → Option α} {r : α} (hm : ∀ k, LeO (f k) (f (k + 1))) {k : Nat} (h : f k = Option.some r) : Ev f r := by
  refine ⟨k, fun j hj => ?_⟩
  induction j with
  | zero => obtain rfl : k = 0 := by omega
            exact h
  | succ j ih =>
    by_cases e : k = j + 1
    · subst e; exact h
    · exact hm j r (ih (by omega))
theorem up {i : Nat} (h : i < 4611686018427387904) : wrap64 ((i : Int) + 1) = ((i + 1 : Nat) : Int) := by
 unfold wrap64; omega
theorem w64 {n : Int} (h : -9223372036854775808 ≤ n ∧ n ≤ 9223372036854775807) : wrap64 n = n := by unfold wrap64; omega
theorem rd_nat (l : List Int) (i : Nat) : rd l (i : Int) = l.getD i 0 := by unfold rd; simp
theorem drop_rd {l : List Int} {i : Nat} (h : i < l.length) : l.drop i = rd l (i : Int) :: l.drop (i + 1) := by
 rw [rd_nat, List.drop_eq_getElem_cons h]
 simp [List.getD_eq_getElem?_getD, h]
theorem drop_getD {α : Type} {l : List α} {i : Nat} (z : α) (h : i < l.length) : l.drop i = l.getD i z :: l.drop (i + 1) := by
 rw [List.drop_eq_getElem_cons h]
 simp [List.getD_eq_getElem?_getD, h]

theorem mx_eq (a b : Int) : mx a b = max a b := by unfold mx; split <;> omega
theorem within_eq (a b c : Int) : L_within.f a b c = some (decide (b ≤ a ∧ a ≤ c)) := by
 unfold L_within.f
 by_cases h : b ≤ a <;> simp [h]
theorem Within_eq (a b c : Int) : Bs_Within.f a b c = some (decide (b ≤ a ∧ a ≤ c)) := by
 unfold Bs_Within.f
 by_cases h : b ≤ a <;> simp [h]
theorem unless_eq (b : Bool) (e : Int) : L_unless.f b e = some (if b = true then 0 else e) := by
 unfold L_unless.f
 cases b <;> simp
theorem Size_eq (a : Int) : Bs_Size.f a = some (mx a (wrap64 (-a))) := rfl

def fnz : List Int → Int
 | [] => 0
 | x :: r => if x = 0 then fnz r else x

theorem first_l0 (l : List Int) (hl : l.length < 4611686018427387904) : ∀ (n i : Nat), i + n = l.length → Ev (fun k => L_first.l0 k l (l.length : Int) (i : Int)) (fnz (l.drop i))
 | 0, i, h => by
  refine Ev.succ (f := fun k => L_first.l0 k l (l.length : Int) (i : Int)) ?_; have h1 : ¬ (i : Int) < (l.length : Int) := by omega
  simp only [L_first.l0, h1, if_false]; rw [show l.drop i = [] from List.drop_eq_nil_of_le (by omega)]; exact Ev.some
 | n + 1, i, h => by
  refine Ev.succ (f := fun k => L_first.l0 k l (l.length : Int) (i : Int)) ?_; have h1 : (i : Int) < (l.length : Int) := by omega
  have h2 : (0 : Int) ≤ (i : Int) := by omega
  simp only [L_first.l0, h1, h2, if_true, up (show i < 4611686018427387904 by omega)]; rw [drop_rd (show i < l.length by omega)]; unfold fnz
  by_cases e : rd l (i : Int) = 0
  ·simp only [e, if_true]; exact first_l0 l hl n (i + 1) (by omega)
  ·simp only [e, if_false]; exact Ev.some
theorem first_ev (l : List Int) (hl : l.length < 4611686018427387904) : Ev (fun k => L_first.f k l) (fnz l) := first_l0 l hl l.length 0 (by omega)

theorem size_abs {x : Int} (h : -9223372036854775807 ≤ x ∧ x ≤ 9223372036854775807) : mx x (wrap64 (-x)) = (x.natAbs : Int) := by
 rw [w64 (n := -x) (by omega), mx_eq]; omega
theorem gcd_step (x y : Int) : Int.gcd y (x.tmod y) = Int.gcd x y := by
 show Nat.gcd y.natAbs (x.tmod y).natAbs = Nat.gcd x.natAbs y.natAbs
 rw [Int.natAbs_tmod, Nat.gcd_comm, ← Nat.gcd_rec, Nat.gcd_comm]
theorem tmod_in {x y : Int} (h0 : y ≠ 0) : (x.tmod y).natAbs < y.natAbs := by
 rw [Int.natAbs_tmod]; exact Nat.mod_lt _ (by omega)
theorem Gcd_l0 : ∀ (m : Nat) (x y : Int), y.natAbs ≤ m → x.natAbs < 9223372036854775808 → y.natAbs < 9223372036854775808 → Ev (fun k => Bs_Gcd.l0 k x y) (Int.gcd x y : Int)
 | 0, x, y, h, hx, _ => by
  refine Ev.succ (f := fun k => Bs_Gcd.l0 k x y) ?_; obtain rfl : y = 0 := by omega
  simp only [Bs_Gcd.l0, if_true, Size_eq, Option.bind_some, size_abs (x := x) (by omega), Int.gcd_zero_right]; exact Ev.some
 | m + 1, x, y, h, hx, hy => by
  refine Ev.succ (f := fun k => Bs_Gcd.l0 k x y) ?_
  by_cases h0 : y = 0
  ·subst h0; simp only [Bs_Gcd.l0, if_true, Size_eq, Option.bind_some, size_abs (x := x) (by omega), Int.gcd_zero_right]; exact Ev.some
  ·simp only [Bs_Gcd.l0, h0, if_false]; have ht := tmod_in (x := x) h0; rw [← gcd_step x y]; exact Gcd_l0 m y (x.tmod y) (by omega) hy (by omega)
theorem Gcd_ev {x y : Int} (hx : x.natAbs < 9223372036854775808) (hy : y.natAbs < 9223372036854775808) : Ev (fun k => Bs_Gcd.f k x y) (Int.gcd x y : Int) := Gcd_l0 _ x y (Nat.le_refl _) hx hy
theorem divisor_l0 : ∀ (m : Nat) (x y : Int), y.natAbs ≤ m → x.natAbs < 9223372036854775808 → y.natAbs < 9223372036854775808 → Ev (fun k => L_divisor.l0 k x y) (Int.gcd x y : Int)
 | 0, x, y, h, hx, _ => by
  refine Ev.succ (f := fun k => L_divisor.l0 k x y) ?_; obtain rfl : y = 0 := by omega
  simp only [L_divisor.l0, if_true, size_abs (x := x) (by omega), Int.gcd_zero_right]; exact Ev.some
 | m + 1, x, y, h, hx, hy => by
  refine Ev.succ (f := fun k => L_divisor.l0 k x y) ?_
  by_cases h0 : y = 0
  ·subst h0; simp only [L_divisor.l0, if_true, size_abs (x := x) (by omega), Int.gcd_zero_right]; exact Ev.some
  ·simp only [L_divisor.l0, h0, if_false]; have ht := tmod_in (x := x) h0; rw [← gcd_step x y]; exact divisor_l0 m y (x.tmod y) (by omega) hy (by omega)
theorem divisor_ev {x y : Int} (hx : x.natAbs < 9223372036854775808) (hy : y.natAbs < 9223372036854775808) : Ev (fun k => L_divisor.f k x y) (Int.gcd x y : Int) := divisor_l0 _ x y (Nat.le_refl _) hx hy

theorem CopyInts_eq (l : List Int) (h : l.length < 4611686018427) : Bs_CopyInts.f l = some l := by
 unfold Bs_CopyInts.f; simp only [Option.bind_some, List.length_nil, List.nil_append]; rw [if_pos (by omega)]
theorem both_eq (a b : Int) : Lw_both.f a b = some (if a = 0 then b else a) := by
 unfold Lw_both.f; split <;> rfl
theorem few_eq (l : List Int) : Lw_few.f l = some (decide (l.length ≤ 26)) := by
 unfold Lw_few.f; congr 2; apply propext; omega
def chk {α : Type} (p : α → Int) : List α → Nat → Int × Int
 | [], _ => (0, 0)
 | x :: r, i => if p x = 0 then chk p r (i + 1) else ((i : Int), p x)
theorem chk_all {α : Type} {p : α → Int} : ∀ {l : List α} {i : Nat}, (chk p l i).2 = 0 → ∀ x ∈ l, p x = 0
 | [], i, _ => by simp
 | y :: r, i, h => by
  unfold chk at h
  split at h <;> rename_i e
  ·intro x hx
   rcases List.mem_cons.mp hx with rfl | hx
   ·exact e
   ·exact chk_all h x hx
  ·exact absurd h e
theorem chk_loop {α : Type} (z : α) (p : α → Int) (l : List α) (hl : l.length < 4611686018427387904) (F : Nat → Int → Option (Int × Int))
  (h0 : ∀ k i, ¬ i < (l.length : Int) → F (k + 1) i = some (0, 0))
  (h1 : ∀ k (i : Nat), i < l.length → F (k + 1) (i : Int) = if p (l.getD i z) = 0 then F k (wrap64 ((i : Int) + 1)) else some ((i : Int), p (l.getD i z))) :
  ∀ (n i : Nat), i + n = l.length → Ev (fun k => F k (i : Int)) (chk p (l.drop i) i)
 | 0, i, h => by
  refine Ev.succ (f := fun k => F k (i : Int)) ?_; rw [show l.drop i = [] from List.drop_eq_nil_of_le (by omega)]; exact Ev.congr (fun k => (h0 k i (by omega)).symm) Ev.some
 | n + 1, i, h => by
  refine Ev.succ (f := fun k => F k (i : Int)) ?_; refine Ev.congr (fun k => (h1 k i (by omega)).symm) ?_; rw [drop_getD z (show i < l.length by omega)]; unfold chk
  by_cases e : p (l.getD i z) = 0
  ·simp only [e, if_true, up (show i < 4611686018427387904 by omega)]; exact chk_loop z p l hl F h0 h1 n (i + 1) (by omega)
  ·simp only [e, if_false]; exact Ev.some
theorem isSignal_eq (a : Int) : L_isSignal.f a = some (decide (0 ≤ a ∧ a ≤ 10000)) := by
 unfold L_isSignal.f; rw [within_eq]; rfl
theorem isConstant_eq (a : Int) : L_isConstant.f a = some (decide (1 ≤ a ∧ a ≤ 1000000)) := by
 unfold L_isConstant.f; rw [within_eq]; rfl
def sE (x : Int) : Int := if 0 ≤ x ∧ x ≤ 10000 then 0 else 2
def pE (l : List Int) : Int × Int := if l.length = 0 then (0, 10) else if 24 < l.length then (0, 8) else chk sE l 0
theorem CheckProfile_1_eq (a : Int) : L_CheckProfile_1.f a = some (sE a) := by
 unfold L_CheckProfile_1.f sE; simp only [isSignal_eq, unless_eq, Option.bind_some, decide_eq_true_eq]
theorem each_profile_ev (l : List Int) (hl : l.length < 4611686018427387904) : Ev (fun k => L_each_int_CheckProfile_1.f k l) (chk sE l 0) := by
 refine chk_loop 0 sE l hl (fun k i => L_each_int_CheckProfile_1.l0 k l (l.length : Int) i) (fun k i h => ?_) (fun k i h => ?_) l.length 0 (by omega)
 ·simp only [L_each_int_CheckProfile_1.l0, h, if_false]
 ·simp only [L_each_int_CheckProfile_1.l0, show (i : Int) < (l.length : Int) by omega, show (0 : Int) ≤ (i : Int) by omega, if_true, CheckProfile_1_eq, Option.bind_some, rd_nat]
theorem CheckProfile_ev (l : List Int) (hl : l.length < 4611686018427387904) : Ev (fun k => L_CheckProfile.f k l) (pE l) := by
 unfold L_CheckProfile.f; simp only [unless_eq, Option.bind_some]; refine Ev.bind (first_ev _ (by simp)) ?_; unfold pE
 by_cases h1 : l.length = 0
 ·simp only [h1, show ¬ ((0 : Nat) : Int) > 0 by omega, decide_false, fnz]; exact Ev.some
 ·by_cases h2 : 24 < l.length
  ·simp only [h1, h2, show (l.length : Int) > 0 by omega, show ¬ (l.length : Int) ≤ 24 by omega, decide_false, decide_true, fnz, if_true, if_false]; exact Ev.some
  ·simp only [h1, h2, show (l.length : Int) > 0 by omega, show (l.length : Int) ≤ 24 by omega, decide_true, fnz, if_true, if_false]; exact Ev.bind (each_profile_ev l hl) Ev.some
theorem RefCheckProfile_ev (l : List Int) (hl : l.length < 4611686018427387904) : Ev (fun k => Rf_CheckProfile.f k l) (pE l) := by
 unfold Rf_CheckProfile.f pE
 by_cases h1 : l.length = 0
 ·simp only [h1]; exact Ev.some
 ·by_cases h2 : 24 < l.length
  ·simp only [h1, h2, show ¬ (l.length : Int) = 0 by omega, show (l.length : Int) > 24 by omega, if_true, if_false]; exact Ev.some
  ·simp only [h1, h2, show ¬ (l.length : Int) = 0 by omega, show ¬ (l.length : Int) > 24 by omega, if_false]; refine chk_loop 0 sE l hl (fun k i => Rf_CheckProfile.l0 k l i) (fun k i h => ?_) (fun k i h => ?_) l.length 0 (by omega)
   ·simp only [Rf_CheckProfile.l0, h, if_false]
   ·simp only [Rf_CheckProfile.l0, show (i : Int) < (l.length : Int) by omega, show (0 : Int) ≤ (i : Int) by omega, if_true, Within_eq, Option.bind_some, rd_nat, sE, decide_eq_true_eq]
    split <;> simp
theorem open_ev (l : List Int) (hl : l.length < 4611686018427387904) : Ev (fun k => L_open.f k l) (l, (pE l).2) := by
 unfold L_open.f; exact Ev.bind (CheckProfile_ev l hl) Ev.some
theorem pE_ok {l : List Int} (h : (pE l).2 = 0) : 0 < l.length ∧ l.length ≤ 24 ∧ ∀ x ∈ l, 0 ≤ x ∧ x ≤ 10000 := by
 unfold pE at h
 split at h
 ·exact absurd h (by simp)
 split at h
 ·exact absurd h (by simp)
 refine ⟨by omega, by omega, fun x hx => ?_⟩; have := chk_all h x hx; unfold sE at this
 split at this <;> omega
theorem awake_ev : Ev (fun k => Lw_awake.f k) true :=
 Ev.of_mono (k := 1500) (fun k => Lw_awake.mono k) (by kernel_rfl)
def sm : List Int → Int
 | [] => 0
 | x :: r => x + sm r
theorem sm_append (a b : List Int) : sm (a ++ b) = sm a + sm b := by
  induction a with
  | nil => simp [sm]
  | cons x r ih => simp only [List.cons_append, sm, ih]; omega
theorem sm_nonneg : ∀ {l : List Int}, (∀ x ∈ l, 0 ≤ x ∧ x ≤ 10000) → 0 ≤ sm l ∧ sm l ≤ 10000 * (l.length : Int)
 | [], _ => by simp [sm]
 | x :: r, h => by
  have := sm_nonneg (l := r) (fun y hy => h y (List.mem_cons_of_mem _ hy)); have h2 := h x List.mem_cons_self; simp only [sm, List.length_cons]; omega
theorem take_succ_sm {l : List Int} {i : Nat} (h : i < l.length) : sm (l.take (i + 1)) = sm (l.take i) + l.getD i 0 := by
 rw [List.take_add_one, sm_append]
 simp [List.getD_eq_getElem?_getD, h, sm]
theorem getD_mem {l : List Int} {i : Nat} (h : i < l.length) : l.getD i 0 ∈ l := by
 simp [List.getD_eq_getElem?_getD, h]
theorem sm_take {l : List Int} (hb : ∀ x ∈ l, 0 ≤ x ∧ x ≤ 10000) (i : Nat) (hl : l.length ≤ 24) : 0 ≤ sm (l.take i) ∧ sm (l.take i) ≤ 240000 := by
 have := sm_nonneg (l := l.take i) (fun x hx => hb x (List.mem_of_mem_take hx)); have h2 : (l.take i).length ≤ 24 := by rw [List.length_take]; omega
 omega
theorem sum_l0 (l : List Int) (hb : ∀ x ∈ l, 0 ≤ x ∧ x ≤ 10000) (hl : l.length ≤ 24) : ∀ (n i : Nat), i + n = l.length → Ev (fun k => L_profile_sum.l0 k (sm (l.take i)) l (l.length : Int) (i : Int)) (sm l)
 | 0, i, h => by
  refine Ev.succ (f := fun k => L_profile_sum.l0 k (sm (l.take i)) l (l.length : Int) (i : Int)) ?_; simp only [L_profile_sum.l0, show ¬ (i : Int) < (l.length : Int) by omega, if_false]; rw [List.take_of_length_le (by omega)]; exact Ev.some
 | n + 1, i, h => by
  refine Ev.succ (f := fun k => L_profile_sum.l0 k (sm (l.take i)) l (l.length : Int) (i : Int)) ?_; have hi : i < l.length := by omega
  have h1 := sm_take hb i hl; have h2 := sm_take hb (i + 1) hl; rw [take_succ_sm hi] at h2; simp only [L_profile_sum.l0, show (i : Int) < (l.length : Int) by omega, show (0 : Int) ≤ (i : Int) by omega, if_true, up (show i < 4611686018427387904 by omega), rd_nat]; rw [w64 (n := sm (l.take i) + l.getD i 0) (by omega), ← take_succ_sm hi]; exact sum_l0 l hb hl n (i + 1) (by omega)
theorem sum_ev (l : List Int) (hb : ∀ x ∈ l, 0 ≤ x ∧ x ≤ 10000) (hl : l.length ≤ 24) : Ev (fun k => L_profile_sum.f k l) (sm l) := by
 have := sum_l0 l hb hl l.length 0 (by omega); exact this
theorem Rest_l0 (l : List Int) (c : Int) (hc : -4000000 ≤ c ∧ c ≤ 4000000) (hb : ∀ x ∈ l, 0 ≤ x ∧ x ≤ 10000) (hl : l.length ≤ 24) (g : Nat) (hg : g ≤ l.length) : ∀ (n i : Nat), i + n = g → Ev (fun k => Rf_Rest.l0 k l (c - sm (l.take i)) (g : Int) (i : Int)) (c - sm (l.take g))
 | 0, i, h => by
  refine Ev.succ (f := fun k => Rf_Rest.l0 k l (c - sm (l.take i)) (g : Int) (i : Int)) ?_; simp only [Rf_Rest.l0, show ¬ (i : Int) < (g : Int) by omega, if_false]; rw [show i = g by omega]; exact Ev.some
 | n + 1, i, h => by
  refine Ev.succ (f := fun k => Rf_Rest.l0 k l (c - sm (l.take i)) (g : Int) (i : Int)) ?_; have hi : i < l.length := by omega
  have h1 := sm_take hb i hl; have h2 := sm_take hb (i + 1) hl; rw [take_succ_sm hi] at h2; simp only [Rf_Rest.l0, show (i : Int) < (g : Int) by omega, show (i : Int) < (l.length : Int) by omega, show (0 : Int) ≤ (i : Int) by omega, if_true, up (show i < 4611686018427387904 by omega), rd_nat]; rw [w64 (n := c - sm (l.take i) - l.getD i 0) (by omega), show c - sm (l.take i) - l.getD i 0 = c - sm (l.take (i + 1)) by rw [take_succ_sm hi]; omega]; exact Rest_l0 l c hc hb hl g hg n (i + 1) (by omega)
theorem Rest_ev (l : List Int) (c : Int) (hc : -4000000 ≤ c ∧ c ≤ 4000000) (hb : ∀ x ∈ l, 0 ≤ x ∧ x ≤ 10000) (hl : l.length ≤ 24) (g : Nat) (hg : g ≤ l.length) : Ev (fun k => Rf_Rest.f k l c (g : Int)) (c - sm (l.take g)) := by
 have := Rest_l0 l c hc hb hl g hg g 0 (by omega); rw [show c - sm (l.take 0) = c by simp [sm]] at this; exact this
def brk : List Int → Int → Int
 | [], c => if c < 0 then 20 else 0
 | x :: r, c => if c ≤ 0 then 20 else brk r (c - x)
theorem Break_l0 (l : List Int) (c : Int) (hc : 0 ≤ c ∧ c ≤ 4000000) (hb : ∀ x ∈ l, 0 ≤ x ∧ x ≤ 10000) (hl : l.length ≤ 24) : ∀ (n i : Nat), i + n = l.length → Ev (fun k => Rf_BreakErr.l0 k l c (i : Int)) (brk (l.drop i) (c - sm (l.take i)))
 | 0, i, h => by
  refine Ev.succ (f := fun k => Rf_BreakErr.l0 k l c (i : Int)) ?_; simp only [Rf_BreakErr.l0, show ¬ (i : Int) < (l.length : Int) by omega, if_false]; refine Ev.bind (Rest_ev l c (by omega) hb hl l.length (Nat.le_refl _)) ?_; rw [show l.drop i = [] from List.drop_eq_nil_of_le (by omega), show i = l.length by omega]; unfold brk
  split <;> exact Ev.some
 | n + 1, i, h => by
  refine Ev.succ (f := fun k => Rf_BreakErr.l0 k l c (i : Int)) ?_; have hi : i < l.length := by omega
  simp only [Rf_BreakErr.l0, show (i : Int) < (l.length : Int) by omega, if_true, up (show i < 4611686018427387904 by omega)]; refine Ev.bind (Rest_ev l c (by omega) hb hl i (by omega)) ?_; rw [drop_getD 0 hi]; unfold brk
  split
  ·exact Ev.some
  ·rw [show c - sm (l.take i) - l.getD i 0 = c - sm (l.take (i + 1)) by rw [take_succ_sm hi]; omega]; exact Break_l0 l c hc hb hl n (i + 1) (by omega)
theorem Break_ev (l : List Int) (c : Int) (hc : 0 ≤ c ∧ c ≤ 4000000) (hb : ∀ x ∈ l, 0 ≤ x ∧ x ≤ 10000) (hl : l.length ≤ 24) : Ev (fun k => Rf_BreakErr.f k l c) (brk l c) := by
 have := Break_l0 l c hc hb hl l.length 0 (by omega); rw [show c - sm (l.take 0) = c by simp [sm]] at this; exact this
def fr (x c : Int) : S100 := ⟨Int.tdiv x (Int.gcd x c), Int.tdiv c (Int.gcd x c)⟩
def shs : List Int → Int → List S100
 | [], _ => []
 | x :: r, c => fr x c :: shs r (c - x)
theorem tdiv_in {a b M : Int} (ha : -M ≤ a ∧ a ≤ M) : -M ≤ Int.tdiv a b ∧ Int.tdiv a b ≤ M := by
 have h6 : (a.tdiv b).natAbs ≤ a.natAbs := by rw [Int.natAbs_tdiv]; exact Nat.div_le_self _ _
 omega
theorem gcd_pos {x c : Int} (h : 0 < c) : (Int.gcd x c : Int) ≠ 0 := by
 intro h0; have : Int.gcd x c = 0 := by omega
 have := (Int.gcd_eq_zero_iff.mp this).2
 omega
theorem fraction_ev {x c : Int} (hx : 0 ≤ x ∧ x ≤ 10000) (hc : 0 < c ∧ c ≤ 4000000) : Ev (fun k => L_fraction.f k x c) ((fr x c).f0, (fr x c).f1) := by
 unfold L_fraction.f; refine Ev.bind (divisor_ev (by omega) (by omega)) ?_; rw [if_neg (gcd_pos hc.1)]; have h1 := tdiv_in (a := x) (b := (Int.gcd x c : Int)) (M := 10000) (by omega); have h2 := tdiv_in (a := c) (b := (Int.gcd x c : Int)) (M := 4000000) (by omega); rw [w64 (by omega), w64 (by omega)]; exact Ev.some
theorem Lowest_ev {x c : Int} (hx : 0 ≤ x ∧ x ≤ 10000) (hc : 0 < c ∧ c ≤ 4000000) : Ev (fun k => Bs_Lowest.f k x c) ((fr x c).f0, (fr x c).f1) := by
 unfold Bs_Lowest.f; refine Ev.bind (Gcd_ev (by omega) (by omega)) ?_; rw [if_neg (by omega), if_neg (gcd_pos hc.1)]; have h1 := tdiv_in (a := x) (b := (Int.gcd x c : Int)) (M := 10000) (by omega); have h2 := tdiv_in (a := c) (b := (Int.gcd x c : Int)) (M := 4000000) (by omega); rw [w64 (by omega), w64 (by omega)]; exact Ev.some
def shR : List S100 → List Int → Int → List S100 × Int
 | a, [], _ => (a, 0)
 | a, x :: r, c => if c = 0 then ([], 20) else shR (a ++ [fr x c]) r (c - x)
theorem shares_l0 (l : List Int) (hb : ∀ x ∈ l, 0 ≤ x ∧ x ≤ 10000) (hl : l.length ≤ 24) : ∀ (n i : Nat) (a : List S100) (c : Int), i + n = l.length → a.length = i → c ≤ 4000000 → sm (l.drop i) ≤ c → Ev (fun k => L_profile_shares.l0 k a c l (l.length : Int) (i : Int)) (shR a (l.drop i) c)
 | 0, i, a, c, h, _, _, _ => by
  refine Ev.succ (f := fun k => L_profile_shares.l0 k a c l (l.length : Int) (i : Int)) ?_; simp only [L_profile_shares.l0, show ¬ (i : Int) < (l.length : Int) by omega, if_false]; rw [show l.drop i = [] from List.drop_eq_nil_of_le (by omega)]; exact Ev.some
 | n + 1, i, a, c, h, ha, hc, hs => by
  refine Ev.succ (f := fun k => L_profile_shares.l0 k a c l (l.length : Int) (i : Int)) ?_; have hi : i < l.length := by omega
  have hx := hb _ (getD_mem hi); rw [drop_getD 0 hi] at hs ⊢; have hs2 := (sm_nonneg (l := l.drop (i + 1)) (fun y hy => hb y (List.mem_of_mem_drop hy))).1; simp only [sm] at hs; simp only [L_profile_shares.l0, show (i : Int) < (l.length : Int) by omega, show (0 : Int) ≤ (i : Int) by omega, if_true, up (show i < 4611686018427387904 by omega), rd_nat, show a.length < 8796093022208 by omega]; unfold shR
  by_cases h0 : c = 0
  ·simp only [h0, if_true]; exact Ev.some
  ·simp only [h0, if_false]; refine Ev.bind (fraction_ev hx (by omega)) ?_; rw [w64 (by omega)]; exact shares_l0 l hb hl n (i + 1) (a ++ [fr (l.getD i 0) c]) (c - l.getD i 0) (by omega) (by simp [ha]) (by omega) (by omega)
theorem brk_two : ∀ (l : List Int) (c : Int), brk l c = 0 ∨ brk l c = 20
 | [], c => by unfold brk; split <;> simp
 | x :: r, c => by
  unfold brk; split
  ·simp
  ·exact brk_two r _
theorem brk_over : ∀ (l : List Int) (c : Int), c < sm l → brk l c = 20
 | [], c, h => by unfold brk; simp only [sm] at h; rw [if_pos h]
 | x :: r, c, h => by
  unfold brk; split
  ·rfl
  ·simp only [sm] at h; exact brk_over r _ (by omega)
theorem shR_eq : ∀ (l : List Int) (a : List S100) (c : Int), (∀ x ∈ l, 0 ≤ x ∧ x ≤ 10000) → sm l ≤ c → shR a l c = if brk l c = 0 then (a ++ shs l c, 0) else ([], 20)
 | [], a, c, _, h => by
  simp only [sm] at h; have e : brk [] c = 0 := by unfold brk; rw [if_neg (by omega)]
  rw [if_pos e]; simp [shR, shs]
 | x :: r, a, c, hb, h => by
  have hb2 : ∀ y ∈ r, 0 ≤ y ∧ y ≤ 10000 := fun y hy => hb y (List.mem_cons_of_mem _ hy); have h1 := sm_nonneg (l := r) hb2; have h2 := hb x List.mem_cons_self; simp only [sm] at h; unfold shR brk shs
  by_cases h0 : c = 0
  ·rw [if_pos h0, if_pos (show c ≤ 0 by omega), if_neg (by omega)]
  ·rw [if_neg h0, if_neg (show ¬ c ≤ 0 by omega), shR_eq r _ _ hb2 (by omega)]
   simp
theorem shares_ev (l : List Int) (c : Int) (hc : c ≤ 4000000) (hb : ∀ x ∈ l, 0 ≤ x ∧ x ≤ 10000) (hl : l.length ≤ 24) : Ev (fun k => L_profile_shares.f k l c) (if brk l c = 0 then (shs l c, 0) else ([], 20)) := by
 unfold L_profile_shares.f; refine Ev.bind (sum_ev l hb hl) ?_
 by_cases h : sm l > c
 ·simp only [h, if_true]; rw [brk_over l c h]; exact Ev.some
 ·simp only [h, if_false]; have := shares_l0 l hb hl l.length 0 [] c (by omega) rfl hc (by simpa using (by omega : sm l ≤ c)); rw [List.drop_zero, shR_eq l [] c hb (by omega)] at this; exact this
theorem Shares_l0 (l : List Int) (c : Int) (hc : 0 ≤ c ∧ c ≤ 4000000) (hb : ∀ x ∈ l, 0 ≤ x ∧ x ≤ 10000) (hl : l.length ≤ 24) : ∀ (n i : Nat) (a : List S100), i + n = l.length → a.length = i → brk (l.drop i) (c - sm (l.take i)) = 0 → Ev (fun k => Rf_Shares.l0 k l c a (i : Int)) (a ++ shs (l.drop i) (c - sm (l.take i)))
 | 0, i, a, h, _, _ => by
  refine Ev.succ (f := fun k => Rf_Shares.l0 k l c a (i : Int)) ?_; simp only [Rf_Shares.l0, show ¬ (i : Int) < (l.length : Int) by omega, if_false]; rw [show l.drop i = [] from List.drop_eq_nil_of_le (by omega)]; simp only [shs, List.append_nil]; exact Ev.some
 | n + 1, i, a, h, ha, hk => by
  refine Ev.succ (f := fun k => Rf_Shares.l0 k l c a (i : Int)) ?_; have hi : i < l.length := by omega
  have hx := hb _ (getD_mem hi); have h1 := sm_take hb i hl; rw [drop_getD 0 hi] at hk ⊢; unfold brk at hk
  split at hk
  ·exact absurd hk (by simp)
  rename_i h0
  simp only [Rf_Shares.l0, show (i : Int) < (l.length : Int) by omega, show (0 : Int) ≤ (i : Int) by omega, if_true, up (show i < 4611686018427387904 by omega), rd_nat, show a.length < 8796093022208 by omega]; refine Ev.bind (Rest_ev l c (by omega) hb hl i (by omega)) ?_; refine Ev.bind (Lowest_ev hx (by omega)) ?_; have e : c - sm (l.take i) - l.getD i 0 = c - sm (l.take (i + 1)) := by rw [take_succ_sm hi]; omega
  unfold shs; rw [e] at hk ⊢; have := Shares_l0 l c hc hb hl n (i + 1) (a ++ [fr (l.getD i 0) (c - sm (l.take i))]) (by omega) (by simp [ha]) hk; rw [List.append_assoc] at this; exact this
theorem Shares_ev (l : List Int) (c : Int) (hc : 0 ≤ c ∧ c ≤ 4000000) (hb : ∀ x ∈ l, 0 ≤ x ∧ x ≤ 10000) (hl : l.length ≤ 24) (hk : brk l c = 0) : Ev (fun k => Rf_Shares.f k l c) (shs l c) := by
 have := Shares_l0 l c hc hb hl l.length 0 [] (by omega) rfl (by simpa [sm] using hk); simp only [List.drop_zero, List.take_zero, sm, Int.sub_zero, List.nil_append] at this; exact this
theorem shs_length : ∀ (l : List Int) (c : Int), (shs l c).length = l.length
 | [], _ => rfl
 | x :: r, c => by simp [shs, shs_length r]
theorem Fracs_l0 (x : List S100) (hl : x.length < 4611686018427387904) : ∀ (n i : Nat), i + n = x.length → Ev (fun k => Bs_Fracs.l0 k x x (i : Int)) true
 | 0, i, h => by
  refine Ev.succ (f := fun k => Bs_Fracs.l0 k x x (i : Int)) ?_; simp only [Bs_Fracs.l0, show ¬ (i : Int) < (x.length : Int) by omega, if_false]; exact Ev.some
 | n + 1, i, h => by
  refine Ev.succ (f := fun k => Bs_Fracs.l0 k x x (i : Int)) ?_; simp only [Bs_Fracs.l0, show (i : Int) < (x.length : Int) by omega, show (0 : Int) ≤ (i : Int) by omega, if_true, beq_self_eq_true, Bool.not_true, Bool.or_self, Bool.false_eq_true, if_false, up (show i < 4611686018427387904 by omega)]; exact Fracs_l0 x hl n (i + 1) (by omega)
theorem Fracs_ev (x : List S100) (hl : x.length < 4611686018427387904) : Ev (fun k => Bs_Fracs.f k x x) true := by
 unfold Bs_Fracs.f; simp only [if_true]; exact Fracs_l0 x hl x.length 0 (by omega)

def cE (a : Int) : Int := if 1 ≤ a ∧ a ≤ 1000000 then 0 else 2
theorem constantErr_eq (a : Int) : L_constantErr.f a = some (cE a) := by
 unfold L_constantErr.f cE; simp only [isConstant_eq, unless_eq, Option.bind_some, decide_eq_true_eq]
theorem ConstantErr_eq (a : Int) : Rf_ConstantErr.f a = some (cE a) := by
 unfold Rf_ConstantErr.f cE; simp only [Within_eq, Option.bind_some, decide_eq_true_eq]
 split <;> rfl
def dE (l : List Int) (a : Int) : Int := if (pE l).2 = 0 then cE a else (pE l).2
theorem Undone_ev (l : List Int) (a : Int) (hl : l.length < 4611686018427387904) : Ev (fun k => L_Undone.f k l a) (if dE l a = 0 then (if brk l a = 0 then (shs l a, 0) else ([], 20)) else ([], dE l a)) := by
 unfold L_Undone.f; refine Ev.bind (open_ev l hl) ?_; simp only [constantErr_eq, Option.bind_some]; refine Ev.bind (first_ev _ (by simp)) ?_; have e : fnz [(pE l).2, cE a] = dE l a := by
  unfold dE fnz fnz
  split
  ·split <;> rename_i h
   ·rw [h]; rfl
   ·rfl
  ·rfl
 rw [e]
 by_cases h : dE l a = 0
 ·simp only [h, if_true]; have h2 : (pE l).2 = 0 := by unfold dE at h; split at h <;> assumption
  obtain ⟨h3, h4, h5⟩ := pE_ok h2; have h6 : 1 ≤ a ∧ a ≤ 1000000 := by unfold dE cE at h; rw [if_pos h2] at h; split at h <;> omega
  exact Ev.bind (shares_ev l a (by omega) h5 h4) Ev.some
 ·simp only [h, if_false]; exact Ev.some

def oE (p : S138) : Int := if (1 ≤ p.f0 ∧ p.f0 ≤ 1000000) ∧ (0 ≤ p.f1 ∧ p.f1 ≤ 1000000) then 0 else 2
def pts : List S138 → Nat → Int → Int → Int × Int × Int × Int
 | [], _, a, b => (0, 0, a, b)
 | p :: r, i, a, b => if oE p = 0 then pts r (i + 1) (mx a (p.f0 - p.f1)) (mn b (p.f0 + p.f1)) else ((i : Int), 2, a, b)
def csts : List S138 → Int → Int → Int × Int
 | [], a, b => (a, b)
 | p :: r, a, b => csts r (mx a (p.f0 - p.f1)) (mn b (p.f0 + p.f1))
theorem rd138_drop {l : List S138} {i : Nat} (h : i < l.length) : l.drop i = rd_T138 l (i : Int) :: l.drop (i + 1) := by
 unfold rd_T138; exact drop_getD z138 h
theorem oE_ok {p : S138} (h : oE p = 0) : (1 ≤ p.f0 ∧ p.f0 ≤ 1000000) ∧ (0 ≤ p.f1 ∧ p.f1 ≤ 1000000) := by
 unfold oE at h; split at h
 ·assumption
 ·omega
theorem Const_1_eq (p : S138) (a b : Int) : L_ConstantOf_1.f p.f0 p.f1 a b = some (if oE p = 0 then (0, mx a (p.f0 - p.f1), mn b (p.f0 + p.f1)) else (2, a, b)) := by
 unfold L_ConstantOf_1.f; simp only [isConstant_eq, within_eq, Option.bind_some, decide_eq_true_eq]; unfold oE
 by_cases h1 : 1 ≤ p.f0 ∧ p.f0 ≤ 1000000
 ·by_cases h2 : 0 ≤ p.f1 ∧ p.f1 ≤ 1000000
  ·simp only [h1, h2, and_self, if_true]; rw [w64 (by omega), w64 (by omega)]
  ·simp [h1, h2]
 ·simp [h1]
theorem pts_l0 (l : List S138) (hl : l.length < 4611686018427387904) : ∀ (n i : Nat) (a b : Int), i + n = l.length → Ev (fun k => api_CloudPoint_ConstantOf_1.l0 k l (l.length : Int) (i : Int) a b) (pts (l.drop i) i a b)
 | 0, i, a, b, h => by
  refine Ev.succ (f := fun k => api_CloudPoint_ConstantOf_1.l0 k l (l.length : Int) (i : Int) a b) ?_; simp only [api_CloudPoint_ConstantOf_1.l0, show ¬ (i : Int) < (l.length : Int) by omega, if_false]; rw [show l.drop i = [] from List.drop_eq_nil_of_le (by omega)]; exact Ev.some
 | n + 1, i, a, b, h => by
  refine Ev.succ (f := fun k => api_CloudPoint_ConstantOf_1.l0 k l (l.length : Int) (i : Int) a b) ?_; rw [rd138_drop (show i < l.length by omega)]; simp only [api_CloudPoint_ConstantOf_1.l0, show (i : Int) < (l.length : Int) by omega, show (0 : Int) ≤ (i : Int) by omega, if_true, up (show i < 4611686018427387904 by omega), Const_1_eq, Option.bind_some]; unfold pts
  by_cases e : oE (rd_T138 l (i : Int)) = 0
  ·simp only [e, if_true]; exact pts_l0 l hl n (i + 1) _ _ (by omega)
  ·simp only [e, if_false, show ¬ (2 : Int) = 0 by omega]; exact Ev.some
def ptsE (l : List S138) : Int := if l.length = 0 then 10 else if 12 < l.length then 8 else (chk oE l 0).2
theorem pts_chk : ∀ (l : List S138) (i j : Nat) (a b : Int), (pts l i a b).2.1 = (chk oE l j).2 ∧ ((chk oE l j).2 = 0 → pts l i a b = (0, 0, (csts l a b).1, (csts l a b).2))
 | [], _, _, _, _ => ⟨rfl, fun _ => rfl⟩
 | p :: r, i, j, a, b => by
  unfold pts chk csts
  by_cases e : oE p = 0
  ·simp only [e, if_true]; exact pts_chk r (i + 1) (j + 1) _ _
  ·rw [if_neg e, if_neg e]; refine ⟨?_, fun h => ?_⟩
   ·unfold oE at e ⊢
    split at e
    ·exact absurd rfl e
    ·rename_i h; rw [if_neg h]
   ·exact absurd h e
theorem ConstantOf_ev (l : List S138) (hl : l.length < 4611686018427387904) : Ev (fun k => L_ConstantOf.f k l) (if ptsE l = 0 then (if (csts l (-1000000) 2000000).1 > (csts l (-1000000) 2000000).2 then (0, 0, 12) else ((csts l (-1000000) 2000000).1, (csts l (-1000000) 2000000).2, 0)) else (0, 0, ptsE l)) := by
 unfold L_ConstantOf.f; simp only [unless_eq, Option.bind_some]; refine Ev.bind (first_ev _ (by simp)) ?_; unfold ptsE
 by_cases h1 : l.length = 0
 ·simp only [h1, show ¬ ((0 : Nat) : Int) > 0 by omega, decide_false, fnz]; exact Ev.some
 ·by_cases h2 : 12 < l.length
  ·simp only [h1, h2, show (l.length : Int) > 0 by omega, show ¬ (l.length : Int) ≤ 12 by omega, decide_false, decide_true, fnz, if_true, if_false]; exact Ev.some
  ·simp only [h1, h2, show (l.length : Int) > 0 by omega, show (l.length : Int) ≤ 12 by omega, decide_true, fnz, if_true, if_false]; refine Ev.bind (pts_l0 l hl l.length 0 (-1000000) 2000000 (by omega)) ?_; obtain ⟨h3, h4⟩ := pts_chk l 0 0 (-1000000) 2000000; rw [List.drop_zero, h3]
   by_cases e : (chk oE l 0).2 = 0
   ·rw [if_pos e, if_pos e, h4 e]; simp only []
    split <;> exact Ev.some
   ·rw [if_neg e, if_neg e]; exact Ev.some
theorem PointsErr_l0 (l : List S138) (hl : l.length < 4611686018427387904) : ∀ (n i : Nat), i + n = l.length → Ev (fun k => Rf_PointsErr.l0 k l (i : Int)) (chk oE (l.drop i) i).2
 | 0, i, h => by
  refine Ev.succ (f := fun k => Rf_PointsErr.l0 k l (i : Int)) ?_; simp only [Rf_PointsErr.l0, show ¬ (i : Int) < (l.length : Int) by omega, if_false]; rw [show l.drop i = [] from List.drop_eq_nil_of_le (by omega)]; exact Ev.some
 | n + 1, i, h => by
  refine Ev.succ (f := fun k => Rf_PointsErr.l0 k l (i : Int)) ?_; rw [rd138_drop (show i < l.length by omega)]; simp only [Rf_PointsErr.l0, show (i : Int) < (l.length : Int) by omega, show (0 : Int) ≤ (i : Int) by omega, if_true, up (show i < 4611686018427387904 by omega), Within_eq, Option.bind_some, decide_eq_true_eq]; unfold chk; generalize rd_T138 l (i : Int) = p; have ih := PointsErr_l0 l hl n (i + 1) (by omega); unfold oE
  by_cases h1 : 1 ≤ p.f0 ∧ p.f0 ≤ 1000000
  ·by_cases h2 : 0 ≤ p.f1 ∧ p.f1 ≤ 1000000
   ·simp only [h1, h2, and_self, if_true]; exact ih
   ·simp only [h1, h2, and_false, and_self, if_true, if_false, show ¬ (2 : Int) = 0 by omega]; exact Ev.some
  ·simp only [h1, false_and, if_false, show ¬ (2 : Int) = 0 by omega]; exact Ev.some
theorem PointsErr_ev (l : List S138) (hl : l.length < 4611686018427387904) : Ev (fun k => Rf_PointsErr.f k l) (ptsE l) := by
 unfold Rf_PointsErr.f ptsE
 by_cases h1 : l.length = 0
 ·simp only [h1]; exact Ev.some
 ·by_cases h2 : 12 < l.length
  ·simp only [h1, h2, show ¬ (l.length : Int) = 0 by omega, show (l.length : Int) > 12 by omega, if_true, if_false]; exact Ev.some
  ·simp only [h1, h2, show ¬ (l.length : Int) = 0 by omega, show ¬ (l.length : Int) > 12 by omega, if_false]; have := PointsErr_l0 l hl l.length 0 (by omega); rw [List.drop_zero] at this; exact this
theorem Constants_l0 (l : List S138) (hl : l.length < 4611686018427387904) (hb : ∀ p ∈ l, oE p = 0) : ∀ (n i : Nat) (a b : Int), i + n = l.length → Ev (fun k => Rf_Constants.l0 k l (i : Int) a b) (if (csts (l.drop i) a b).1 > (csts (l.drop i) a b).2 then (0, 0, false) else ((csts (l.drop i) a b).1, (csts (l.drop i) a b).2, true))
 | 0, i, a, b, h => by
  refine Ev.succ (f := fun k => Rf_Constants.l0 k l (i : Int) a b) ?_; simp only [Rf_Constants.l0, show ¬ (i : Int) < (l.length : Int) by omega, if_false]; rw [show l.drop i = [] from List.drop_eq_nil_of_le (by omega)]; simp only [csts]
  by_cases h2 : a > b
  ·simp only [h2, if_true]; exact Ev.some
  ·simp only [h2, if_false]; exact Ev.some
 | n + 1, i, a, b, h => by
  refine Ev.succ (f := fun k => Rf_Constants.l0 k l (i : Int) a b) ?_; have hi : i < l.length := by omega
  rw [rd138_drop hi]; have hm : rd_T138 l (i : Int) ∈ l := by
   have : rd_T138 l (i : Int) ∈ l.drop i := by rw [rd138_drop hi]; exact List.mem_cons_self
   exact List.mem_of_mem_drop this
  have h2 := oE_ok (hb _ hm); simp only [Rf_Constants.l0, show (i : Int) < (l.length : Int) by omega, show (0 : Int) ≤ (i : Int) by omega, if_true, up (show i < 4611686018427387904 by omega)]; rw [w64 (by omega), w64 (by omega)]; exact Constants_l0 l hl hb n (i + 1) _ _ (by omega)
theorem Constants_ev (l : List S138) (hl : l.length < 4611686018427387904) (hk : ptsE l = 0) : Ev (fun k => Rf_Constants.f k l) (if (csts l (-1000000) 2000000).1 > (csts l (-1000000) 2000000).2 then (0, 0, false) else ((csts l (-1000000) 2000000).1, (csts l (-1000000) 2000000).2, true)) := by
 unfold ptsE at hk
 split at hk
 ·exact absurd hk (by simp)
 split at hk
 ·exact absurd hk (by simp)
 have hb := chk_all hk; have hi : 0 < l.length := by omega
 have hd := rd138_drop hi; rw [List.drop_zero] at hd; have hm : rd_T138 l ((0 : Nat) : Int) ∈ l := by
  have : rd_T138 l ((0 : Nat) : Int) ∈ l.drop 0 := by rw [rd138_drop hi]; exact List.mem_cons_self
  exact List.mem_of_mem_drop this
 have h2 := oE_ok (hb _ hm); unfold Rf_Constants.f; simp only [show 0 < (l.length : Int) by omega, if_true]; rw [show (0 : Int) = ((0 : Nat) : Int) from rfl, w64 (by omega), w64 (by omega)]; have := Constants_l0 l hl hb (l.length - 1) 1 ((rd_T138 l ((0 : Nat) : Int)).f0 - (rd_T138 l ((0 : Nat) : Int)).f1) ((rd_T138 l ((0 : Nat) : Int)).f0 + (rd_T138 l ((0 : Nat) : Int)).f1) (by omega); have e : csts l (-1000000) 2000000 = csts (l.drop 1) ((rd_T138 l ((0 : Nat) : Int)).f0 - (rd_T138 l ((0 : Nat) : Int)).f1) ((rd_T138 l ((0 : Nat) : Int)).f0 + (rd_T138 l ((0 : Nat) : Int)).f1) := by
  conv => lhs; rw [hd]
  unfold csts; rw [show mx (-1000000) ((rd_T138 l ((0 : Nat) : Int)).f0 - (rd_T138 l ((0 : Nat) : Int)).f1) = (rd_T138 l ((0 : Nat) : Int)).f0 - (rd_T138 l ((0 : Nat) : Int)).f1 by unfold mx; split <;> omega,
   show mn 2000000 ((rd_T138 l ((0 : Nat) : Int)).f0 + (rd_T138 l ((0 : Nat) : Int)).f1) = (rd_T138 l ((0 : Nat) : Int)).f0 + (rd_T138 l ((0 : Nat) : Int)).f1 by unfold mn; split <;> omega]
  cases l.drop (0 + 1) <;> rfl
 rw [e]; exact this
theorem CopyPoints_eq (l : List S138) (h : l.length < 4611686018427) : Rf_CopyPoints.f l = some l := by
 unfold Rf_CopyPoints.f; simp only [Option.bind_some, List.length_nil, List.nil_append]; rw [if_pos (by omega)]

theorem CloudProfiles_ev (l : List Int) (a : Int) (p : List S138) : Ev (fun k => Lw_CloudProfiles.f k l a p) true := by
 unfold Lw_CloudProfiles.f; refine Ev.bind awake_ev ?_; simp only [if_true, few_eq, Option.bind_some, decide_eq_true_eq]; have hskip : Ev (fun k => Lw_CloudProfiles.j0 k l a p true) true := by
  refine Ev.succ (f := fun k => Lw_CloudProfiles.j0 k l a p true) ?_; simp only [Lw_CloudProfiles.j0, if_true]; exact Ev.some
 by_cases hf : l.length ≤ 26
 rotate_left
 ·simp only [hf, if_false]; exact hskip
 simp only [hf, if_true]
 by_cases hp : (p.length : Int) > 14
 ·simp only [hp, decide_true]; exact hskip
 simp only [hp, decide_false]; refine Ev.succ (f := fun k => Lw_CloudProfiles.j0 k l a p false) ?_; simp only [Lw_CloudProfiles.j0, Bool.false_eq_true, if_false, CopyInts_eq l (by omega), CopyPoints_eq p (by omega), Option.bind_some]; refine Ev.bind (CheckProfile_ev l (by omega)) ?_; refine Ev.bind (Undone_ev l a (by omega)) ?_; refine Ev.bind (ConstantOf_ev p (by omega)) ?_; refine Ev.bind (RefCheckProfile_ev l (by omega)) ?_; simp only [if_true, bne_self_eq_false]; generalize hU : (if dE l a = 0 then (if brk l a = 0 then (shs l a, 0) else ([], 20)) else ([], dE l a) : List S100 × Int) = U; generalize hC : (if ptsE p = 0 then (if (csts p (-1000000) 2000000).1 > (csts p (-1000000) 2000000).2 then (0, 0, 12) else ((csts p (-1000000) 2000000).1, (csts p (-1000000) 2000000).2, 0)) else (0, 0, ptsE p) : Int × Int × Int) = C
 -- the points
 have h3 : Ev (fun k => Lw_CloudProfiles.j3 k p C.2.2 false C.1 C.2.1) true := by
  refine Ev.succ (f := fun k => Lw_CloudProfiles.j3 k p C.2.2 false C.1 C.2.1) ?_; simp only [Lw_CloudProfiles.j3, Bool.false_eq_true, if_false]; refine Ev.bind (PointsErr_ev p (by omega)) ?_
  by_cases h : ptsE p = 0
  ·rw [if_pos h] at hC; simp only [h, if_true]; refine Ev.bind (Constants_ev p (by omega) h) ?_
   by_cases h2 : (csts p (-1000000) 2000000).1 > (csts p (-1000000) 2000000).2
   ·rw [if_pos h2] at hC; subst hC; simp only [h2, if_true]; exact Ev.some
   ·rw [if_neg h2] at hC; subst hC; simp only [h2, if_false, if_true, beq_self_eq_true, Bool.and_self]; exact Ev.some
  ·rw [if_neg h] at hC; subst hC; simp only [h, if_false, if_true, beq_self_eq_true, Bool.and_self]; exact Ev.some
 -- the shares
 refine Ev.succ (f := fun k => Lw_CloudProfiles.j1 k l a p U.1 U.2 C.2.2 (pE l).2 false C.1 C.2.1) ?_; simp only [Lw_CloudProfiles.j1, Bool.false_eq_true, if_false, ConstantErr_eq, both_eq, Option.bind_some]; rw [show (if (pE l).2 = 0 then cE a else (pE l).2) = dE l a from rfl]; have hj2 : ∀ d : Int, (d = 0 → U.2 = 0 ∧ U.1 = shs l a ∧ Ev (fun k => Rf_Shares.f k l a) (shs l a)) → (d ≠ 0 → U = ([], d)) → Ev (fun k => Lw_CloudProfiles.j2 k l a p U.1 U.2 C.2.2 d C.1 C.2.1) true := by
  intro d h1 h2; refine Ev.succ (f := fun k => Lw_CloudProfiles.j2 k l a p U.1 U.2 C.2.2 d C.1 C.2.1) ?_; simp only [Lw_CloudProfiles.j2]
  by_cases hd : d = 0
  ·obtain ⟨e1, e2, e3⟩ := h1 hd; simp only [hd, e1, e2, if_true]; refine Ev.bind e3 ?_; refine Ev.bind (Fracs_ev (shs l a) (by rw [shs_length]; omega)) ?_; exact h3
  ·have := h2 hd; rw [this]; simp only [hd, if_false, if_true, List.length_nil]; exact h3
 by_cases h : dE l a = 0
 ·simp only [h, if_true] at hU ⊢; have h2 : (pE l).2 = 0 := by unfold dE at h; split at h <;> assumption
  obtain ⟨_, h4, h5⟩ := pE_ok h2; have h6 : 1 ≤ a ∧ a ≤ 1000000 := by unfold dE cE at h; rw [if_pos h2] at h; split at h <;> omega
  refine Ev.bind (Break_ev l a (by omega) h5 h4) ?_; refine hj2 _ (fun hb => ?_) (fun hb => ?_)
  ·rw [if_pos hb] at hU; subst hU; exact ⟨rfl, rfl, Shares_ev l a (by omega) h5 h4 hb⟩
  ·rw [if_neg hb] at hU; rw [← hU]
   rcases brk_two l a with e | e
   ·exact absurd e hb
   ·rw [e]
 ·simp only [h, if_false] at hU ⊢; refine hj2 _ (fun hb => absurd hb h) (fun hb => ?_); rw [← hU]
theorem CloudProfiles_pure (l : List Int) (_ : l.length ≤ maxLen) (_ : ∀ x ∈ l, (Lit.int .i64 x).wf = true) (a : Int) (_ : (Lit.int .i64 a).wf = true) (p : List S138) (_ : p.length ≤ maxLen ∧ ∀ x ∈ p, (Lit.int .i64 x.f0).wf = true ∧ (Lit.int .i64 x.f1).wf = true) : ∃ k, Lw_CloudProfiles.f k l a p = some true := (CloudProfiles_ev l a p).ex
end Go.Proofs.Yteiafijbgjgiaaa.P
