/-
PLAIN LAW: what the walks compute answers as the statement says (no program in sight; Ev: from some number of rounds on).
-/
import Derived.Test.YtjnkphmcndaijaaDoorSpd10
import Derived.Test.YtjnkphmcndaijaaDoorSpd13
import Derived.Test.YtjnkphmcndaijaaDoorSpd18
import Derived.Test.YtjnkphmcndaijaaDoorSpd19
import Derived.Test.YtjnkphmcndaijaaDoorSpd16
import Derived.Test.YtjnkphmcndaijaaDoorSpd17
import Derived.Test.YtjnkphmcndaijaaDoorSpd15
import Derived.Test.YtjnkphmcndaijaaDoorSpd14
import Derived.Test.YtjnkphmcndaijaaDoorSpd20
import Derived.Test.YtjnkphmcndaijaaDoorSpd12
import Derived.Test.YtjnkphmcndaijaaDoorSpd04
namespace Go.Proofs.YtjnkphmcndaijaaDoor.P
open Go Go.RowKit Go.Proofs.YtjnkphmcndaijaaDoor.A Go.Proofs.YtjnkphmcndaijaaDoorW.PrintWords Go.Proofs.YtjnkphmcndaijaaDoorW.PrintLast Go.Proofs.YtjnkphmcndaijaaDoorW.PrintMore
set_option linter.unusedSimpArgs false
set_option linter.unusedVariables false
/-- From some number of rounds on, f says r. -/
def Ev {α : Type} (f : Nat → Option α) (r : α) : Prop := ∃ k, ∀ j, k ≤ j → f j = some r

theorem Ev.const {α : Type} {x : Option α} {r : α} (h : x = some r) : Ev (fun _ => x) r := ⟨0, fun _ _ => h⟩
theorem Ev.some {α : Type} {r : α} : Ev (fun _ => Option.some r) r := ⟨0, fun _ _ => rfl⟩
theorem Ev.bind {α β : Type} {f : Nat → Option α} {g : Nat → α → Option β} {a : α} {b : β} (h : Ev f a) (h2 : Ev (fun k => g k a) b) : Ev (fun k => (f k).bind (g k)) b := by
 obtain ⟨k, hk⟩ := h
 obtain ⟨m, hm⟩ := h2
 exact ⟨max k m, fun j hj => by show (f j).bind (g j) = _; rw [hk j (by omega)]; exact hm j (by omega)⟩
theorem Ev.succ {α : Type} {f : Nat → Option α} {r : α} (h : Ev (fun k => f (k + 1)) r) : Ev f r := by
 obtain ⟨k, hk⟩ := h
 exact ⟨k + 1, fun j hj => by obtain ⟨m, rfl⟩ : ∃ m, j = m + 1 := ⟨j - 1, by omega⟩; exact hk m (by omega)⟩
theorem Ev.congr {α : Type} {f g : Nat → Option α} {r : α} (e : ∀ k, f k = g k) (h : Ev f r) : Ev g r := by
 obtain ⟨k, hk⟩ := h
 exact ⟨k, fun j hj => by rw [← e j]; exact hk j hj⟩
theorem Ev.ex {α : Type} {f : Nat → Option α} {r : α} (h : Ev f r) : ∃ k, f k = Option.some r := let ⟨k, hk⟩ := h; ⟨k, hk k (Nat.le_refl _)⟩
theorem Ev.of_mono {α : Type} {f : Nat → Option α} {r : α} (hm : ∀ k, LeO (f k) (f (k + 1))) {k : Nat} (h : f k = Option.some r) : Ev f r := by
  refine ⟨k, fun j hj => ?_⟩
  induction j with
  | zero => obtain rfl : k = 0 := by omega
            exact h
  | succ j ih =>
    by_cases e : k = j + 1
    · subst e; exact h
    · exact hm j r (ih (by omega))
theorem up {i : Nat} (h : i < 4611686018427387904) : wrap64 ((i : Int) + 1) = ((i + 1 : Nat) : Int) := by
 unfold wrap64; omega
theorem w64 {n : Int} (h : -9223372036854775808 ≤ n ∧ n ≤ 9223372036854775807) : wrap64 n = n := by unfold wrap64; omega
theorem rd_nat (l : List Int) (i : Nat) : rd l (i : Int) = l.getD i 0 := by unfold rd; simp
theorem drop_rd {l : List Int} {i : Nat} (h : i < l.length) : l.drop i = rd l (i : Int) :: l.drop (i + 1) := by
 rw [rd_nat, List.drop_eq_getElem_cons h]
 simp [List.getD_eq_getElem?_getD, h]

theorem within_eq (a b c : Int) : L_within.f a b c = some (decide (b ≤ a ∧ a ≤ c)) := by
 unfold L_within.f
 by_cases h : b ≤ a <;> simp [h]
theorem Within_eq (a b c : Int) : Bs_Within.f a b c = some (decide (b ≤ a ∧ a ≤ c)) := by
 unfold Bs_Within.f
 by_cases h : b ≤ a <;> simp [h]
theorem unless_eq (b : Bool) (e : Int) : L_unless.f b e = some (if b = true then 0 else e) := by
 unfold L_unless.f
 cases b <;> simp
theorem Size_eq (a : Int) : Bs_Size.f a = some (mx a (wrap64 (-a))) := rfl
/-- The first number that is not 0. -/
def fnz : List Int → Int
 | [] => 0
 | x :: r => if x = 0 then fnz r else x

theorem first_l0 (l : List Int) (hl : l.length < 4611686018427387904) : ∀ (n i : Nat), i + n = l.length → Ev (fun k => L_first.l0 k l (l.length : Int) (i : Int)) (fnz (l.drop i))
 | 0, i, h => by
  refine Ev.succ (f := fun k => L_first.l0 k l (l.length : Int) (i : Int)) ?_
  have h1 : ¬ (i : Int) < (l.length : Int) := by omega
  simp only [L_first.l0, h1, if_false]
  rw [show l.drop i = [] from List.drop_eq_nil_of_le (by omega)]
  exact Ev.some
 | n + 1, i, h => by
  refine Ev.succ (f := fun k => L_first.l0 k l (l.length : Int) (i : Int)) ?_
  have h1 : (i : Int) < (l.length : Int) := by omega
  have h2 : (0 : Int) ≤ (i : Int) := by omega
  simp only [L_first.l0, h1, h2, if_true, up (show i < 4611686018427387904 by omega)]
  rw [drop_rd (show i < l.length by omega)]
  unfold fnz
  by_cases e : rd l (i : Int) = 0
  ·simp only [e, if_true]
   exact first_l0 l hl n (i + 1) (by omega)
  ·simp only [e, if_false]
   exact Ev.some
theorem first_ev (l : List Int) (hl : l.length < 4611686018427387904) : Ev (fun k => L_first.f k l) (fnz l) := first_l0 l hl l.length 0 (by omega)

def dv : List Int → Nat
 | [] => 0
 | x :: r => x.toNat + 1000000000 * dv r
def DG (l : List Int) : Prop := ∀ x ∈ l, 0 ≤ x ∧ x < 1000000000
def dn (n : Nat) : List Int := if h : n = 0 then [] else ((n % 1000000000 : Nat) : Int) :: dn (n / 1000000000)
termination_by n
decreasing_by omega
theorem dn_zero : dn 0 = [] := by rw [dn]; simp
theorem dn_pos {n : Nat} (h : n ≠ 0) : dn n = ((n % 1000000000 : Nat) : Int) :: dn (n / 1000000000) := by rw [dn]; simp [h]
theorem DG_cons {x : Int} {r : List Int} : DG (x :: r) ↔ (0 ≤ x ∧ x < 1000000000) ∧ DG r :=
 ⟨fun h => ⟨h x List.mem_cons_self, fun y hy => h y (List.mem_cons_of_mem _ hy)⟩, fun h y hy => by rcases List.mem_cons.1 hy with rfl | hy; exact h.1; exact h.2 y hy⟩
theorem DG_nil : DG [] := fun x hx => by simp at hx
theorem DG_append {l m : List Int} (hl : DG l) (hm : DG m) : DG (l ++ m) := fun x hx => by
 rcases List.mem_append.1 hx with h | h
 ·exact hl x h
 ·exact hm x h
theorem dn_DG : ∀ n : Nat, DG (dn n) := fun n => by
 induction n using Nat.strongRecOn with
 | _ n ih =>
  by_cases h : n = 0
  ·subst h; rw [dn_zero]; exact DG_nil
  ·rw [dn_pos h, DG_cons]
   exact ⟨by omega, ih _ (by omega)⟩
theorem dv_dn : ∀ n : Nat, dv (dn n) = n := fun n => by
 induction n using Nat.strongRecOn with
 | _ n ih =>
  by_cases h : n = 0
  ·subst h; rw [dn_zero]; rfl
  ·rw [dn_pos h, dv, ih _ (by omega)]
   omega
theorem dv_append : ∀ l m : List Int, dv (l ++ m) = dv l + 1000000000 ^ l.length * dv m
 | [], m => by simp [dv]
 | x :: r, m => by
  rw [List.cons_append, dv, dv, dv_append r m, List.length_cons, Nat.pow_succ, Nat.mul_add, Nat.mul_comm (1000000000 ^ r.length) 1000000000, Nat.mul_assoc]
  omega
theorem dv_last {m : List Int} {x : Int} (hx : 0 < x) : 0 < dv (m ++ [x]) := by
 rw [dv_append, dv, dv]
 have : 0 < 1000000000 ^ m.length := Nat.pow_pos (by omega)
 have h2 := Nat.mul_pos this (show 0 < x.toNat + 1000000000 * 0 by omega)
 omega
theorem dn_last : ∀ (m : List Int) (x : Int), DG (m ++ [x]) → x ≠ 0 → dn (dv (m ++ [x])) = m ++ [x]
 | [], x, h, h0 => by
  have := h x (by simp)
  rw [List.nil_append, dv, dv, dn_pos (by omega), show (x.toNat + 1000000000 * 0) / 1000000000 = 0 by omega, dn_zero]
  congr 1
  omega
 | y :: m, x, h, h0 => by
  rw [List.cons_append, DG_cons] at h
  have hx := h.2 x (by simp)
  have hp := dv_last (m := m) (x := x) (by omega)
  rw [List.cons_append, dv, dn_pos (by omega), show (y.toNat + 1000000000 * dv (m ++ [x])) / 1000000000 = dv (m ++ [x]) by omega, dn_last m x h.2 h0]
  congr 1
  omega
theorem dv_lt : ∀ {l : List Int}, DG l → dv l < 1000000000 ^ l.length
 | [], _ => by simp [dv]
 | x :: r, h => by
  rw [DG_cons] at h
  have := dv_lt h.2
  rw [dv, List.length_cons, Nat.pow_succ]
  omega
theorem dn_len {n L : Nat} (h : n < 1000000000 ^ L) : (dn n).length ≤ L := by
  induction L generalizing n with
  | zero => simp at h; subst h; rw [dn_zero]; exact Nat.le_refl _
  | succ L ih =>
    by_cases h0 : n = 0
    · subst h0; rw [dn_zero]; exact Nat.zero_le _
    · rw [dn_pos h0, List.length_cons]
      have := ih (n := n / 1000000000) (by rw [Nat.pow_succ] at h; omega)
      omega
theorem dn_big {n : Nat} (h : n ≠ 0) : 1000000000 ^ (dn n).length ≤ 1000000000 * n := by
 induction n using Nat.strongRecOn with
 | _ n ih =>
  rw [dn_pos h, List.length_cons, Nat.pow_succ]
  by_cases h1 : n / 1000000000 = 0
  ·rw [h1, dn_zero]; simp; omega
  ·have := ih (n / 1000000000) (by omega) h1
   omega
theorem dn_nil {n : Nat} : (dn n).length = 0 ↔ n = 0 := by
 constructor
 ·intro h
  rcases Nat.eq_zero_or_pos n with h0 | h0
  ·exact h0
  ·rw [dn_pos (by omega)] at h; simp at h
 ·rintro rfl; rw [dn_zero]; rfl
theorem dn_mono {m n : Nat} (h : m ≤ n) : (dn m).length ≤ (dn n).length := dn_len (by have := dv_lt (dn_DG n); rw [dv_dn] at this; omega)
theorem rd_D {l : List Int} (h : DG l) (i : Nat) : 0 ≤ rd l (i : Int) ∧ rd l (i : Int) < 1000000000 := by
 rw [rd_nat, List.getD_eq_getElem?_getD]
 rcases Nat.lt_or_ge i l.length with hi | hi
 ·rw [List.getElem?_eq_getElem hi]; exact h _ (List.getElem_mem hi)
 ·rw [List.getElem?_eq_none hi]; simp
theorem rd_out {l : List Int} {i : Nat} (h : l.length ≤ i) : rd l (i : Int) = 0 := by
 rw [rd_nat, List.getD_eq_getElem?_getD, List.getElem?_eq_none h]; rfl
theorem dv_drop (l : List Int) (i : Nat) : dv (l.drop i) = (rd l (i : Int)).toNat + 1000000000 * dv (l.drop (i + 1)) := by
 rcases Nat.lt_or_ge i l.length with hi | hi
 ·rw [drop_rd hi, dv]
 ·rw [List.drop_eq_nil_of_le hi, List.drop_eq_nil_of_le (by omega), rd_out hi]; rfl
theorem take_rd {l : List Int} {n : Nat} (h : n < l.length) : l.take (n + 1) = l.take n ++ [rd l (n : Int)] := by
 rw [rd_nat, List.getD_eq_getElem?_getD, List.getElem?_eq_getElem h, List.take_add_one, List.getElem?_eq_getElem h]; rfl
theorem dv_take {l : List Int} {n : Nat} (h : n < l.length) : dv (l.take (n + 1)) = dv (l.take n) + 1000000000 ^ n * (rd l (n : Int)).toNat := by
 rw [take_rd h, dv_append, List.length_take, Nat.min_eq_left (by omega)]; rfl
theorem DG_take {l : List Int} (h : DG l) (n : Nat) : DG (l.take n) := fun x hx => h x (List.mem_of_mem_take hx)
theorem trimmed_l0 {l : List Int} (hD : DG l) (hl : l.length < 4611686018427387904) : ∀ n : Nat, n ≤ l.length → Ev (fun k => Bs_trimmed.l0 k l (n : Int)) (dn (dv (l.take n)))
 | 0, _ => by
  refine Ev.succ (f := fun k => Bs_trimmed.l0 k l ((0 : Nat) : Int)) ?_
  simp only [Bs_trimmed.l0, show ¬ ((0 : Nat) : Int) > 0 by decide, show (0 : Int) ≤ ((0 : Nat) : Int) by decide, show ((0 : Nat) : Int) ≤ (l.length : Int) by omega, if_true, if_false]
  rw [List.take_zero, dv, dn_zero]
  simp only [Int.toNat_natCast, List.take_zero]
  exact Ev.some
 | n + 1, h => by
  refine Ev.succ (f := fun k => Bs_trimmed.l0 k l ((n + 1 : Nat) : Int)) ?_
  have w : wrap64 (((n + 1 : Nat) : Int) - 1) = (n : Int) := by unfold wrap64; omega
  have hd := rd_D hD n
  simp only [Bs_trimmed.l0, show ((n + 1 : Nat) : Int) > 0 by omega, w, show (0 : Int) ≤ (n : Int) by omega, show (n : Int) < (l.length : Int) by omega, show (0 : Int) ≤ ((n + 1 : Nat) : Int) by omega, show ((n + 1 : Nat) : Int) ≤ (l.length : Int) by omega, if_true]
  by_cases h0 : rd l (n : Int) = 0
  ·simp only [h0, if_true]
   have := trimmed_l0 hD hl n (by omega)
   rw [dv_take (by omega), h0]
   simpa using this
  ·simp only [h0, if_false]
   rw [take_rd (by omega), dn_last _ _ (by rw [← take_rd (by omega)]; exact DG_take hD _) h0, ← take_rd (by omega)]
   simp only [Int.toNat_natCast]
   exact Ev.some
theorem trimmed_ev {l : List Int} (hD : DG l) (hl : l.length < 4611686018427387904) : Ev (fun k => Bs_trimmed.f k l) (dn (dv l)) := by
 have := trimmed_l0 hD hl l.length (Nat.le_refl _)
 rw [List.take_length] at this
 exact this
theorem wideOf_ev (s : Int) {l : List Int} (hD : DG l) (hl : l.length < 4611686018427387904) : Ev (fun k => Bs_wideOf.f k s l) (if dv l = 0 then 0 else s, dn (dv l)) := by
 unfold Bs_wideOf.f
 refine Ev.bind (trimmed_ev hD hl) ?_
 by_cases h : dv l = 0
 ·have : ((dn (dv l)).length : Int) = 0 := by rw [dn_nil.2 h]; rfl
  rw [if_pos h]
  simp only [this, if_true]; exact Ev.some
 ·have : ¬ ((dn (dv l)).length : Int) = 0 := fun e => h (dn_nil.1 (by omega))
  rw [if_neg h]
  simp only [this, if_false]; exact Ev.some

def sg (z : Int) : Int := if z < 0 then -1 else if z = 0 then 0 else 1
def wd (z : Int) : Int × List Int := (sg z, dn z.natAbs)
theorem sg_in (z : Int) : sg z = -1 ∨ sg z = 0 ∨ sg z = 1 := by unfold sg; split <;> (try split) <;> simp
theorem sg_zero {z : Int} : sg z = 0 ↔ z = 0 := by unfold sg; split <;> (try split) <;> omega
theorem sg_neg {z : Int} (h : z < 0) : sg z = -1 := if_pos h
theorem sg_pos {z : Int} (h : 0 < z) : sg z = 1 := by unfold sg; rw [if_neg (by omega), if_neg (by omega)]
theorem wd_of (s : Int) (n : Nat) : (s = 1 ∨ s = -1) → ((if n = 0 then (0 : Int) else s), dn n) = wd (s * n) := by
 rintro (rfl | rfl)
 ·unfold wd sg
  by_cases h : n = 0
  ·subst h; simp
  ·simp [h] <;> omega
 ·unfold wd sg
  by_cases h : n = 0
  ·subst h; simp
  ·simp [h] <;> omega
theorem Size_abs {x : Int} (h : -9223372036854775807 ≤ x ∧ x ≤ 9223372036854775807) : Bs_Size.f x = some (x.natAbs : Int) := by
 rw [Size_eq, w64 (by omega)]
 congr 1
 unfold mx
 split <;> omega
theorem WideOf_l0 (s : Int) : ∀ (m : Nat) (x : Int) (acc : List Int), x.natAbs < 1000000000 ^ m → (-9223372036854775808 ≤ x ∧ x ≤ 9223372036854775807) → acc.length + m ≤ 3 → DG acc →
  Ev (fun k => Bs_WideOf.l0 k x s acc) (if dv (acc ++ dn x.natAbs) = 0 then 0 else s, dn (dv (acc ++ dn x.natAbs)))
 | 0, x, acc, hx, _, ha, hD => by
  obtain rfl : x = 0 := by simp at hx; omega
  refine Ev.succ (f := fun k => Bs_WideOf.l0 k 0 s acc) ?_
  simp only [Bs_WideOf.l0, if_true, Int.natAbs_zero, dn_zero, List.append_nil]
  exact Ev.bind (wideOf_ev s hD (by omega)) Ev.some
 | m + 1, x, acc, hx, hi, ha, hD => by
  refine Ev.succ (f := fun k => Bs_WideOf.l0 k x s acc) ?_
  by_cases h0 : x = 0
  ·subst h0
   simp only [Bs_WideOf.l0, if_true, Int.natAbs_zero, dn_zero, List.append_nil]
   exact Ev.bind (wideOf_ev s hD (by omega)) Ev.some
  ·have e1 : ((Int.tmod x 1000000000).natAbs : Int) = ((x.natAbs % 1000000000 : Nat) : Int) := by rw [Int.natAbs_tmod]; rfl
   have e2 : (Int.tdiv x 1000000000).natAbs = x.natAbs / 1000000000 := by rw [Int.natAbs_tdiv]; rfl
   have hm : -9223372036854775807 ≤ Int.tmod x 1000000000 ∧ Int.tmod x 1000000000 ≤ 9223372036854775807 := by omega
   have hq : -9223372036854775808 ≤ Int.tdiv x 1000000000 ∧ Int.tdiv x 1000000000 ≤ 9223372036854775807 := by omega
   simp only [Bs_WideOf.l0, h0, if_false]
   rw [Size_abs hm, w64 hq, e1]
   simp only [Option.bind_some, show acc.length < 17592186044416 by omega, if_true]
   have := WideOf_l0 s m (Int.tdiv x 1000000000) (acc ++ [((x.natAbs % 1000000000 : Nat) : Int)]) (by rw [e2]; rw [Nat.pow_succ] at hx; omega) hq (by simp; omega) (DG_append hD (fun y hy => by simp at hy; omega))
   rw [e2, List.append_assoc, List.singleton_append, ← dn_pos (show x.natAbs ≠ 0 by omega)] at this
   exact this
theorem big3 {x : Int} (h : -9223372036854775808 ≤ x ∧ x ≤ 9223372036854775807) : x.natAbs < 1000000000 ^ 3 := by
 have : (1000000000 : Nat) ^ 3 = 1000000000000000000000000000 := by decide
 omega
theorem WideOf_ev {x : Int} (h : -9223372036854775808 ≤ x ∧ x ≤ 9223372036854775807) : Ev (fun k => Bs_WideOf.f k x) (wd x) := by
 unfold Bs_WideOf.f
 have key : ∀ s : Int, Ev (fun k => Bs_WideOf.j0 k x s) (if x.natAbs = 0 then 0 else s, dn x.natAbs) := fun s => by
  refine Ev.succ (f := fun k => Bs_WideOf.j0 k x s) ?_
  simp only [Bs_WideOf.j0]
  have := WideOf_l0 s 3 x [] (big3 h) h (by simp) DG_nil
  rw [List.nil_append, dv_dn] at this
  exact this
 by_cases hx : x < 0
 ·simp only [hx, if_true]
  have := key (-1)
  rw [wd_of _ _ (.inr rfl), show (-1 : Int) * (x.natAbs : Int) = x by omega] at this
  exact this
 ·simp only [hx, if_false]
  have := key 1
  rw [wd_of _ _ (.inl rfl), show (1 : Int) * (x.natAbs : Int) = x by omega] at this
  exact this
theorem WideNeg_eq (z : Int) : Bs_WideNeg.f (wd z).1 (wd z).2 = some (wd (-z)) := by
 unfold Bs_WideNeg.f wd
 rw [Int.natAbs_neg]
 congr 2
 unfold sg wrap64
 split <;> (try split) <;> (try split) <;> (try split) <;> omega
theorem wideSize_eq (z : Int) : Bs_wideSize.f (wd z).1 (wd z).2 = some (wd (z.natAbs : Int)) := by
 unfold Bs_wideSize.f
 by_cases h : z < 0
 ·have : (wd z).1 < 0 := by show sg z < 0; unfold sg; rw [if_pos h]; decide
  simp only [this, if_true]
  rw [WideNeg_eq]
  simp only [Option.bind_some]
  rw [show ((z.natAbs : Nat) : Int) = -z by omega]
 ·have : ¬ (wd z).1 < 0 := by show ¬ sg z < 0; unfold sg; rw [if_neg h]; split <;> decide
  simp only [this, if_false]
  rw [show ((z.natAbs : Nat) : Int) = z by omega]
theorem digit_eq (l : List Int) (i : Nat) : Bs_digit.f l (i : Int) = some (rd l (i : Int)) := by
 unfold Bs_digit.f
 by_cases h : (i : Int) < (l.length : Int)
 ·simp only [h, show (0 : Int) ≤ (i : Int) by omega, if_true]
 ·simp only [h, if_false]; rw [rd_out (by omega)]

theorem addDigits_l0 {a b : List Int} (ha : DG a) (hb : DG b) (M : Nat) (hM : M < 17592186044410) (la : a.length ≤ M) (lb : b.length ≤ M) : ∀ (d i : Nat) (acc : List Int) (c : Int), M + 1 ≤ i + d → i ≤ M + 1 → acc.length = i → (0 ≤ c ∧ c ≤ 1) → (M < i → c = 0) →
  ∃ m, Ev (fun k => Bs_addDigits.l0 k a b acc c (i : Int)) (acc ++ m) ∧ DG m ∧ dv m = dv (a.drop i) + dv (b.drop i) + c.toNat ∧ m.length + i ≤ M + 1 := by
 intro d
 induction d with
 | zero =>
  intro i acc c h hi hacc hc h0
  obtain rfl : c = 0 := h0 (by omega)
  refine ⟨[], ?_, DG_nil, ?_, by simp; omega⟩
  ·refine Ev.succ (f := fun k => Bs_addDigits.l0 k a b acc 0 (i : Int)) ?_
   simp only [Bs_addDigits.l0, show ¬ (i : Int) < (a.length : Int) by omega, show ¬ (i : Int) < (b.length : Int) by omega, if_false, show decide ((0 : Int) > 0) = false by decide]
   refine Ev.succ (f := fun k => Bs_addDigits.j1 k a b acc 0 (i : Int) false) ?_
   simp only [Bs_addDigits.j1, Bool.false_eq_true, if_false, List.append_nil]
   exact Ev.some
  ·rw [List.drop_eq_nil_of_le (by omega), List.drop_eq_nil_of_le (by omega)]; rfl
 | succ d ih =>
  intro i acc c h hi hacc hc h0
  have hx := rd_D ha i
  have hy := rd_D hb i
  have hstop : ¬ ((i : Int) < (a.length : Int)) → ¬ ((i : Int) < (b.length : Int)) → ¬ c > 0 → ∃ m, Ev (fun k => Bs_addDigits.l0 k a b acc c (i : Int)) (acc ++ m) ∧ DG m ∧ dv m = dv (a.drop i) + dv (b.drop i) + c.toNat ∧ m.length + i ≤ M + 1 := fun h1 h2 h3 => by
   obtain rfl : c = 0 := by omega
   refine ⟨[], ?_, DG_nil, ?_, by simp; omega⟩
   ·refine Ev.succ (f := fun k => Bs_addDigits.l0 k a b acc 0 (i : Int)) ?_
    simp only [Bs_addDigits.l0, h1, h2, if_false, show decide ((0 : Int) > 0) = false by decide]
    refine Ev.succ (f := fun k => Bs_addDigits.j1 k a b acc 0 (i : Int) false) ?_
    simp only [Bs_addDigits.j1, Bool.false_eq_true, if_false, List.append_nil]
    exact Ev.some
   ·rw [List.drop_eq_nil_of_le (by omega), List.drop_eq_nil_of_le (by omega)]; rfl
  have hgo : (i : Int) < (a.length : Int) ∨ (i : Int) < (b.length : Int) ∨ c > 0 → ∃ m, Ev (fun k => Bs_addDigits.j1 k a b acc c (i : Int) true) (acc ++ m) ∧ DG m ∧ dv m = dv (a.drop i) + dv (b.drop i) + c.toNat ∧ m.length + i ≤ M + 1 := fun hg => by
   have hiM : i ≤ M := by
    rcases hg with h1 | h1 | h1
    ·omega
    ·omega
    ·rcases Nat.lt_or_ge M i with h2 | h2
     ·have := h0 h2; omega
     ·exact h2
   have hs : 0 ≤ rd a (i : Int) + rd b (i : Int) + c ∧ rd a (i : Int) + rd b (i : Int) + c ≤ 1999999999 := by omega
   have hl : M < i + 1 → rd a (i : Int) = 0 ∧ rd b (i : Int) = 0 := fun h1 => ⟨rd_out (by omega), rd_out (by omega)⟩
   obtain ⟨m, hm, dm, vm, lm⟩ := ih (i + 1) (acc ++ [(rd a (i : Int) + rd b (i : Int) + c) % 1000000000]) ((rd a (i : Int) + rd b (i : Int) + c) / 1000000000) (by omega) (by omega) (by simp; omega) (by omega) (fun h1 => by have := hl h1; omega)
   refine ⟨(rd a (i : Int) + rd b (i : Int) + c) % 1000000000 :: m, ?_, DG_cons.2 ⟨by omega, dm⟩, ?_, by simp; omega⟩
   ·refine Ev.succ (f := fun k => Bs_addDigits.j1 k a b acc c (i : Int) true) ?_
    simp only [Bs_addDigits.j1, if_true, digit_eq, Option.bind_some, show acc.length < 17592186044416 by omega, up (show i < 4611686018427387904 by omega)]
    rw [w64 (n := rd a (i : Int) + rd b (i : Int)) (by omega), w64 (n := rd a (i : Int) + rd b (i : Int) + c) (by omega), Int.tdiv_eq_ediv_of_nonneg hs.1, Int.tmod_eq_emod_of_nonneg hs.1, w64 (by omega)]
    rw [List.append_assoc, List.singleton_append] at hm
    exact hm
   ·rw [dv, vm, dv_drop a i, dv_drop b i]
    omega
  by_cases h1 : (i : Int) < (a.length : Int)
  ·obtain ⟨m, hm, r⟩ := hgo (.inl h1)
   refine ⟨m, ?_, r⟩
   refine Ev.succ (f := fun k => Bs_addDigits.l0 k a b acc c (i : Int)) ?_
   simp only [Bs_addDigits.l0, h1, if_true]
   exact hm
  ·by_cases h2 : (i : Int) < (b.length : Int)
   ·obtain ⟨m, hm, r⟩ := hgo (.inr (.inl h2))
    refine ⟨m, ?_, r⟩
    refine Ev.succ (f := fun k => Bs_addDigits.l0 k a b acc c (i : Int)) ?_
    simp only [Bs_addDigits.l0, h1, h2, if_true, if_false]
    exact hm
   ·by_cases h3 : c > 0
    ·obtain ⟨m, hm, r⟩ := hgo (.inr (.inr h3))
     refine ⟨m, ?_, r⟩
     refine Ev.succ (f := fun k => Bs_addDigits.l0 k a b acc c (i : Int)) ?_
     simp only [Bs_addDigits.l0, h1, h2, if_false, show decide (c > 0) = true from decide_eq_true h3]
     exact hm
    ·exact hstop h1 h2 h3
theorem addDigits_ev {a b : List Int} (ha : DG a) (hb : DG b) (M : Nat) (hM : M < 17592186044410) (la : a.length ≤ M) (lb : b.length ≤ M) : ∃ m, Ev (fun k => Bs_addDigits.f k a b) m ∧ DG m ∧ dv m = dv a + dv b ∧ m.length ≤ M + 1 := by
 obtain ⟨m, hm, dm, vm, lm⟩ := addDigits_l0 ha hb M hM la lb (M + 1) 0 [] 0 (by omega) (by omega) rfl (by decide) (by omega)
 exact ⟨m, by simpa [Bs_addDigits.f] using hm, dm, by simpa using vm, by omega⟩
theorem subDigits_l0 {a b : List Int} (ha : DG a) (hb : DG b) (la : a.length < 17592186044410) : ∀ (d i : Nat) (acc : List Int) (c : Int), i + d = a.length → acc.length = i → DG acc → (0 ≤ c ∧ c ≤ 1) → dv (b.drop i) + c.toNat ≤ dv (a.drop i) →
  ∃ m, Ev (fun k => Bs_subDigits.l0 k a b acc c (i : Int)) (dn (dv (acc ++ m))) ∧ dv m + dv (b.drop i) + c.toNat = dv (a.drop i) := by
 intro d
 induction d with
 | zero =>
  intro i acc c h hacc hD hc hle
  rw [List.drop_eq_nil_of_le (show a.length ≤ i by omega)] at hle ⊢
  rw [dv] at hle ⊢
  refine ⟨[], ?_, by rw [dv]; omega⟩
  refine Ev.succ (f := fun k => Bs_subDigits.l0 k a b acc c (i : Int)) ?_
  simp only [Bs_subDigits.l0, show ¬ (i : Int) < (a.length : Int) by omega, if_false, List.append_nil]
  exact Ev.bind (trimmed_ev hD (by omega)) Ev.some
 | succ d ih =>
  intro i acc c h hacc hD hc hle
  have hx := rd_D ha i
  have hy := rd_D hb i
  rw [dv_drop a i, dv_drop b i] at hle ⊢
  have hgo : ∀ x c' : Int, (0 ≤ x ∧ x < 1000000000) → (0 ≤ c' ∧ c' ≤ 1) → x - 1000000000 * c' = rd a (i : Int) - rd b (i : Int) - c →
    ∃ m, Ev (fun k => Bs_subDigits.l0 k a b (acc ++ [x]) c' ((i + 1 : Nat) : Int)) (dn (dv (acc ++ m))) ∧ dv m + ((rd b (i : Int)).toNat + 1000000000 * dv (b.drop (i + 1))) + c.toNat = (rd a (i : Int)).toNat + 1000000000 * dv (a.drop (i + 1)) := fun x c' hx' hc' he => by
   obtain ⟨m, hm, vm⟩ := ih (i + 1) (acc ++ [x]) c' (by omega) (by simp; omega) (DG_append hD (fun y hy => by simp at hy; omega)) hc' (by omega)
   refine ⟨x :: m, ?_, by rw [dv]; omega⟩
   rw [List.append_assoc, List.singleton_append] at hm
   exact hm
  by_cases hs : rd a (i : Int) - rd b (i : Int) - c < 0
  ·obtain ⟨m, hm, vm⟩ := hgo (rd a (i : Int) - rd b (i : Int) - c + 1000000000) 1 (by omega) (by omega) (by omega)
   refine ⟨m, ?_, vm⟩
   refine Ev.succ (f := fun k => Bs_subDigits.l0 k a b acc c (i : Int)) ?_
   simp only [Bs_subDigits.l0, show (i : Int) < (a.length : Int) by omega, show (0 : Int) ≤ (i : Int) by omega, if_true, digit_eq, Option.bind_some, show acc.length < 17592186044416 by omega, up (show i < 4611686018427387904 by omega)]
   rw [w64 (n := rd a (i : Int) - rd b (i : Int)) (by omega), w64 (n := rd a (i : Int) - rd b (i : Int) - c) (by omega), w64 (n := rd a (i : Int) - rd b (i : Int) - c + 1000000000) (by omega)]
   simp only [hs, if_true]
   exact hm
  ·obtain ⟨m, hm, vm⟩ := hgo (rd a (i : Int) - rd b (i : Int) - c) 0 (by omega) (by omega) (by omega)
   refine ⟨m, ?_, vm⟩
   refine Ev.succ (f := fun k => Bs_subDigits.l0 k a b acc c (i : Int)) ?_
   simp only [Bs_subDigits.l0, show (i : Int) < (a.length : Int) by omega, show (0 : Int) ≤ (i : Int) by omega, if_true, digit_eq, Option.bind_some, show acc.length < 17592186044416 by omega, up (show i < 4611686018427387904 by omega)]
   rw [w64 (n := rd a (i : Int) - rd b (i : Int)) (by omega), w64 (n := rd a (i : Int) - rd b (i : Int) - c) (by omega)]
   simp only [hs, if_false]
   exact hm
theorem subDigits_ev {a b : List Int} (ha : DG a) (hb : DG b) (la : a.length < 17592186044410) (h : dv b ≤ dv a) : Ev (fun k => Bs_subDigits.f k a b) (dn (dv a - dv b)) := by
 obtain ⟨m, hm, vm⟩ := subDigits_l0 ha hb la a.length 0 [] 0 (by omega) rfl DG_nil (by decide) (by simpa using h)
 simp only [List.drop_zero, List.nil_append] at hm vm
 rw [show dv m = dv a - dv b by simp at vm; omega] at hm
 exact hm

def cmpN (m n : Nat) : Int := if m < n then -1 else if n < m then 1 else 0
theorem pow_lt {p q x y P : Nat} (hp : p < P) (h : x < y) : p + P * x < q + P * y := by
 have := Nat.mul_le_mul_left P (show x + 1 ≤ y by omega)
 rw [Nat.mul_add, Nat.mul_one] at this
 omega
theorem cmpDigits_l0 {a b : List Int} (ha : DG a) (hb : DG b) (hab : a.length = b.length) (hl : a.length < 4611686018427387904) : ∀ n : Nat, n ≤ a.length →
  Ev (fun k => Bs_cmpDigits.l0 k a b ((n : Int) - 1)) (cmpN (dv (a.take n)) (dv (b.take n)))
 | 0, _ => by
  refine Ev.succ (f := fun k => Bs_cmpDigits.l0 k a b (((0 : Nat) : Int) - 1)) ?_
  simp only [Bs_cmpDigits.l0, show ¬ (((0 : Nat) : Int) - 1) ≥ 0 by decide, if_false, List.take_zero]
  exact Ev.some
 | n + 1, h => by
  refine Ev.succ (f := fun k => Bs_cmpDigits.l0 k a b (((n + 1 : Nat) : Int) - 1)) ?_
  have hx := rd_D ha n
  have hy := rd_D hb n
  have pa := dv_lt (DG_take ha n)
  have pb := dv_lt (DG_take hb n)
  rw [List.length_take, Nat.min_eq_left (by omega)] at pa pb
  simp only [show ((n + 1 : Nat) : Int) - 1 = (n : Int) by omega]
  simp only [Bs_cmpDigits.l0, show (n : Int) ≥ 0 by omega, show (0 : Int) ≤ (n : Int) by omega, show (n : Int) < (a.length : Int) by omega, show (n : Int) < (b.length : Int) by omega, if_true]
  rw [dv_take (by omega), dv_take (by omega)]
  by_cases h1 : rd a (n : Int) < rd b (n : Int)
  ·simp only [h1, if_true]
   have := pow_lt (q := dv (b.take n)) pa (show (rd a (n : Int)).toNat < (rd b (n : Int)).toNat by omega)
   rw [cmpN, if_pos this]
   exact Ev.some
  ·by_cases h2 : rd a (n : Int) > rd b (n : Int)
   ·simp only [h1, h2, if_true, if_false]
    have := pow_lt (q := dv (a.take n)) pb (show (rd b (n : Int)).toNat < (rd a (n : Int)).toNat by omega)
    rw [cmpN, if_neg (by omega), if_pos this]
    exact Ev.some
   ·simp only [h1, h2, if_false]
    have ih := cmpDigits_l0 ha hb hab hl n (by omega)
    rw [w64 (by omega)]
    have e : rd a (n : Int) = rd b (n : Int) := by omega
    rw [e]
    have : cmpN (dv (a.take n) + 1000000000 ^ n * (rd b (n : Int)).toNat) (dv (b.take n) + 1000000000 ^ n * (rd b (n : Int)).toNat) = cmpN (dv (a.take n)) (dv (b.take n)) := by
     unfold cmpN
     simp only [Nat.add_lt_add_iff_right]
    rw [this]
    exact ih
theorem cmpDigits_ev {m n : Nat} (hm : (dn m).length < 4611686018427387904) : Ev (fun k => Bs_cmpDigits.f k (dn m) (dn n)) (cmpN m n) := by
 have bm := dv_lt (dn_DG m)
 have bn := dv_lt (dn_DG n)
 rw [dv_dn] at bm bn
 have short : ∀ {x y : Nat}, (dn x).length < (dn y).length → x < 1000000000 ^ (dn x).length → x < y := fun {x y} h hx => by
  have hy : y ≠ 0 := fun e => by subst e; rw [dn_zero] at h; simp at h
  have b := dn_big hy
  have p := Nat.pow_le_pow_right (show 1000000000 > 0 by decide) (show (dn x).length + 1 ≤ (dn y).length from h)
  rw [Nat.pow_succ] at p
  omega
 unfold Bs_cmpDigits.f
 by_cases h : ((dn m).length : Int) = ((dn n).length : Int)
 ·simp only [h, if_true]
  have := cmpDigits_l0 (dn_DG m) (dn_DG n) (by omega) hm (dn m).length (Nat.le_refl _)
  rw [List.take_length, show (dn m).length = (dn n).length by omega, List.take_length, dv_dn, dv_dn] at this
  rw [w64 (by omega)]
  exact this
 ·by_cases h1 : ((dn m).length : Int) < ((dn n).length : Int)
  ·simp only [h, h1, if_true, if_false]
   have := short (x := m) (y := n) (by omega) bm
   rw [cmpN, if_pos this]; exact Ev.some
  ·simp only [h, h1, if_false]
   have := short (x := n) (y := m) (by omega) bn
   rw [cmpN, if_neg (by omega), if_pos this]; exact Ev.some
theorem WideAdd_ev {a b : Int} (ha : (dn a.natAbs).length < 1000000000) (hb : (dn b.natAbs).length < 1000000000) : Ev (fun k => Bs_WideAdd.f k (wd a).1 (wd a).2 (wd b).1 (wd b).2) (wd (a + b)) := by
 unfold Bs_WideAdd.f
 by_cases h1 : a = 0
 ·subst h1
  rw [Int.zero_add]
  simp only [show (wd 0).1 = 0 from rfl, if_true]; exact Ev.some
 ·have s1 : ¬ (wd a).1 = 0 := fun e => h1 (sg_zero.1 e)
  by_cases h2 : b = 0
  ·subst h2
   rw [Int.add_zero]
   simp only [s1, show (wd 0).1 = 0 from rfl, if_true, if_false]; exact Ev.some
  ·have s2 : ¬ (wd b).1 = 0 := fun e => h2 (sg_zero.1 e)
   simp only [s1, s2, if_false]
   by_cases h3 : (wd a).1 = (wd b).1
   ·simp only [h3, if_true]
    obtain ⟨m, hm, dm, vm, lm⟩ := addDigits_ev (dn_DG a.natAbs) (dn_DG b.natAbs) 1000000000 (by omega) (by omega) (by omega)
    refine Ev.bind hm ?_
    have hw := wideOf_ev (wd b).1 dm (by omega)
    rw [vm, dv_dn, dv_dn, wd_of _ _ (by rcases sg_in b with e | e | e; exact .inr e; exact absurd e s2; exact .inl e)] at hw
    refine Ev.bind hw ?_
    have : (wd b).1 * ((a.natAbs + b.natAbs : Nat) : Int) = a + b := by
     have h4 : sg a = sg b := h3
     show sg b * _ = _
     rcases Int.lt_or_lt_of_ne h1 with pa | pa <;> rcases Int.lt_or_lt_of_ne h2 with pb | pb
     ·rw [sg_neg pb]; omega
     ·rw [sg_neg pa, sg_pos pb] at h4; omega
     ·rw [sg_pos pa, sg_neg pb] at h4; omega
     ·rw [sg_pos pb]; omega
    rw [this]
    exact Ev.some
   ·simp only [h3, if_false]
    refine Ev.bind (cmpDigits_ev (by omega)) ?_
    have hopp : (wd a).1 = 1 ∧ (wd b).1 = -1 ∧ 0 < a ∧ b < 0 ∨ (wd a).1 = -1 ∧ (wd b).1 = 1 ∧ a < 0 ∧ 0 < b := by
     have h4 : ¬ sg a = sg b := h3
     show sg a = 1 ∧ sg b = -1 ∧ _ ∨ sg a = -1 ∧ sg b = 1 ∧ _
     rcases Int.lt_or_lt_of_ne h1 with pa | pa <;> rcases Int.lt_or_lt_of_ne h2 with pb | pb
     ·exact absurd ((sg_neg pa).trans (sg_neg pb).symm) h4
     ·exact .inr ⟨sg_neg pa, sg_pos pb, pa, pb⟩
     ·exact .inl ⟨sg_pos pa, sg_neg pb, pa, pb⟩
     ·exact absurd ((sg_pos pa).trans (sg_pos pb).symm) h4
    rcases Nat.lt_trichotomy a.natAbs b.natAbs with hlt | heq | hgt
    ·have c : cmpN a.natAbs b.natAbs = -1 := if_pos hlt
     simp only [c, show ¬ (-1 : Int) = 0 by decide, show ¬ (-1 : Int) > 0 by decide, if_false]
     have hs := subDigits_ev (dn_DG b.natAbs) (dn_DG a.natAbs) (by omega) (by rw [dv_dn, dv_dn]; omega)
     rw [dv_dn, dv_dn] at hs
     refine Ev.bind hs ?_
     have hw := wideOf_ev (wd b).1 (dn_DG (b.natAbs - a.natAbs)) (by have := dn_mono (show b.natAbs - a.natAbs ≤ b.natAbs by omega); omega)
     rw [dv_dn, wd_of _ _ (by rcases hopp with e | e <;> simp [e.2.1]), show (wd b).1 * ((b.natAbs - a.natAbs : Nat) : Int) = a + b by rcases hopp with e | e <;> rw [e.2.1] <;> omega] at hw
     exact Ev.bind hw Ev.some
    ·have c : cmpN a.natAbs b.natAbs = 0 := by unfold cmpN; rw [if_neg (by omega), if_neg (by omega)]
     simp only [c, if_true]
     rw [show a + b = 0 by omega, show wd 0 = (0, []) by unfold wd sg; simp [dn_zero]]
     exact Ev.some
    ·have c : cmpN a.natAbs b.natAbs = 1 := by unfold cmpN; rw [if_neg (by omega), if_pos hgt]
     simp only [c, show ¬ (1 : Int) = 0 by decide, show (1 : Int) > 0 by decide, if_true, if_false]
     have hs := subDigits_ev (dn_DG a.natAbs) (dn_DG b.natAbs) (by omega) (by rw [dv_dn, dv_dn]; omega)
     rw [dv_dn, dv_dn] at hs
     refine Ev.bind hs ?_
     have hw := wideOf_ev (wd a).1 (dn_DG (a.natAbs - b.natAbs)) (by have := dn_mono (show a.natAbs - b.natAbs ≤ a.natAbs by omega); omega)
     rw [dv_dn, wd_of _ _ (by rcases hopp with e | e <;> simp [e.1]), show (wd a).1 * ((a.natAbs - b.natAbs : Nat) : Int) = a + b by rcases hopp with e | e <;> rw [e.1] <;> omega] at hw
     exact Ev.bind hw Ev.some
theorem WideSub_ev {a b : Int} (ha : (dn a.natAbs).length < 1000000000) (hb : (dn b.natAbs).length < 1000000000) : Ev (fun k => Bs_WideSub.f k (wd a).1 (wd a).2 (wd b).1 (wd b).2) (wd (a - b)) := by
 unfold Bs_WideSub.f
 rw [WideNeg_eq]
 simp only [Option.bind_some]
 exact Ev.bind (WideAdd_ev ha (by rw [Int.natAbs_neg]; exact hb)) Ev.some
theorem DG_set {l : List Int} (h : DG l) (p : Nat) {x : Int} (hx : 0 ≤ x ∧ x < 1000000000) : DG (l.set p x) := fun y hy => by
 rcases List.mem_or_eq_of_mem_set hy with h' | rfl
 ·exact h y h'
 ·exact hx
theorem rd_set {l : List Int} {p : Nat} (hp : p < l.length) (x : Int) (q : Nat) : rd (l.set p x) (q : Int) = if p = q then x else rd l (q : Int) := by
 rw [rd_nat, rd_nat, List.getD_eq_getElem?_getD, List.getD_eq_getElem?_getD, List.getElem?_set]
 by_cases h : p = q
 ·subst h; simp [hp]
 ·simp [h]
theorem dv_set : ∀ {l : List Int} {p : Nat}, p < l.length → ∀ x : Int, dv (l.set p x) + 1000000000 ^ p * (rd l (p : Int)).toNat = dv l + 1000000000 ^ p * x.toNat
 | [], p, h, _ => by simp at h
 | y :: r, 0, _, x => by
  rw [rd_nat]
  simp only [List.set_cons_zero, dv, List.getD_cons_zero, Nat.pow_zero, Nat.one_mul]
  omega
 | y :: r, p + 1, h, x => by
  have ih := dv_set (l := r) (p := p) (by simpa using h) x
  rw [rd_nat] at ih ⊢
  simp only [List.set_cons_succ, dv, List.getD_cons_succ, Nat.pow_succ] at ih ⊢
  rw [Nat.mul_comm (1000000000 ^ p) 1000000000, Nat.mul_assoc, Nat.mul_assoc]
  omega
theorem mul9 {x y : Int} (hx : 0 ≤ x ∧ x < 1000000000) (hy : 0 ≤ y ∧ y < 1000000000) : 0 ≤ x * y ∧ x * y ≤ 999999998000000001 :=
 ⟨Int.mul_nonneg hx.1 hy.1, by have := Int.mul_le_mul (show x ≤ 999999999 by omega) (show y ≤ 999999999 by omega) hy.1 (by omega); omega⟩
theorem ring1 {P Q o t c c1 u E E' x x1 y a b : Nat} (h1 : x1 + P * Q * o = x + P * Q * t) (h2 : t + 1000000000 * c1 = o + u + c) (hu : u = a * b) (h3 : E = b + 1000000000 * E') (h4 : y = x1 + P * (a * (Q * 1000000000 * E')) + P * (Q * 1000000000) * c1) : y = x + P * (a * (Q * E)) + P * Q * c := by
 have h5 := congrArg (fun z => P * Q * z) h2
 subst h3 hu h4
 simp only [Nat.mul_add, Nat.mul_assoc, Nat.mul_comm, Nat.mul_left_comm] at h1 h5 ⊢
 omega
theorem in3 {x p c : Int} (ho : 0 ≤ x ∧ x < 1000000000) (hm : 0 ≤ p ∧ p ≤ 999999998000000001) (hc : 0 ≤ c ∧ c < 1000000000) : (-9223372036854775808 ≤ p ∧ p ≤ 9223372036854775807) ∧ (-9223372036854775808 ≤ x + p ∧ x + p ≤ 9223372036854775807) ∧ (-9223372036854775808 ≤ x + p + c ∧ x + p + c ≤ 9223372036854775807) := by omega
theorem mul_l1 {a b : List Int} (ha : DG a) (hb : DG b) (sa sb : Int) (hl : a.length + b.length < 1000000000000) (i : Nat) (hi : i < a.length) (r : Int × List Int) : ∀ (d k : Nat) (out : List Int) (c : Int), k + d = b.length → DG out → out.length = a.length + b.length + 1 → (0 ≤ c ∧ c < 1000000000) → (∀ p : Nat, i + b.length ≤ p → rd out (p : Int) = 0) →
  (∀ out', DG out' → out'.length = a.length + b.length + 1 → (∀ p : Nat, i + 1 + b.length ≤ p → rd out' (p : Int) = 0) → dv out' = dv out + 1000000000 ^ i * ((rd a (i : Int)).toNat * (1000000000 ^ k * dv (b.drop k))) + 1000000000 ^ i * 1000000000 ^ k * c.toNat → Ev (fun z => Bs_WideMul.l0 z out' ((i + 1 : Nat) : Int) sa a sb b) r) →
  Ev (fun z => Bs_WideMul.l1 z out (i : Int) c (k : Int) sa a sb b) r := by
 intro d
 induction d with
 | zero =>
  intro k out c hk hD hlen hc hz hnext
  obtain rfl : k = b.length := by omega
  refine Ev.succ (f := fun z => Bs_WideMul.l1 z out (i : Int) c (b.length : Int) sa a sb b) ?_
  have w : wrap64 ((i : Int) + (b.length : Int)) = ((i + b.length : Nat) : Int) := by unfold wrap64; omega
  simp only [Bs_WideMul.l1, Int.lt_irrefl, if_false, w, show (0 : Int) ≤ ((i + b.length : Nat) : Int) by omega, show ((i + b.length : Nat) : Int) < (out.length : Int) by omega, if_true, up (show i < 4611686018427387904 by omega), Int.toNat_natCast]
  rw [hz (i + b.length) (Nat.le_refl _), w64 (by omega), Int.zero_add]
  have hset := dv_set (l := out) (p := i + b.length) (by omega) c
  rw [hz (i + b.length) (Nat.le_refl _)] at hset
  refine hnext _ (DG_set hD _ hc) (by rw [List.length_set]; exact hlen) (fun p hp => ?_) ?_
  ·rw [rd_set (by omega), if_neg (by omega)]
   exact hz p (by omega)
  ·rw [List.drop_length, dv, Nat.mul_zero, Nat.mul_zero, Nat.mul_zero, Nat.add_zero, ← Nat.pow_add]
   simpa using hset
 | succ d ih =>
  intro k out c hk hD hlen hc hz hnext
  refine Ev.succ (f := fun z => Bs_WideMul.l1 z out (i : Int) c (k : Int) sa a sb b) ?_
  have w : wrap64 ((i : Int) + (k : Int)) = ((i + k : Nat) : Int) := by unfold wrap64; omega
  simp only [Bs_WideMul.l1, show (k : Int) < (b.length : Int) by omega, w, show (0 : Int) ≤ ((i + k : Nat) : Int) by omega, show ((i + k : Nat) : Int) < (out.length : Int) by omega, show (0 : Int) ≤ (i : Int) by omega, show (i : Int) < (a.length : Int) by omega, show (0 : Int) ≤ (k : Int) by omega, if_true, up (show k < 4611686018427387904 by omega), Int.toNat_natCast]
  have ho := rd_D hD (i + k)
  have hx := rd_D ha i
  have hy := rd_D hb k
  have hm := mul9 hx hy
  generalize hp : rd a (i : Int) * rd b (k : Int) = p at hm ⊢
  have hs : 0 ≤ rd out ((i + k : Nat) : Int) + p + c := by omega
  have hin := in3 ho hm hc
  rw [w64 (n := p) hin.1, w64 (n := rd out ((i + k : Nat) : Int) + p) hin.2.1, w64 (n := rd out ((i + k : Nat) : Int) + p + c) hin.2.2, Int.tmod_eq_emod_of_nonneg hs, Int.tdiv_eq_ediv_of_nonneg hs, w64 (by omega)]
  generalize hS : rd out ((i + k : Nat) : Int) + p + c = s at hs ⊢
  have hset := dv_set (l := out) (p := i + k) (by omega) (s % 1000000000)
  refine ih (k + 1) _ _ (by omega) (DG_set hD _ (by omega)) (by rw [List.length_set]; exact hlen) (by omega) (fun q hq => ?_) (fun out' h1 h2 h3 h4 => hnext out' h1 h2 h3 ?_)
  ·rw [rd_set (by omega), if_neg (by omega)]
   exact hz q hq
  ·rw [Nat.pow_succ] at h4
   rw [Nat.pow_add] at hset
   refine ring1 hset (c1 := (s / 1000000000).toNat) (u := p.toNat) (by omega) ?_ (dv_drop b k) h4
   rw [← hp, Int.toNat_mul hx.1 hy.1]
theorem mul_l0 {a b : List Int} (ha : DG a) (hb : DG b) (sa sb : Int) (hl : a.length + b.length < 1000000000000) : ∀ (d i : Nat) (out : List Int), i + d = a.length → DG out → out.length = a.length + b.length + 1 → (∀ p : Nat, i + b.length ≤ p → rd out (p : Int) = 0) → dv out + 1000000000 ^ i * (dv (a.drop i) * dv b) = dv a * dv b →
  Ev (fun z => Bs_WideMul.l0 z out (i : Int) sa a sb b) (if dv a * dv b = 0 then 0 else wrap64 (sa * sb), dn (dv a * dv b)) := by
 intro d
 induction d with
 | zero =>
  intro i out hi hD hlen hz hv
  refine Ev.succ (f := fun z => Bs_WideMul.l0 z out (i : Int) sa a sb b) ?_
  simp only [Bs_WideMul.l0, show ¬ (i : Int) < (a.length : Int) by omega, if_false]
  rw [List.drop_eq_nil_of_le (show a.length ≤ i by omega), dv, Nat.zero_mul, Nat.mul_zero, Nat.add_zero] at hv
  have := wideOf_ev (wrap64 (sa * sb)) hD (by omega)
  rw [hv] at this
  exact Ev.bind this Ev.some
 | succ d ih =>
  intro i out hi hD hlen hz hv
  refine Ev.succ (f := fun z => Bs_WideMul.l0 z out (i : Int) sa a sb b) ?_
  simp only [Bs_WideMul.l0, show (i : Int) < (a.length : Int) by omega, if_true]
  refine mul_l1 ha hb sa sb hl i (by omega) _ b.length 0 out 0 (by omega) hD hlen (by decide) hz (fun out' h1 h2 h3 h4 => ih (i + 1) out' (by omega) h1 h2 h3 ?_)
  rw [← hv, h4, dv_drop a i, List.drop_zero, Nat.pow_succ]
  simp only [Nat.mul_add, Nat.add_mul, Nat.mul_assoc, Nat.mul_comm, Nat.mul_left_comm, Nat.pow_zero, Nat.one_mul, Nat.mul_one, Int.toNat_zero, Nat.mul_zero, Nat.add_zero, Nat.zero_mul]
  omega
theorem sg_mul (a b : Int) : sg (a * b) = if a.natAbs * b.natAbs = 0 then 0 else sg a * sg b := by
 by_cases ha : a = 0
 ·subst ha; simp [sg]
 ·by_cases hb : b = 0
  ·subst hb; simp [sg]
  ·rw [if_neg (Nat.mul_ne_zero (by omega) (by omega))]
   rcases Int.lt_or_lt_of_ne ha with pa | pa <;> rcases Int.lt_or_lt_of_ne hb with pb | pb
   ·rw [sg_neg pa, sg_neg pb, sg_pos (Int.mul_pos_of_neg_of_neg pa pb)]; rfl
   ·rw [sg_neg pa, sg_pos pb, sg_neg (Int.mul_neg_of_neg_of_pos pa pb)]; rfl
   ·rw [sg_pos pa, sg_neg pb, sg_neg (Int.mul_neg_of_pos_of_neg pa pb)]; rfl
   ·rw [sg_pos pa, sg_pos pb, sg_pos (Int.mul_pos pa pb)]; rfl
theorem WideMul_ev {a b : Int} (hl : (dn a.natAbs).length + (dn b.natAbs).length < 1000000000000) : Ev (fun k => Bs_WideMul.f k (wd a).1 (wd a).2 (wd b).1 (wd b).2) (wd (a * b)) := by
  unfold Bs_WideMul.f
  have w : wrap64 (wrap64 (((dn a.natAbs).length : Int) + ((dn b.natAbs).length : Int)) + 1) = (((dn a.natAbs).length + (dn b.natAbs).length + 1 : Nat) : Int) := by
    rw [w64 (n := ((dn a.natAbs).length : Int) + ((dn b.natAbs).length : Int)) (by omega), w64 (by omega)]; omega
  have w' : wrap64 (wrap64 (((wd a).2.length : Int) + ((wd b).2.length : Int)) + 1) = (((dn a.natAbs).length + (dn b.natAbs).length + 1 : Nat) : Int) := w
  simp only [w', show (0 : Int) ≤ (((dn a.natAbs).length + (dn b.natAbs).length + 1 : Nat) : Int) by omega, Int.toNat_natCast, show (dn a.natAbs).length + (dn b.natAbs).length + 1 ≤ 35184372088832 by omega, if_true]
  have hz : ∀ (m : Nat) (p : Nat), rd (List.replicate m 0) (p : Int) = 0 := fun m p => by
    rw [rd_nat, List.getD_eq_getElem?_getD, List.getElem?_replicate]
    split <;> rfl
  have hd : DG (List.replicate ((dn a.natAbs).length + (dn b.natAbs).length + 1) 0) := fun x hx => by rw [(List.mem_replicate.1 hx).2]; decide
  have hv : ∀ m : Nat, dv (List.replicate m 0) = 0 := fun m => by
    induction m with
    | zero => rfl
    | succ m ih => rw [List.replicate_succ, dv, ih]; rfl
  have := mul_l0 (dn_DG a.natAbs) (dn_DG b.natAbs) (wd a).1 (wd b).1 hl (dn a.natAbs).length 0 _ (by omega) hd (by simp) (fun p _ => hz _ p) (by rw [hv]; simp)
  rw [dv_dn, dv_dn] at this
  have e : wd (a * b) = (if a.natAbs * b.natAbs = 0 then 0 else wrap64 ((wd a).1 * (wd b).1), dn (a.natAbs * b.natAbs)) := by
    unfold wd
    dsimp only
    rw [Int.natAbs_mul, sg_mul, w64 (n := sg a * sg b) (by rcases sg_in a with e | e | e <;> rcases sg_in b with e' | e' | e' <;> rw [e, e'] <;> decide)]
  rw [e]
  exact this

theorem le_div {b m L : Nat} (hb : 0 < b) : cmpN (b * m) L ≤ 0 ↔ m ≤ L / b := by
 rw [Nat.le_div_iff_mul_le hb, Nat.mul_comm m b]
 unfold cmpN
 split
 ·simp; omega
 ·split
  ·simp; omega
  ·simp; omega
theorem floor_l1 {b L : Nat} (hb : 0 < b) (hlb : (dn b).length < 1000000) (q : List Int) (i : Int) (sa : Int) (da : List Int) (sb : Int) (r : Int × List Int)
    (hend : Ev (fun z => Bs_WideFloor.l1 z q (dn L) i ((L / b : Nat) : Int) ((L / b : Nat) : Int) sa da sb (dn b)) r) : ∀ (d lo hi : Nat), hi - lo ≤ d → lo ≤ L / b → L / b ≤ hi → hi ≤ 999999999 →
    Ev (fun z => Bs_WideFloor.l1 z q (dn L) i (lo : Int) (hi : Int) sa da sb (dn b)) r := by
  intro d
  induction d with
  | zero =>
    intro lo hi h h1 h2 h3
    obtain rfl : lo = L / b := by omega
    obtain rfl : hi = L / b := by omega
    exact hend
  | succ d ih =>
    intro lo hi h h1 h2 h3
    by_cases hlt : lo < hi
    · obtain ⟨m, hm⟩ : ∃ m : Nat, m = (lo + hi + 1) / 2 := ⟨_, rfl⟩
      refine Ev.succ (f := fun z => Bs_WideFloor.l1 z q (dn L) i (lo : Int) (hi : Int) sa da sb (dn b)) ?_
      have w : wrap64 (Int.tdiv (wrap64 (wrap64 ((lo : Int) + (hi : Int)) + 1)) 2) = (m : Int) := by
        rw [w64 (n := (lo : Int) + (hi : Int)) (by omega), w64 (n := (lo : Int) + (hi : Int) + 1) (by omega), Int.tdiv_eq_ediv_of_nonneg (by omega), w64 (by omega)]
        omega
      simp only [Bs_WideFloor.l1, show (lo : Int) < (hi : Int) by omega, if_true, w, w64 (n := (m : Int) - 1) (by omega)]
      have h1b := wideOf_ev 1 (dn_DG b) (by omega)
      rw [dv_dn, if_neg (show ¬ b = 0 by omega)] at h1b
      refine Ev.bind h1b ?_
      refine Ev.bind (WideOf_ev (x := (m : Int)) (by omega)) ?_
      have hlm : (dn ((m : Int)).natAbs).length ≤ 2 := dn_len (by have : (1000000000 : Nat) ^ 2 = 1000000000000000000 := by decide
                                                                  omega)
      have hmul := WideMul_ev (a := (b : Int)) (b := (m : Int)) (by simp only [Int.natAbs_natCast] at hlm ⊢; omega)
      rw [show wd (b : Int) = (1, dn b) by unfold wd; rw [sg_pos (by omega), Int.natAbs_natCast]] at hmul
      refine Ev.bind hmul ?_
      have e2 : (wd ((b : Int) * (m : Int))).2 = dn (b * m) := by unfold wd; dsimp only; rw [Int.natAbs_mul, Int.natAbs_natCast, Int.natAbs_natCast]
      rw [e2]
      have hlen : (dn (b * m)).length < 4611686018427387904 := by
        have h4 : (dn (b * m)).length ≤ (dn b).length + 2 := dn_len (by
          rw [Nat.pow_add]
          have p1 := dv_lt (dn_DG b)
          rw [dv_dn] at p1
          exact Nat.mul_lt_mul'' p1 (by have : (1000000000 : Nat) ^ 2 = 1000000000000000000 := by decide
                                        omega))
        omega
      refine Ev.bind (cmpDigits_ev hlen) ?_
      by_cases hc : cmpN (b * m) L ≤ 0
      · simp only [hc, if_true]
        have := (le_div hb).1 hc
        exact ih m hi (by omega) this h2 h3
      · simp only [hc, if_false]
        have : ¬ m ≤ L / b := fun e => hc ((le_div hb).2 e)
        rw [show (m : Int) - 1 = ((m - 1 : Nat) : Int) by omega]
        exact ih lo (m - 1) (by omega) h1 (by omega) (by omega)
    · obtain rfl : lo = L / b := by omega
      obtain rfl : hi = L / b := by omega
      exact hend
theorem ring2 {A b B Bn dq L L1 lo dt an : Nat} (h : A = dq * b * (Bn * B) + L * (Bn * B) + (dt + Bn * an)) (h1 : L1 = an + B * L) (h2 : b * lo ≤ L1) : A = (lo + B * dq) * b * Bn + (L1 - b * lo) * Bn + dt := by
 obtain ⟨e, rfl⟩ : ∃ e, L1 = b * lo + e := ⟨L1 - b * lo, by omega⟩
 rw [Nat.add_sub_cancel_left]
 have h5 := congrArg (fun z => Bn * z) h1
 simp only [Nat.mul_add, Nat.add_mul, Nat.mul_assoc, Nat.mul_comm, Nat.mul_left_comm] at h h5 ⊢
 omega
theorem floor_l0 {a : List Int} (ha : DG a) {b : Nat} (hb : 0 < b) (hla : a.length < 1000000) (hlb : (dn b).length < 1000000) (sa sb : Int) (r : Int × List Int)
    (hend : ∀ (q : List Int), DG q → q.length = a.length → dv q = dv a / b → Ev (fun z => Bs_WideFloor.l0 z q (dn (dv a % b)) (-1) sa a sb (dn b)) r) :
    ∀ (n : Nat) (q : List Int) (L : Nat), n ≤ a.length → q.length = a.length → DG q → L < b → dv a = dv (q.drop n) * b * 1000000000 ^ n + L * 1000000000 ^ n + dv (a.take n) →
    Ev (fun z => Bs_WideFloor.l0 z q (dn L) ((n : Int) - 1) sa a sb (dn b)) r := by
  intro n
  induction n with
  | zero =>
    intro q L hn hq hD hL hv
    rw [List.drop_zero, Nat.pow_zero, Nat.mul_one, Nat.mul_one, List.take_zero, dv, Nat.add_zero, Nat.mul_comm] at hv
    have h1 : dv q = dv a / b := by rw [hv, Nat.mul_add_div hb, Nat.div_eq_of_lt hL, Nat.add_zero]
    have h2 : dv a % b = L := by rw [hv, Nat.mul_add_mod, Nat.mod_eq_of_lt hL]
    have := hend q hD hq h1
    rw [h2] at this
    exact this
  | succ n ih =>
    intro q L hn hq hD hL hv
    have hx := rd_D ha n
    have hlL : (dn L).length ≤ (dn b).length := dn_mono (by omega)
    rw [show ((n + 1 : Nat) : Int) - 1 = (n : Int) by omega]
    refine Ev.succ (f := fun z => Bs_WideFloor.l0 z q (dn L) (n : Int) sa a sb (dn b)) ?_
    simp only [Bs_WideFloor.l0, show (n : Int) ≥ 0 by omega, show (0 : Int) ≤ (n : Int) by omega, show (n : Int) < (a.length : Int) by omega, if_true, Option.bind_some]
    simp only [List.length_cons, List.length_nil, show 0 + 1 + (dn L).length < 17592186044416 by omega, if_true]
    have hd1 : DG ([rd a (n : Int)] ++ dn L) := DG_append (fun y hy => by simp at hy; omega) (dn_DG L)
    have ht := trimmed_ev hd1 (by simp; omega)
    have e1 : dv ([rd a (n : Int)] ++ dn L) = (rd a (n : Int)).toNat + 1000000000 * L := by rw [List.singleton_append, dv, dv_dn]
    rw [e1] at ht
    refine Ev.bind ht ?_
    generalize hL1 : (rd a (n : Int)).toNat + 1000000000 * L = L1
    have hq1 : L1 / b < 1000000000 := by
      rw [Nat.div_lt_iff_lt_mul hb]
      have := Nat.mul_le_mul_left 1000000000 (show L + 1 ≤ b by omega)
      omega
    have hq0 : (0 : Int) ≤ ((L1 / b : Nat) : Int) := Int.natCast_nonneg _
    have hq2 : ((L1 / b : Nat) : Int) < 1000000000 := Int.ofNat_lt.2 hq1
    refine floor_l1 hb hlb q (n : Int) sa a sb r ?_ 999999999 0 999999999 (by omega) (by omega) (by omega) (by omega)
    refine Ev.succ (f := fun z => Bs_WideFloor.l1 z q (dn L1) (n : Int) ((L1 / b : Nat) : Int) ((L1 / b : Nat) : Int) sa a sb (dn b)) ?_
    simp only [Bs_WideFloor.l1, Int.lt_irrefl, if_false, show (0 : Int) ≤ (n : Int) by omega, show (n : Int) < (q.length : Int) by omega, if_true, Int.toNat_natCast]
    have h1b := wideOf_ev 1 (dn_DG b) (by omega)
    rw [dv_dn, if_neg (show ¬ b = 0 by omega)] at h1b
    refine Ev.bind h1b ?_
    refine Ev.bind (WideOf_ev (x := ((L1 / b : Nat) : Int)) (by omega)) ?_
    have hlm : (dn (((L1 / b : Nat) : Int)).natAbs).length ≤ 2 := dn_len (by rw [Int.natAbs_natCast]
                                                                             have : (1000000000 : Nat) ^ 2 = 1000000000000000000 := by decide
                                                                             omega)
    have hmul := WideMul_ev (a := (b : Int)) (b := ((L1 / b : Nat) : Int)) (by simp only [Int.natAbs_natCast] at hlm ⊢; omega)
    rw [show wd (b : Int) = (1, dn b) by unfold wd; rw [sg_pos (by omega), Int.natAbs_natCast]] at hmul
    refine Ev.bind hmul ?_
    have e2 : (wd ((b : Int) * ((L1 / b : Nat) : Int))).2 = dn (b * (L1 / b)) := by unfold wd; dsimp only; rw [Int.natAbs_mul, Int.natAbs_natCast, Int.natAbs_natCast]
    rw [e2]
    have hle : b * (L1 / b) ≤ L1 := Nat.mul_div_le L1 b
    have hmod : L1 - b * (L1 / b) < b := by have := Nat.mod_lt L1 hb; rw [Nat.mod_eq_sub_mul_div] at this; exact this
    have hl1 : (dn L1).length ≤ (dn b).length + 1 := dn_len (by
      have p := dv_lt (dn_DG b)
      rw [dv_dn] at p
      have := Nat.mul_le_mul_left 1000000000 (show L + 1 ≤ b by omega)
      rw [Nat.pow_succ]
      omega)
    have hsub := subDigits_ev (dn_DG L1) (dn_DG (b * (L1 / b))) (by omega) (by rw [dv_dn, dv_dn]; exact hle)
    rw [dv_dn, dv_dn] at hsub
    refine Ev.bind hsub ?_
    rw [w64 (by omega)]
    refine ih (q.set n ((L1 / b : Nat) : Int)) _ (by omega) (by rw [List.length_set]; exact hq) (DG_set hD _ (by omega)) hmod ?_
    rw [dv_drop (q.set n ((L1 / b : Nat) : Int)) n, rd_set (by omega), if_pos rfl, List.drop_set_of_lt (by omega), Int.toNat_natCast]
    refine ring2 ?_ hL1.symm hle
    rw [Nat.pow_succ, dv_take (by omega)] at hv
    exact hv
theorem floorN (n b : Nat) (hb : 0 < b) : (-(n : Int)) / (b : Int) = if n % b = 0 then -((n / b : Nat) : Int) else -((n / b : Nat) : Int) - 1 := by
 have h := Nat.div_add_mod n b
 have hm := Nat.mod_lt n hb
 have e : ((b : Int) * ((n / b : Nat) : Int)) = ((b * (n / b) : Nat) : Int) := by simp
 by_cases h0 : n % b = 0
 ·rw [if_pos h0]
  rw [show (-(n : Int)) = (b : Int) * (-((n / b : Nat) : Int)) by rw [Int.mul_neg, e]; omega]
  exact Int.mul_ediv_cancel_left _ (by omega)
 ·rw [if_neg h0]
  rw [show (-(n : Int)) = ((b - n % b : Nat) : Int) + (b : Int) * (-((n / b : Nat) : Int) - 1) by rw [Int.mul_sub, Int.mul_neg, e]; omega]
  rw [Int.add_mul_ediv_left _ _ (by omega), Int.ediv_eq_zero_of_lt (by omega) (by omega)]
  omega
theorem WideFloor_ev {a b : Int} (hb : 0 < b) (hx : 0 ≤ a ∨ b ∣ a) (hla : (dn a.natAbs).length < 1000000) (hlb : (dn b.natAbs).length < 1000000) : Ev (fun k => Bs_WideFloor.f k (wd a).1 (wd a).2 (wd b).1 (wd b).2) (wd (a / b)) := by
 obtain ⟨n, rfl⟩ : ∃ n : Nat, b = (n : Int) := ⟨b.toNat, by omega⟩
 rw [Int.natAbs_natCast] at hlb
 unfold Bs_WideFloor.f
 by_cases h0 : a = 0
 ·subst h0
  simp only [show (wd 0).1 = 0 from rfl, if_true, Int.zero_ediv]
  rw [show wd 0 = (0, []) by unfold wd sg; simp [dn_zero]]
  exact Ev.some
 ·have s0 : ¬ (wd a).1 = 0 := fun e => h0 (sg_zero.1 e)
  have hl : (wd a).2.length = (dn a.natAbs).length := rfl
  simp only [s0, if_false, show (0 : Int) ≤ ((wd a).2.length : Int) by omega, Int.toNat_natCast, show (wd a).2.length ≤ 35184372088832 by omega, if_true]
  have hz : ∀ (m : Nat), DG (List.replicate m 0) := fun m x hx => by rw [(List.mem_replicate.1 hx).2]; decide
  have key := floor_l0 (dn_DG a.natAbs) (b := n) (by omega) hla hlb (wd a).1 (wd (n : Int)).1 (wd (a / (n : Int))) (fun q hD hq hv => ?_) (dn a.natAbs).length (List.replicate (dn a.natAbs).length 0) 0 (Nat.le_refl _) (by simp) (hz _) (by omega) (by rw [List.drop_eq_nil_of_le (by simp), dv, List.take_length]; simp)
  ·rw [dn_zero] at key
   rw [w64 (by omega)]
   exact key
  ·rw [dv_dn] at hv ⊢
   refine Ev.succ (f := fun z => Bs_WideFloor.l0 z q (dn (a.natAbs % n)) (-1) (wd a).1 (dn a.natAbs) (wd (n : Int)).1 (dn n)) ?_
   simp only [Bs_WideFloor.l0, show ¬ (-1 : Int) ≥ 0 by decide, if_false]
   have hw := wideOf_ev (wd a).1 hD (by omega)
   rw [hv, wd_of _ _ (by rcases sg_in a with e | e | e; exact .inr e; exact absurd e s0; exact .inl e)] at hw
   refine Ev.bind hw ?_
   have hlq : (dn (a.natAbs / n)).length ≤ (dn a.natAbs).length := dn_mono (Nat.div_le_self _ _)
   rcases Int.lt_or_lt_of_ne h0 with hn | hp
   ·have es : (wd a).1 = -1 := sg_neg hn
    simp only [es, show (-1 : Int) < 0 by decide, if_true]
    have hf : a / (n : Int) = if a.natAbs % n = 0 then -((a.natAbs / n : Nat) : Int) else -((a.natAbs / n : Nat) : Int) - 1 := by
     rw [← floorN a.natAbs n (by omega), show -((a.natAbs : Nat) : Int) = a by omega]
    rw [show (-1 : Int) * ((a.natAbs / n : Nat) : Int) = -((a.natAbs / n : Nat) : Int) by omega]
    by_cases hm : a.natAbs % n = 0
    ·rw [if_pos hm] at hf
     rw [hf, hm, dn_zero]
     refine Ev.succ (f := fun z => Bs_WideFloor.j2 z _ _ _) ?_
     simp only [Bs_WideFloor.j2, List.length_nil, show decide (((0 : Nat) : Int) > 0) = false by decide, Bool.false_eq_true, if_false]
     exact Ev.some
    ·rcases hx with hx | ⟨c, hc⟩
     ·omega
     ·exact absurd (show a.natAbs % n = 0 by rw [hc, Int.natAbs_mul, Int.natAbs_natCast, Nat.mul_mod_right]) hm
   ·have es : (wd a).1 = 1 := sg_pos hp
    simp only [es, show ¬ (1 : Int) < 0 by decide, if_false]
    refine Ev.succ (f := fun z => Bs_WideFloor.j2 z false _ _) ?_
    simp only [Bs_WideFloor.j2, Bool.false_eq_true, if_false]
    rw [show (1 : Int) * ((a.natAbs / n : Nat) : Int) = a / (n : Int) by rw [Int.one_mul, Int.natCast_ediv]; congr 1; omega]
    exact Ev.some

theorem gcd_w0 : ∀ (m x y : Nat), y ≤ m → (dn x).length < 1000000 → (dn y).length < 1000000 → Ev (fun k => Bs_wideGcd.l0 k (wd (x : Int)).1 (wd (x : Int)).2 (wd (y : Int)).1 (wd (y : Int)).2) (wd ((Nat.gcd x y : Nat) : Int)) := by
 intro m
 induction m with
 | zero =>
  intro x y hy hx _
  obtain rfl : y = 0 := by omega
  refine Ev.succ (f := fun k => Bs_wideGcd.l0 k (wd (x : Int)).1 (wd (x : Int)).2 (wd ((0 : Nat) : Int)).1 (wd ((0 : Nat) : Int)).2) ?_
  simp only [Bs_wideGcd.l0, Bs_WideSign.f, Option.bind_some, show (wd ((0 : Nat) : Int)).1 = 0 from rfl, if_true, Nat.gcd_zero_right]
  exact Ev.some
 | succ m ih =>
  intro x y hy hx hly
  refine Ev.succ (f := fun k => Bs_wideGcd.l0 k (wd (x : Int)).1 (wd (x : Int)).2 (wd (y : Int)).1 (wd (y : Int)).2) ?_
  by_cases h0 : y = 0
  ·subst h0
   simp only [Bs_wideGcd.l0, Bs_WideSign.f, Option.bind_some, show (wd ((0 : Nat) : Int)).1 = 0 from rfl, if_true, Nat.gcd_zero_right]
   exact Ev.some
  ·have es : ¬ (wd (y : Int)).1 = 0 := fun e => h0 (by have := sg_zero.1 (show sg (y : Int) = 0 from e); omega)
   simp only [Bs_wideGcd.l0, Bs_WideSign.f, Option.bind_some, es, if_false]
   refine Ev.bind (WideFloor_ev (a := (x : Int)) (b := (y : Int)) (by omega) (.inl (by omega)) (by rw [Int.natAbs_natCast]; exact hx) (by rw [Int.natAbs_natCast]; exact hly)) ?_
   have e1 : (x : Int) / (y : Int) = ((x / y : Nat) : Int) := by simp
   have l1 : (dn (x / y)).length ≤ (dn x).length := dn_mono (Nat.div_le_self _ _)
   have hle : x / y * y ≤ x := Nat.div_mul_le_self x y
   have l2 : (dn (x / y * y)).length ≤ (dn x).length := dn_mono hle
   rw [e1]
   refine Ev.bind (WideMul_ev (a := ((x / y : Nat) : Int)) (b := (y : Int)) (by rw [Int.natAbs_natCast, Int.natAbs_natCast]; omega)) ?_
   have e2 : ((x / y : Nat) : Int) * (y : Int) = ((x / y * y : Nat) : Int) := by simp
   rw [e2]
   refine Ev.bind (WideSub_ev (a := (x : Int)) (b := ((x / y * y : Nat) : Int)) (by rw [Int.natAbs_natCast]; omega) (by rw [Int.natAbs_natCast]; omega)) ?_
   have hmod : (x : Int) - ((x / y * y : Nat) : Int) = ((x % y : Nat) : Int) := by
    have := Nat.mod_eq_sub_mul_div (x := x) (k := y)
    rw [Nat.mul_comm] at this
    omega
   rw [hmod]
   have hlt := Nat.mod_lt x (show 0 < y by omega)
   have := ih y (x % y) (by omega) hly (by have := dn_mono (show x % y ≤ y by omega); omega)
   rw [show Nat.gcd x y = Nat.gcd y (x % y) by rw [Nat.gcd_comm x y, Nat.gcd_rec y x, Nat.gcd_comm]]
   exact this
theorem wideGcd_ev {a b : Int} (hla : (dn a.natAbs).length < 1000000) (hlb : (dn b.natAbs).length < 1000000) : Ev (fun k => Bs_wideGcd.f k (wd a).1 (wd a).2 (wd b).1 (wd b).2) (wd ((Int.gcd a b : Nat) : Int)) := by
 unfold Bs_wideGcd.f
 rw [wideSize_eq, wideSize_eq]
 simp only [Option.bind_some]
 exact gcd_w0 b.natAbs a.natAbs b.natAbs (Nat.le_refl _) hla hlb

def Rt (p : Int × Int) : Int × List Int × Int × List Int := ((wd p.1).1, (wd p.1).2, (wd p.2).1, (wd p.2).2)
def red (a b : Int) : Int × Int := (a / (Int.gcd a b : Int), b / (Int.gcd a b : Int))
theorem RatioMake_ev {a b : Int} (hb : 0 < b) (hla : (dn a.natAbs).length < 1000000) (hlb : (dn b.natAbs).length < 1000000) : Ev (fun k => Bs_RatioMake.f k (wd a).1 (wd a).2 (wd b).1 (wd b).2) (Rt (red a b)) := by
 have h1 : (dn (1 : Int).natAbs).length ≤ 1 := dn_len (by decide)
 have hg0 : 0 < Int.gcd a b := Int.gcd_pos_of_ne_zero_right _ (by omega)
 have hgl : Int.gcd a b ≤ b.natAbs := Nat.le_of_dvd (by omega) (Nat.gcd_dvd_right _ _)
 have hgn : (dn (Int.gcd a b)).length ≤ (dn b.natAbs).length := dn_mono hgl
 unfold Bs_RatioMake.f
 simp only [Bs_WideSign.f, Option.bind_some, show (wd b).1 = 1 from sg_pos hb, show ¬ (1 : Int) < 0 by decide, if_false]
 have hg := wideGcd_ev hla hlb
 rw [show (wd b).1 = 1 from sg_pos hb] at hg
 refine Ev.bind hg ?_
 refine Ev.bind (WideOf_ev (x := 1) (by decide)) ?_
 have hc : Ev (fun k => Bs_WideCmp.f k (wd ((Int.gcd a b : Nat) : Int)).1 (wd ((Int.gcd a b : Nat) : Int)).2 (wd 1).1 (wd 1).2) (sg (((Int.gcd a b : Nat) : Int) - 1)) :=
  Ev.bind (WideSub_ev (a := ((Int.gcd a b : Nat) : Int)) (b := 1) (by rw [Int.natAbs_natCast]; omega) (by omega)) Ev.some
 refine Ev.bind hc ?_
 by_cases he : Int.gcd a b = 1
 ·have : sg (((Int.gcd a b : Nat) : Int) - 1) = 0 := sg_zero.2 (by omega)
  simp only [this, if_true]
  have e : red a b = (a, b) := by unfold red; rw [he]; simp
  rw [e]
  unfold Rt
  rw [show (wd b).1 = 1 from sg_pos hb]
  exact Ev.some
 ·have : ¬ sg (((Int.gcd a b : Nat) : Int) - 1) = 0 := fun e => he (by have := sg_zero.1 e; omega)
  simp only [this, if_false]
  have ha' := WideFloor_ev (a := a) (b := ((Int.gcd a b : Nat) : Int)) (by omega) (.inr (Int.gcd_dvd_left ..)) hla (by rw [Int.natAbs_natCast]; omega)
  have hb' := WideFloor_ev (a := b) (b := ((Int.gcd a b : Nat) : Int)) (by omega) (.inr (Int.gcd_dvd_right ..)) hlb (by rw [Int.natAbs_natCast]; omega)
  rw [show (wd b).1 = 1 from sg_pos hb] at hb'
  exact Ev.bind ha' (Ev.bind hb' Ev.some)
theorem red_spec {a b : Int} (hb : 0 < b) : ∃ g : Int, 0 < g ∧ a = (red a b).1 * g ∧ b = (red a b).2 * g ∧ Int.gcd (red a b).1 (red a b).2 = 1 ∧ 0 < (red a b).2 := by
 have hg0 : 0 < Int.gcd a b := Int.gcd_pos_of_ne_zero_right _ (by omega)
 have e1 : a / (Int.gcd a b : Int) * (Int.gcd a b : Int) = a := Int.ediv_mul_cancel (Int.gcd_dvd_left ..)
 have e2 : b / (Int.gcd a b : Int) * (Int.gcd a b : Int) = b := Int.ediv_mul_cancel (Int.gcd_dvd_right ..)
 refine ⟨(Int.gcd a b : Int), by omega, e1.symm, e2.symm, Int.gcd_ediv_gcd_ediv_gcd hg0, ?_⟩
 unfold red
 rcases Int.lt_or_le 0 (b / (Int.gcd a b : Int)) with h | h
 ·exact h
 ·have := Int.mul_le_mul_of_nonneg_right h (show 0 ≤ (Int.gcd a b : Int) by omega)
  rw [e2] at this
  omega
theorem red_mul {a b c : Int} (hc : 0 < c) (hb : 0 < b) : red (a * c) (b * c) = red a b := by
 have hg0 : 0 < Int.gcd a b := Int.gcd_pos_of_ne_zero_right _ (by omega)
 unfold red
 rw [Int.gcd_mul_right, Int.natCast_mul, Int.natAbs_of_nonneg (by omega), Int.mul_ediv_mul_of_pos_left _ _ hc, Int.mul_ediv_mul_of_pos_left _ _ hc]
theorem red_self {a b : Int} (h : Int.gcd a b = 1) : red a b = (a, b) := by unfold red; rw [h]; simp
theorem WideInt_ev (z : Int) : Ev (fun k => Bs_WideInt.f k (wd z).1 (wd z).2) (if z.natAbs < 1000000000000000000 then (z, true) else (0, false)) := by
  unfold Bs_WideInt.f
  have e2 : (1000000000 : Nat) ^ 2 = 1000000000000000000 := by decide
  have hz : sg z * (z.natAbs : Int) = z := by
    rcases Int.lt_trichotomy z 0 with h | h | h
    · rw [sg_neg h]; omega
    · subst h; rfl
    · rw [sg_pos h]; omega
  by_cases h : z.natAbs < 1000000000000000000
  · have hl : (dn z.natAbs).length ≤ 2 := dn_len (by omega)
    show Ev (fun k => if ((dn z.natAbs).length : Int) > 2 then _ else Bs_WideInt.l0 k 0 (wrap64 (((dn z.natAbs).length : Int) - 1)) (sg z) (dn z.natAbs)) _
    simp only [h, show ¬ ((dn z.natAbs).length : Int) > 2 by omega, if_true, if_false]
    have hv := dv_dn z.natAbs
    have hD := dn_DG z.natAbs
    have last : ∀ (l : List Int) (v : Int), v = z.natAbs → Ev (fun k => Bs_WideInt.l0 k v (-1) (sg z) l) (z, true) := fun l v ev => by
      refine Ev.succ (f := fun k => Bs_WideInt.l0 k v (-1) (sg z) l) ?_
      simp only [Bs_WideInt.l0, show ¬ (-1 : Int) ≥ 0 by decide, if_false]
      rw [ev, hz, w64 (by omega)]
      exact Ev.some
    have one : ∀ (l : List Int) (v : Int) (i : Nat) (r : Int × Bool), i < l.length → i < 2 → (0 ≤ v ∧ v < 1000000000) → DG l → Ev (fun k => Bs_WideInt.l0 k (v * 1000000000 + rd l (i : Int)) ((i : Int) - 1) (sg z) l) r → Ev (fun k => Bs_WideInt.l0 k v (i : Int) (sg z) l) r := fun l v i r hi h2 hv hD hn => by
      have hx := rd_D hD i
      refine Ev.succ (f := fun k => Bs_WideInt.l0 k v (i : Int) (sg z) l) ?_
      simp only [Bs_WideInt.l0, show (i : Int) ≥ 0 by omega, show (0 : Int) ≤ (i : Int) by omega, show (i : Int) < (l.length : Int) by omega, if_true]
      rw [w64 (n := v * 1000000000) (by omega), w64 (n := v * 1000000000 + rd l (i : Int)) (by omega), w64 (n := (i : Int) - 1) (by omega)]
      exact hn
    generalize dn z.natAbs = l at hl hv hD ⊢
    match l, hl, hv, hD with
    | [], _, hv, _ =>
      rw [w64 (by simp)]
      exact last _ _ (by rw [dv] at hv; omega)
    | [x], _, hv, hD =>
      rw [w64 (by simp)]
      rw [dv, dv] at hv
      have hx := hD x (by simp)
      refine one [x] 0 0 _ (by simp) (by decide) (by decide) hD ?_
      exact last _ _ (by rw [show rd [x] ((0 : Nat) : Int) = x from rfl]; omega)
    | [x, y], _, hv, hD =>
      rw [w64 (by simp)]
      rw [dv, dv, dv] at hv
      have hx := hD x (by simp)
      have hy := hD y (by simp)
      refine one [x, y] 0 1 _ (by simp) (by decide) (by decide) hD ?_
      refine one [x, y] _ 0 _ (by simp) (by decide) (by rw [show rd [x, y] ((1 : Nat) : Int) = y from rfl]; omega) hD ?_
      exact last _ _ (by rw [show rd [x, y] ((1 : Nat) : Int) = y from rfl, show rd [x, y] ((0 : Nat) : Int) = x from rfl]; omega)
    | _ :: _ :: _ :: _, hl, _, _ => simp at hl
  · have hl : 2 < (dn z.natAbs).length := by
      rcases Nat.lt_or_ge 2 (dn z.natAbs).length with h2 | h2
      · exact h2
      · have := dv_lt (dn_DG z.natAbs)
        rw [dv_dn] at this
        have p := Nat.pow_le_pow_right (show 1000000000 > 0 by decide) h2
        omega
    show Ev (fun k => if ((dn z.natAbs).length : Int) > 2 then _ else _) _
    simp only [h, show ((dn z.natAbs).length : Int) > 2 by omega, if_true, if_false]
    exact Ev.some
def smallP (p : Int × Int) : Prop := (-1000000000 ≤ p.1 ∧ p.1 ≤ 1000000000) ∧ 1 ≤ p.2 ∧ p.2 ≤ 1000000000
instance (p : Int × Int) : Decidable (smallP p) := by unfold smallP; infer_instance
theorem IsSmall_dec (a b : Int) : Bs_IsSmall.f a b = some (decide (smallP (a, b))) := by
 unfold Bs_IsSmall.f smallP
 simp only [Within_eq, Option.bind_some, decide_eq_true_eq]
 by_cases h : -1000000000 ≤ a ∧ a ≤ 1000000000
 ·simp only [h, and_self, if_true, true_and]
 ·simp only [h, if_false, false_and, decide_false]
theorem RatioFrac_ev (p : Int × Int) : Ev (fun k => Bs_RatioFrac.f k (Rt p).1 (Rt p).2.1 (Rt p).2.2.1 (Rt p).2.2.2) (if smallP p then (p.1, p.2, true) else (0, 0, false)) := by
 unfold Bs_RatioFrac.f
 refine Ev.bind (WideInt_ev p.1) ?_
 refine Ev.bind (WideInt_ev p.2) ?_
 by_cases h1 : p.1.natAbs < 1000000000000000000
 ·by_cases h2 : p.2.natAbs < 1000000000000000000
  ·simp only [h1, h2, if_true, IsSmall_dec, Option.bind_some, decide_eq_true_eq]
   by_cases h : smallP p
   ·simp only [h, if_true]; exact Ev.some
   ·simp only [h, if_false]; exact Ev.some
  ·have h : ¬ smallP p := fun h => by unfold smallP at h; omega
   simp only [h1, h2, h, if_true, if_false, Bool.false_eq_true]; exact Ev.some
 ·have h : ¬ smallP p := fun h => by unfold smallP at h; omega
  simp only [h1, h, if_false, Bool.false_eq_true]; exact Ev.some
/-- What the program says for it (the one number without a positive twin stays as it is). -/
def gq (x y : Int) : Int := if Int.gcd x y = 9223372036854775808 then -9223372036854775808 else (Int.gcd x y : Int)

theorem size_abs {x : Int} (h : -9223372036854775808 ≤ x ∧ x ≤ 9223372036854775807) : mx x (wrap64 (-x)) = gq x 0 := by
 unfold gq
 rw [Int.gcd_zero_right]
 unfold mx wrap64
 by_cases e : x = -9223372036854775808
 ·subst e; rfl
 ·rw [if_neg (show ¬ x.natAbs = 9223372036854775808 by omega)]
  split <;> omega

theorem gcd_step (x y : Int) : gq y (x.tmod y) = gq x y := by
 have : Int.gcd y (x.tmod y) = Int.gcd x y := by
  show Nat.gcd y.natAbs (x.tmod y).natAbs = Nat.gcd x.natAbs y.natAbs
  rw [Int.natAbs_tmod, Nat.gcd_comm, ← Nat.gcd_rec, Nat.gcd_comm]
 unfold gq
 rw [this]

theorem tmod_in {x y : Int} (hx : -9223372036854775808 ≤ x ∧ x ≤ 9223372036854775807) (hy : -9223372036854775808 ≤ y ∧ y ≤ 9223372036854775807) (h0 : y ≠ 0) : (x.tmod y).natAbs < y.natAbs ∧ -9223372036854775808 ≤ x.tmod y ∧ x.tmod y ≤ 9223372036854775807 := by
 have h : (x.tmod y).natAbs < y.natAbs := by
  rw [Int.natAbs_tmod]
  exact Nat.mod_lt _ (by omega)
 omega

theorem gcd_l0 : ∀ (m : Nat) (x y : Int), y.natAbs ≤ m → (-9223372036854775808 ≤ x ∧ x ≤ 9223372036854775807) → (-9223372036854775808 ≤ y ∧ y ≤ 9223372036854775807) → Ev (fun k => Bs_Gcd.l0 k x y) (gq x y)
 | 0, x, y, h, hx, _ => by
  refine Ev.succ (f := fun k => Bs_Gcd.l0 k x y) ?_
  obtain rfl : y = 0 := by omega
  simp only [Bs_Gcd.l0, if_true, Size_eq, Option.bind_some, size_abs hx]
  exact Ev.some
 | m + 1, x, y, h, hx, hy => by
  refine Ev.succ (f := fun k => Bs_Gcd.l0 k x y) ?_
  by_cases h0 : y = 0
  ·subst h0
   simp only [Bs_Gcd.l0, if_true, Size_eq, Option.bind_some, size_abs hx]
   exact Ev.some
  ·simp only [Bs_Gcd.l0, h0, if_false]
   have ht := tmod_in hx hy h0
   rw [← gcd_step x y]
   exact gcd_l0 m y (x.tmod y) (by omega) hy ht.2
theorem gcd_ev {x y : Int} (hx : -9223372036854775808 ≤ x ∧ x ≤ 9223372036854775807) (hy : -9223372036854775808 ≤ y ∧ y ≤ 9223372036854775807) : Ev (fun k => Bs_Gcd.f k x y) (gq x y) := gcd_l0 _ x y (Nat.le_refl _) hx hy
theorem divisor_eq : ∀ (k : Nat) (x y : Int), L_divisor.l0 k x y = Bs_Gcd.l0 k x y
 | 0, _, _ => rfl
 | k + 1, x, y => by
  simp only [L_divisor.l0, Bs_Gcd.l0, divisor_eq k, Size_eq, Option.bind_some]
theorem divisor_ev {x y : Int} (hx : -9223372036854775808 ≤ x ∧ x ≤ 9223372036854775807) (hy : -9223372036854775808 ≤ y ∧ y ≤ 9223372036854775807) : Ev (fun k => L_divisor.f k x y) (gq x y) :=
 Ev.congr (f := fun k => Bs_Gcd.f k x y) (fun k => (divisor_eq k x y).symm) (gcd_ev hx hy)

/-- Line i is as great as any. -/
def pk (l : List Int) (i : Nat) : Bool := l.all fun x => decide (x ≤ rd l (i : Int))
def peaksFrom (l : List Int) : Nat → Nat → List Int
 | 0, _ => []
 | n + 1, i => if pk l i = true then (i : Int) :: peaksFrom l n (i + 1) else peaksFrom l n (i + 1)
/-- All peaks. -/
def peaks (l : List Int) : List Int := peaksFrom l l.length 0
/-- A fraction in lowest terms, as both say it. -/
def frac (a b : Int) : Int × Int := (wrap64 (Int.tdiv a (gq a b)), wrap64 (Int.tdiv b (gq a b)))
theorem fraction_ev {a b : Int} (ha : -9223372036854775808 ≤ a ∧ a ≤ 9223372036854775807) (hb : -9223372036854775808 ≤ b ∧ b ≤ 9223372036854775807) (h0 : gq a b ≠ 0) : Ev (fun k => L_fraction.f k a b) (frac a b) := by
 unfold L_fraction.f
 refine Ev.bind (divisor_ev ha hb) ?_
 simp only [h0, if_false]
 exact Ev.some
theorem gq_pos' {a b : Int} (hb : 0 < b ∧ b ≤ 4611686018427387904) : 0 < gq a b ∧ gq a b ≤ b ∧ gq a b = (Int.gcd a b : Int) := by
 have h1 : Int.gcd a b ≤ b.natAbs := Nat.le_of_dvd (by omega) (Nat.gcd_dvd_right _ _)
 have h2 : 0 < Int.gcd a b := Int.gcd_pos_of_ne_zero_right _ (by omega)
 unfold gq
 rw [if_neg (by omega)]
 omega
theorem fraction_ev' {a b : Int} (ha : -9223372036854775808 ≤ a ∧ a ≤ 9223372036854775807) (hb : 0 < b ∧ b ≤ 4611686018427387904) : Ev (fun k => L_fraction.f k a b) (frac a b) :=
 fraction_ev ha (by omega) (Int.ne_of_gt (gq_pos' hb).1)
/-- The sum of n powers from line i on, and their sum with the lines' numbers. -/
def sn (l : List Int) : Nat → Nat → Int
 | 0, _ => 0
 | n + 1, i => rd l (i : Int) + sn l n (i + 1)
def wn (l : List Int) : Nat → Nat → Int
 | 0, _ => 0
 | n + 1, i => (i : Int) * rd l (i : Int) + wn l n (i + 1)
/-- The first line with the maximum power. -/
def fp (l : List Int) : Nat := ((peaks l).headD 0).toNat
def par (l : List Int) : Int × Int :=
 if fp l = 0 ∨ fp l + 1 = l.length then ((fp l : Int), 1) else
  if 2 * rd l (fp l : Int) - rd l ((fp l - 1 : Nat) : Int) - rd l ((fp l + 1 : Nat) : Int) ≤ 0 then ((fp l : Int), 1) else
   frac (2 * (2 * rd l (fp l : Int) - rd l ((fp l - 1 : Nat) : Int) - rd l ((fp l + 1 : Nat) : Int)) * (fp l : Int) + rd l ((fp l + 1 : Nat) : Int) - rd l ((fp l - 1 : Nat) : Int)) (2 * (2 * rd l (fp l : Int) - rd l ((fp l - 1 : Nat) : Int) - rd l ((fp l + 1 : Nat) : Int)))
def mdF (l : List Int) : Nat → Nat → Nat
 | 0, i => i
 | n + 1, i => if sn l l.length 0 ≤ 2 * sn l (i + 1) 0 then i else mdF l n (i + 1)
def md (l : List Int) : Nat := mdF l l.length 0
def est (l : List Int) (kind : Int) : Int × Int :=
 if sn l l.length 0 = 0 then (0, 1) else if kind = 1 then frac (wn l l.length 0) (sn l l.length 0) else if kind = 2 then par l else if kind = 3 then ((md l : Int), 1) else ((fp l : Int), 1)
theorem awake_ev : Ev (fun k => Lw_awake.f k) true :=
 Ev.of_mono (k := 40) (fun k => Lw_awake.mono k) (by kernel_rfl)
theorem i64_in {n : Int} (h : (Lit.int .i64 n).wf = true) : -9223372036854775808 ≤ n ∧ n ≤ 9223372036854775807 := by
 simp [Lit.wf, IntKind.min, IntKind.max, IntKind.signed, IntKind.bits] at h
 omega
theorem red_le {a b : Int} (hb : 0 < b) : (red a b).1.natAbs ≤ a.natAbs ∧ (red a b).2 ≤ b := by
 obtain ⟨g, hg, h1, h2, _, h3⟩ := red_spec (a := a) hb
 refine ⟨?_, ?_⟩
 ·have e : a.natAbs = (red a b).1.natAbs * g.natAbs := by rw [← Int.natAbs_mul, ← h1]
  rw [e]
  exact Nat.le_mul_of_pos_right _ (by omega)
 ·have : (red a b).2 * 1 ≤ (red a b).2 * g := Int.mul_le_mul_of_nonneg_left (by omega) (by omega)
  omega
theorem frac_red {a b : Int} (ha : -9223372036854775807 ≤ a ∧ a ≤ 9223372036854775807) (hb : 0 < b ∧ b ≤ 4611686018427387904) : frac a b = red a b := by
 obtain ⟨h1, h2, h3⟩ := gq_pos' (a := a) hb
 have hl := red_le (a := a) hb.1
 have hg : gq a b = (Int.gcd a b : Int) := by
  unfold gq
  split
  ·rename_i h; have := Nat.le_of_dvd (show 0 < b.natAbs by omega) (Nat.gcd_dvd_right a.natAbs b.natAbs); unfold Int.gcd at h; omega
  ·rfl
 unfold frac
 rw [hg, Int.tdiv_eq_ediv_of_dvd (Int.gcd_dvd_left ..), Int.tdiv_eq_ediv_of_dvd (Int.gcd_dvd_right ..)]
 have l1 : (a / (Int.gcd a b : Int)).natAbs ≤ a.natAbs := hl.1
 have l2 : b / (Int.gcd a b : Int) ≤ b := hl.2
 have e1 : wrap64 (a / (Int.gcd a b : Int)) = a / (Int.gcd a b : Int) := w64 (by omega)
 obtain ⟨g, hg0, k1, k2, _, k3⟩ := red_spec (a := a) hb.1
 have l3 : 0 < b / (Int.gcd a b : Int) := k3
 have e2 : wrap64 (b / (Int.gcd a b : Int)) = b / (Int.gcd a b : Int) := w64 (by omega)
 rw [e1, e2]
 rfl
theorem red_mulred {x y u v : Int} (hy : 0 < y) (hv : 0 < v) : red ((red x y).1 * (red u v).1) ((red x y).2 * (red u v).2) = red (x * u) (y * v) := by
 obtain ⟨g, hg, g1, g2, _, g3⟩ := red_spec (a := x) hy
 obtain ⟨h, hh, h1, h2, _, h3⟩ := red_spec (a := u) hv
 have e1 : x * u = (red x y).1 * (red u v).1 * (g * h) := by
  calc x * u = ((red x y).1 * g) * ((red u v).1 * h) := by rw [← g1, ← h1]
   _ = _ := by simp only [Int.mul_assoc, Int.mul_left_comm]
 have e2 : y * v = (red x y).2 * (red u v).2 * (g * h) := by
  calc y * v = ((red x y).2 * g) * ((red u v).2 * h) := by rw [← g2, ← h2]
   _ = _ := by simp only [Int.mul_assoc, Int.mul_left_comm]
 rw [e1, e2, red_mul (Int.mul_pos hg hh) (Int.mul_pos g3 h3)]
theorem red_addred {x y z : Int} (hy : 0 < y) : red ((red x y).1 * 1 + z * (red x y).2) ((red x y).2 * 1) = red (x + z * y) y := by
 obtain ⟨g, hg, g1, g2, _, g3⟩ := red_spec (a := x) hy
 have e1 : x + z * y = ((red x y).1 * 1 + z * (red x y).2) * g := by
  calc x + z * y = (red x y).1 * g + z * ((red x y).2 * g) := by rw [← g1, ← g2]
   _ = _ := by rw [Int.add_mul, Int.mul_one, Int.mul_assoc]
 have e2 : y = ((red x y).2 * 1) * g := by rw [Int.mul_one]; exact g2
 rw [e1]
 conv => rhs; arg 2; rw [e2]
 rw [red_mul hg (by omega)]
/-- There and back. -/
theorem red_back {n d z w b : Int} (hd : 0 < d) (hw : 0 < w) (hb : 0 < b) (hg : Int.gcd n d = 1) :
    red ((red ((n - z * d) * w) (d * b)).1 * b + z * ((red ((n - z * d) * w) (d * b)).2 * w)) ((red ((n - z * d) * w) (d * b)).2 * w) = (n, d) := by
  obtain ⟨g, hg0, g1, g2, _, g3⟩ := red_spec (a := (n - z * d) * w) (Int.mul_pos hd hb)
  generalize red ((n - z * d) * w) (d * b) = p at g1 g2 g3 ⊢
  obtain ⟨p, q⟩ := p
  simp only at g1 g2 g3 ⊢
  have e1 : (p * b + z * (q * w)) * g = n * (w * b) := by
    calc (p * b + z * (q * w)) * g = (p * g) * b + z * ((q * g) * w) := by
          rw [Int.add_mul]; simp only [Int.mul_assoc, Int.mul_left_comm, Int.mul_comm]
      _ = ((n - z * d) * w) * b + z * ((d * b) * w) := by rw [← g1, ← g2]
      _ = n * (w * b) := by
          rw [Int.sub_mul, Int.sub_mul]
          have : z * d * w * b = z * (d * b * w) := by simp only [Int.mul_assoc, Int.mul_left_comm, Int.mul_comm]
          rw [this, Int.sub_add_cancel, Int.mul_assoc]
  have e2 : (q * w) * g = d * (w * b) := by
    calc (q * w) * g = (q * g) * w := by simp only [Int.mul_assoc, Int.mul_left_comm, Int.mul_comm]
      _ = d * b * w := by rw [← g2]
      _ = _ := by simp only [Int.mul_assoc, Int.mul_left_comm, Int.mul_comm]
  rw [← red_mul hg0 (Int.mul_pos g3 hw), e1, e2, red_mul (Int.mul_pos hw hb) hd, red_self hg]

def Sm3 (z : Int) : Prop := z.natAbs < 1000000000000000000000000000
theorem Sm3.len {z : Int} (h : Sm3 z) : (dn z.natAbs).length ≤ 3 := dn_len (by unfold Sm3 at h; omega)
theorem mul_len {a b : Int} (ha : Sm3 a) (hb : Sm3 b) : (a * b).natAbs < 1000000000000000000000000000 * 1000000000000000000000000000 := by
 unfold Sm3 at ha hb
 rw [Int.natAbs_mul]
 exact Nat.lt_of_le_of_lt (Nat.mul_le_mul (Nat.le_sub_one_of_lt ha) (Nat.le_sub_one_of_lt hb)) (by decide)
theorem RatioOf_ev {a b : Int} (hb : 0 < b) (ha : -9223372036854775808 ≤ a ∧ a ≤ 9223372036854775807) (hb2 : b ≤ 9223372036854775807) : Ev (fun k => Bs_RatioOf.f k a b) (Rt (red a b)) := by
 unfold Bs_RatioOf.f
 refine Ev.bind (WideOf_ev ha) ?_
 refine Ev.bind (WideOf_ev (x := b) (by omega)) ?_
 have h1 : (dn a.natAbs).length ≤ 3 := Sm3.len (by unfold Sm3; omega)
 have h2 : (dn b.natAbs).length ≤ 3 := Sm3.len (by unfold Sm3; omega)
 exact Ev.bind (RatioMake_ev hb (by omega) (by omega)) Ev.some
theorem RatioFrom_ev {a b : Int} (hb : 0 < b) (ha : -9223372036854775808 ≤ a ∧ a ≤ 9223372036854775807) (hb2 : b ≤ 9223372036854775807) : Ev (fun k => Bs_RatioFrom.f k a b) (Rt (red a b)) := by
 unfold Bs_RatioFrom.f
 exact Ev.bind (RatioOf_ev hb ha hb2) Ev.some
theorem RatioInt_ev {a : Int} (ha : -9223372036854775808 ≤ a ∧ a ≤ 9223372036854775807) : Ev (fun k => Bs_RatioInt.f k a) (Rt (a, 1)) := by
 unfold Bs_RatioInt.f
 exact Ev.bind (WideOf_ev ha) (Ev.bind (WideOf_ev (x := 1) (by decide)) Ev.some)
theorem RatioNeg_eq (p : Int × Int) : Bs_RatioNeg.f (Rt p).1 (Rt p).2.1 (Rt p).2.2.1 (Rt p).2.2.2 = some (Rt (-p.1, p.2)) := by
 unfold Bs_RatioNeg.f
 rw [show Bs_WideNeg.f (Rt p).1 (Rt p).2.1 = some (wd (-p.1)) from WideNeg_eq p.1]
 rfl
theorem RatioMul_ev {p q : Int × Int} (hp : 0 < p.2) (hq : 0 < q.2) (p1 : Sm3 p.1) (p2 : Sm3 p.2) (q1 : Sm3 q.1) (q2 : Sm3 q.2) :
  Ev (fun k => Bs_RatioMul.f k (Rt p).1 (Rt p).2.1 (Rt p).2.2.1 (Rt p).2.2.2 (Rt q).1 (Rt q).2.1 (Rt q).2.2.1 (Rt q).2.2.2) (Rt (red (p.1 * q.1) (p.2 * q.2))) := by
 have := p1.len; have := p2.len; have := q1.len; have := q2.len
 have a1 : (dn (p.1 * q.1).natAbs).length ≤ 6 := dn_len (by have := mul_len p1 q1; omega)
 have a2 : (dn (p.2 * q.2).natAbs).length ≤ 6 := dn_len (by have := mul_len p2 q2; omega)
 unfold Bs_RatioMul.f
 refine Ev.bind (WideMul_ev (a := p.1) (b := q.1) (by omega)) ?_
 refine Ev.bind (WideMul_ev (a := p.2) (b := q.2) (by omega)) ?_
 exact Ev.bind (RatioMake_ev (Int.mul_pos hp hq) (by omega) (by omega)) Ev.some
theorem RatioAdd_ev {p q : Int × Int} (hp : 0 < p.2) (hq : 0 < q.2) (p1 : Sm3 p.1) (p2 : Sm3 p.2) (q1 : Sm3 q.1) (q2 : Sm3 q.2) :
  Ev (fun k => Bs_RatioAdd.f k (Rt p).1 (Rt p).2.1 (Rt p).2.2.1 (Rt p).2.2.2 (Rt q).1 (Rt q).2.1 (Rt q).2.2.1 (Rt q).2.2.2) (Rt (red (p.1 * q.2 + q.1 * p.2) (p.2 * q.2))) := by
 have := p1.len; have := p2.len; have := q1.len; have := q2.len
 have b1 := mul_len p1 q2; have b2 := mul_len q1 p2
 have a1 : (dn (p.1 * q.2).natAbs).length ≤ 6 := dn_len (by omega)
 have a3 : (dn (q.1 * p.2).natAbs).length ≤ 6 := dn_len (by omega)
 have a2 : (dn (p.2 * q.2).natAbs).length ≤ 6 := dn_len (by have := mul_len p2 q2; omega)
 have a4 : (dn (p.1 * q.2 + q.1 * p.2).natAbs).length ≤ 7 := dn_len (by omega)
 unfold Bs_RatioAdd.f
 refine Ev.bind (WideMul_ev (a := p.1) (b := q.2) (by omega)) ?_
 refine Ev.bind (WideMul_ev (a := q.1) (b := p.2) (by omega)) ?_
 refine Ev.bind (WideAdd_ev (a := p.1 * q.2) (b := q.1 * p.2) (by omega) (by omega)) ?_
 refine Ev.bind (WideMul_ev (a := p.2) (b := q.2) (by omega)) ?_
 exact Ev.bind (RatioMake_ev (Int.mul_pos hp hq) (by omega) (by omega)) Ev.some
def okP (p : Int × Int) : Int × Int × Bool := if smallP p then (p.1, p.2, true) else (0, 0, false)
/-- Valid positions and scales. -/
def Val (n d z w b : Int) : Prop := (0 < d ∧ Int.gcd n d = 1) ∧ ((-1000000000 ≤ n ∧ n ≤ 1000000000) ∧ d ≤ 1000000000) ∧ (0 ≤ z ∧ z ≤ 15) ∧ (1 ≤ w ∧ w ≤ 10000) ∧ (1 ≤ b ∧ b ≤ 10000)
theorem box {a b A B : Int} (ha : -A ≤ a ∧ a ≤ A) (hb : 0 ≤ b ∧ b ≤ B) : -(A * B) ≤ a * b ∧ a * b ≤ A * B := by
 have h1 : a * b ≤ A * b := Int.mul_le_mul_of_nonneg_right ha.2 hb.1
 have h2 : -A * b ≤ a * b := Int.mul_le_mul_of_nonneg_right ha.1 hb.1
 have h3 : A * b ≤ A * B := Int.mul_le_mul_of_nonneg_left hb.2 (by omega)
 rw [Int.neg_mul] at h2
 omega
theorem Speed_ev {n d z w b : Int} (h : Val n d z w b) : Ev (fun k => Rf_Speed.f k n d z w b) (okP (red ((n - z * d) * w) (d * b))) := by
 obtain ⟨⟨hd, hg⟩, ⟨hn, hd2⟩, hz, hw, hb⟩ := h
 have hzd := box (a := z) (b := d) (A := 15) (B := 1000000000) (by omega) (by omega)
 have hl := red_le (a := w) (b := b) (by omega)
 obtain ⟨_, _, _, _, _, hq⟩ := red_spec (a := w) (b := b) (by omega)
 unfold Rf_Speed.f
 refine Ev.bind (RatioFrom_ev (a := n) hd (by omega) (by omega)) ?_
 refine Ev.bind (RatioInt_ev (a := z) (by omega)) ?_
 have hs : Ev (fun k => Bs_RatioSub.f k (Rt (red n d)).1 (Rt (red n d)).2.1 (Rt (red n d)).2.2.1 (Rt (red n d)).2.2.2 (Rt (z, 1)).1 (Rt (z, 1)).2.1 (Rt (z, 1)).2.2.1 (Rt (z, 1)).2.2.2) (Rt (red (n - z * d) d)) := by
  unfold Bs_RatioSub.f
  refine Ev.bind (Ev.const (RatioNeg_eq (z, 1))) ?_
  have := RatioAdd_ev (p := red n d) (q := (-z, 1)) (by rw [red_self hg]; exact hd) (by show (0 : Int) < 1; decide) (by rw [red_self hg]; unfold Sm3; show n.natAbs < _; omega) (by rw [red_self hg]; unfold Sm3; show d.natAbs < _; omega) (by unfold Sm3; show (-z).natAbs < _; omega) (by unfold Sm3; show (1 : Int).natAbs < _; decide)
  refine Ev.bind this ?_
  have e := red_addred (x := n) (y := d) (z := -z) hd
  rw [show (-z : Int) * d = -(z * d) by rw [Int.neg_mul]] at e
  rw [show n - z * d = n + -(z * d) by omega, ← e]
  exact Ev.some
 refine Ev.bind hs ?_
 refine Ev.bind (RatioOf_ev (a := w) (b := b) (by omega) (by omega) (by omega)) ?_
 have hl2 := red_le (a := n - z * d) (b := d) hd
 obtain ⟨_, _, _, _, _, hq2⟩ := red_spec (a := n - z * d) (b := d) hd
 have hm := RatioMul_ev (p := red (n - z * d) d) (q := red w b) hq2 hq (by unfold Sm3; omega) (by unfold Sm3; omega) (by unfold Sm3; omega) (by unfold Sm3; omega)
 rw [red_mulred hd (by omega)] at hm
 refine Ev.bind hm ?_
 exact Ev.bind (RatioFrac_ev _) Ev.some
theorem Position_ev {n d z w b : Int} (h : Val n d z w b) : Ev (fun k => Rf_Position.f k n d z w b) (okP (red (n * b + z * (d * w)) (d * w))) := by
 obtain ⟨⟨hd, hg⟩, ⟨hn, hd2⟩, hz, hw, hb⟩ := h
 have hdw : 0 < d * w := Int.mul_pos hd (by omega)
 have b1 := box (a := n) (b := b) (A := 1000000000) (B := 10000) (by omega) (by omega)
 have b2 := box (a := d) (b := w) (A := 1000000000) (B := 10000) (by omega) (by omega)
 have hl := red_le (a := b) (b := w) (by omega)
 obtain ⟨_, _, _, _, _, hq⟩ := red_spec (a := b) (b := w) (by omega)
 have hl2 := red_le (a := n * b) hdw
 obtain ⟨_, _, _, _, _, hq2⟩ := red_spec (a := n * b) hdw
 unfold Rf_Position.f
 refine Ev.bind (RatioFrom_ev (a := n) hd (by omega) (by omega)) ?_
 refine Ev.bind (RatioOf_ev (a := b) (b := w) (by omega) (by omega) (by omega)) ?_
 have hm := RatioMul_ev (p := red n d) (q := red b w) (by rw [red_self hg]; exact hd) hq (by rw [red_self hg]; unfold Sm3; show n.natAbs < _; omega) (by rw [red_self hg]; unfold Sm3; show d.natAbs < _; omega) (by unfold Sm3; omega) (by unfold Sm3; omega)
 rw [red_mulred hd (by omega)] at hm
 refine Ev.bind hm ?_
 refine Ev.bind (RatioInt_ev (a := z) (by omega)) ?_
 have ha := RatioAdd_ev (p := red (n * b) (d * w)) (q := (z, 1)) hq2 (by show (0 : Int) < 1; decide) (by unfold Sm3; omega) (by unfold Sm3; omega) (by unfold Sm3; show z.natAbs < _; omega) (by unfold Sm3; show (1 : Int).natAbs < _; decide)
 rw [red_addred hdw] at ha
 refine Ev.bind ha ?_
 exact Ev.bind (RatioFrac_ev _) Ev.some

def fErr (n d : Int) : Int := if 0 < d ∧ gq n d = 1 then (if (-1000000000 ≤ n ∧ n ≤ 1000000000) ∧ d ≤ 1000000000 then 0 else 2) else 3
def sErr (z w b : Int) : Int := if (0 ≤ z ∧ z ≤ 15) ∧ (1 ≤ w ∧ w ≤ 10000) ∧ (1 ≤ b ∧ b ≤ 10000) then 0 else 2
def spErr (n d z w b : Int) : Int := if fErr n d = 0 then sErr z w b else fErr n d
theorem gq_one {n d : Int} (h : gq n d = 1) : Int.gcd n d = 1 := by unfold gq at h; split at h <;> omega
theorem spErr_val {n d z w b : Int} (h : spErr n d z w b = 0) : Val n d z w b := by
 unfold spErr at h
 split at h
 ·rename_i hf
  unfold fErr at hf; unfold sErr at h
  split at hf
  ·rename_i h1
   split at hf
   ·rename_i h2
    split at h
    ·rename_i h3; exact ⟨⟨h1.1, gq_one h1.2⟩, h2, h3⟩
    ·omega
   ·omega
  ·omega
 ·omega
theorem lowErr9_ev {num den : Int} (hx : -9223372036854775808 ≤ num ∧ num ≤ 9223372036854775807) (hy : -9223372036854775808 ≤ den ∧ den ≤ 9223372036854775807) :
    Ev (fun k => L_lowestErr.f k num den 1000000000) (fErr num den) := by
  unfold L_lowestErr.f fErr
  have hj : ∀ b : Bool, Ev (fun k => L_lowestErr.j0 k 1000000000 b num den) (if b = true then 3 else if (-1000000000 ≤ num ∧ num ≤ 1000000000) ∧ den ≤ 1000000000 then 0 else 2) := fun b => by
    refine Ev.succ (f := fun k => L_lowestErr.j0 k 1000000000 b num den) ?_
    cases b with
    | true => simp only [L_lowestErr.j0, if_true]; exact Ev.some
    | false =>
      simp only [L_lowestErr.j0, Bool.false_eq_true, if_false, within_eq, unless_eq, Option.bind_some, show wrap64 (-1000000000) = -1000000000 by unfold wrap64; omega]
      by_cases h1 : -1000000000 ≤ num ∧ num ≤ 1000000000
      · by_cases h2 : den ≤ 1000000000
        · simp only [h1, h2, and_self, decide_true, if_true]; exact Ev.some
        · simp only [h1, h2, and_self, and_false, decide_true, decide_false, if_true, if_false, Bool.false_eq_true]; exact Ev.some
      · simp only [h1, decide_false, false_and, if_false, Bool.false_eq_true]; exact Ev.some
  by_cases h0 : den ≤ 0
  · simp only [h0, if_true, show ¬ 0 < den by omega, false_and, if_false]
    have := hj true
    simpa using this
  · simp only [h0, if_false, show 0 < den by omega, true_and]
    refine Ev.bind (divisor_ev hx hy) ?_
    refine cast ?_ (hj (gq num den != 1))
    congr 1
    by_cases h1 : gq num den = 1 <;> simp [h1]
theorem FracErr_ev {num den : Int} (hx : -9223372036854775808 ≤ num ∧ num ≤ 9223372036854775807) (hy : -9223372036854775808 ≤ den ∧ den ≤ 9223372036854775807) :
  Ev (fun k => Rf_FracErr.f k num den) (fErr num den) := by
 have h1 : Ev (fun k => Bs_IsLowest.f k num den) (decide (0 < den ∧ gq num den = 1)) := by
  unfold Bs_IsLowest.f
  by_cases h0 : den > 0
  ·simp only [h0, if_true, show 0 < den from h0, true_and]
   refine Ev.bind (gcd_ev hx hy) ?_
   by_cases e : gq num den = 1
   ·simp only [e]; exact Ev.some
   ·simp only [e, decide_false, show (gq num den == 1) = false from beq_eq_false_iff_ne.mpr e]; exact Ev.some
  ·simp only [h0, if_false, show ¬ 0 < den from h0, false_and, decide_false]
   exact Ev.some
 unfold Rf_FracErr.f fErr
 refine Ev.bind h1 ?_
 by_cases e : 0 < den ∧ gq num den = 1
 ·simp only [e, and_self, decide_true, if_true, Bs_IsSmall.f, Within_eq, Option.bind_some]
  have e1 := e.1
  by_cases q : -1000000000 ≤ num ∧ num ≤ 1000000000
  ·by_cases r : den ≤ 1000000000
   ·simp only [q, r, show (1 : Int) ≤ den by omega, and_self, decide_true, if_true, Option.bind_some]; exact Ev.some
   ·simp only [q, r, and_self, and_false, decide_true, decide_false, if_true, if_false, Bool.false_eq_true, Option.bind_some]; exact Ev.some
  ·simp only [q, false_and, decide_false, if_false, Bool.false_eq_true, Option.bind_some]; exact Ev.some
 ·simp only [e, decide_false, Bool.false_eq_true, if_false]; exact Ev.some
theorem scaleErr_eq (z w b : Int) : L_scaleErr.f z w b = some (sErr z w b) := by
 unfold L_scaleErr.f sErr L_scaleErr_1.f
 simp only [within_eq, unless_eq, Option.bind_some]
 by_cases h1 : 0 ≤ z ∧ z ≤ 15
 ·by_cases h2 : 1 ≤ w ∧ w ≤ 10000
  ·by_cases h3 : 1 ≤ b ∧ b ≤ 10000 <;> simp [h1, h2, h3]
  ·simp [h1, h2]
 ·simp [h1]
theorem ScaleErr_ev {n d z w b : Int} (hx : -9223372036854775808 ≤ n ∧ n ≤ 9223372036854775807) (hy : -9223372036854775808 ≤ d ∧ d ≤ 9223372036854775807) :
  Ev (fun k => Rf_ScaleErr.f k n d z w b) (spErr n d z w b) := by
 unfold Rf_ScaleErr.f spErr
 refine Ev.bind (FracErr_ev hx hy) ?_
 by_cases e : fErr n d = 0
 ·simp only [e, if_true, Within_eq, Option.bind_some, sErr]
  by_cases h1 : 0 ≤ z ∧ z ≤ 15
  ·by_cases h2 : 1 ≤ w ∧ w ≤ 10000
   ·by_cases h3 : 1 ≤ b ∧ b ≤ 10000
    ·simp only [h1, h2, h3, and_self, decide_true, if_true]; exact Ev.some
    ·simp only [h1, h2, h3, and_self, and_false, decide_true, decide_false, if_true, if_false, Bool.false_eq_true]; exact Ev.some
   ·simp only [h1, h2, and_self, false_and, and_false, decide_true, decide_false, if_true, if_false, Bool.false_eq_true]; exact Ev.some
  ·simp only [h1, false_and, decide_false, if_false, Bool.false_eq_true]; exact Ev.some
 ·simp only [e, if_false]; exact Ev.some

def okE (p : Int × Int) : Int × Int × Int := if smallP p then (p.1, p.2, 0) else (0, 0, 8)
theorem small_eq {a b : Int} (hb : 0 < b) : L_small.f a b = some (okE (a, b)) := by
 unfold L_small.f okE smallP
 simp only [within_eq, Option.bind_some, decide_eq_true_eq]
 by_cases h : -1000000000 ≤ a ∧ a ≤ 1000000000
 ·by_cases h2 : b ≤ 1000000000
  ·simp only [h, h2, show ¬ b > 1000000000 by omega, show (1 : Int) ≤ b by omega, and_self, if_true, if_false]
  ·simp only [h, h2, show b > 1000000000 by omega, and_self, and_false, if_true, if_false]
 ·simp only [h, false_and, if_false]
theorem SpeedAt_ev {n d z w b : Int} (hx : -9223372036854775808 ≤ n ∧ n ≤ 9223372036854775807) (hy : -9223372036854775808 ≤ d ∧ d ≤ 9223372036854775807) :
  Ev (fun k => L_SpeedAt.f k n d z w b) (if spErr n d z w b = 0 then okE (red ((n - z * d) * w) (d * b)) else (0, 0, spErr n d z w b)) := by
 unfold L_SpeedAt.f
 refine Ev.bind (lowErr9_ev hx hy) ?_
 rw [scaleErr_eq]
 simp only [Option.bind_some]
 refine Ev.bind (first_ev [fErr n d, sErr z w b] (by simp)) ?_
 have e : fnz [fErr n d, sErr z w b] = spErr n d z w b := by
  unfold spErr
  simp only [fnz]
  by_cases h : fErr n d = 0
  ·simp only [h, if_true]
   by_cases h2 : sErr z w b = 0 <;> simp [h2]
  ·simp only [h, if_false]
 rw [e]
 by_cases q : spErr n d z w b = 0
 ·simp only [q, if_true]
  obtain ⟨⟨hd, hg⟩, ⟨hn, hd2⟩, hz, hw, hb⟩ := spErr_val q
  have b1 := box (a := z) (b := d) (A := 15) (B := 1000000000) (by omega) (by omega)
  have b2 := box (a := n - z * d) (b := w) (A := 16000000000) (B := 10000) (by omega) (by omega)
  have b3 := box (a := d) (b := b) (A := 1000000000) (B := 10000) (by omega) (by omega)
  have hdb : 0 < d * b := Int.mul_pos hd (by omega)
  rw [w64 (n := z * d) (by omega), w64 (n := n - z * d) (by omega), w64 (n := (n - z * d) * w) (by omega), w64 (n := d * b) (by omega)]
  have hf := fraction_ev' (a := (n - z * d) * w) (b := d * b) (by omega) (by omega)
  rw [frac_red (by omega) (by omega)] at hf
  refine Ev.bind hf ?_
  obtain ⟨_, _, _, _, _, hq⟩ := red_spec (a := (n - z * d) * w) hdb
  rw [small_eq hq]
  exact Ev.some
 ·simp only [q, if_false]; exact Ev.some
theorem PositionOf_ev {n d z w b : Int} (hx : -9223372036854775808 ≤ n ∧ n ≤ 9223372036854775807) (hy : -9223372036854775808 ≤ d ∧ d ≤ 9223372036854775807) :
  Ev (fun k => L_PositionOf.f k n d z w b) (if spErr n d z w b = 0 then okE (red (n * b + z * (d * w)) (d * w)) else (0, 0, spErr n d z w b)) := by
 unfold L_PositionOf.f
 refine Ev.bind (lowErr9_ev hx hy) ?_
 rw [scaleErr_eq]
 simp only [Option.bind_some]
 refine Ev.bind (first_ev [fErr n d, sErr z w b] (by simp)) ?_
 have e : fnz [fErr n d, sErr z w b] = spErr n d z w b := by
  unfold spErr
  simp only [fnz]
  by_cases h : fErr n d = 0
  ·simp only [h, if_true]
   by_cases h2 : sErr z w b = 0 <;> simp [h2]
  ·simp only [h, if_false]
 rw [e]
 by_cases q : spErr n d z w b = 0
 ·simp only [q, if_true]
  obtain ⟨⟨hd, hg⟩, ⟨hn, hd2⟩, hz, hw, hb⟩ := spErr_val q
  have b1 := box (a := n) (b := b) (A := 1000000000) (B := 10000) (by omega) (by omega)
  have b2 := box (a := d) (b := w) (A := 1000000000) (B := 10000) (by omega) (by omega)
  have b3 := box (a := z) (b := d * w) (A := 15) (B := 10000000000000) (by omega) (by have := Int.mul_pos hd (show 0 < w by omega); omega)
  have hdw : 0 < d * w := Int.mul_pos hd (by omega)
  rw [w64 (n := d * w) (by omega), w64 (n := n * b) (by omega), w64 (n := z * (d * w)) (by omega), w64 (n := n * b + z * (d * w)) (by omega)]
  have hf := fraction_ev' (a := n * b + z * (d * w)) (b := d * w) (by omega) (by omega)
  rw [frac_red (by omega) (by omega)] at hf
  refine Ev.bind hf ?_
  obtain ⟨_, _, _, _, _, hq⟩ := red_spec (a := n * b + z * (d * w)) hdw
  rw [small_eq hq]
  exact Ev.some
 ·simp only [q, if_false]; exact Ev.some

theorem LineSpeeds_ev {n d : Int} (z w b : Int) (hx : -9223372036854775808 ≤ n ∧ n ≤ 9223372036854775807) (hy : -9223372036854775808 ≤ d ∧ d ≤ 9223372036854775807) : Ev (fun k => Lw_LineSpeeds.f k n d z w b) true := by
 unfold Lw_LineSpeeds.f
 refine Ev.bind awake_ev ?_
 simp only [if_true]
 refine Ev.bind (SpeedAt_ev hx hy) ?_
 refine Ev.bind (PositionOf_ev hx hy) ?_
 refine Ev.bind (ScaleErr_ev hx hy) ?_
 by_cases q : spErr n d z w b = 0
 ·have hv := spErr_val q
  simp only [q, if_true]
  refine Ev.bind (Speed_ev hv) ?_
  refine Ev.bind (Position_ev hv) ?_
  obtain ⟨⟨hd, hg⟩, ⟨hn, hd2⟩, hz, hw, hb⟩ := hv
  have hback := red_back (z := z) hd (show 0 < w by omega) (show 0 < b by omega) hg
  obtain ⟨_, _, _, _, hg2, hp2⟩ := red_spec (a := (n - z * d) * w) (Int.mul_pos hd (show 0 < b by omega))
  generalize red ((n - z * d) * w) (d * b) = p at *
  generalize red (n * b + z * (d * w)) (d * w) = r
  have hj : Ev (fun k => Lw_LineSpeeds.j0 k (okP p).2.2 false n d z w b (okE p).1 (okE p).2.1) true := by
   refine Ev.succ (f := fun k => Lw_LineSpeeds.j0 k (okP p).2.2 false n d z w b (okE p).1 (okE p).2.1) ?_
   by_cases hs : smallP p
   ·simp only [Lw_LineSpeeds.j0, okP, okE, hs, if_true, Bool.false_eq_true, if_false]
    have hs' := hs
    unfold smallP at hs'
    refine Ev.bind (PositionOf_ev (n := p.1) (d := p.2) (by omega) (by omega)) ?_
    have hq2 : gq p.1 p.2 = 1 := by unfold gq; rw [hg2]; rfl
    have hE : spErr p.1 p.2 z w b = 0 := by
     unfold spErr
     have hf : fErr p.1 p.2 = 0 := by unfold fErr; rw [if_pos ⟨hp2, hq2⟩, if_pos ⟨hs'.1, hs'.2.2⟩]
     rw [hf, if_pos rfl]; unfold sErr; rw [if_pos ⟨hz, hw, hb⟩]
    have hsm : smallP (n, d) := by unfold smallP; exact ⟨hn, by omega, hd2⟩
    simp only [hE, if_true, hback, okE, hsm, beq_self_eq_true, Bool.and_self]
    exact Ev.some
   ·simp only [Lw_LineSpeeds.j0, okP, hs, if_false, Bool.false_eq_true]; exact Ev.some
  by_cases h1 : smallP p
  ·by_cases h2 : smallP r
   ·simp only [okP, okE, h1, h2, if_true, beq_self_eq_true, Bool.not_true, Bool.or_self, Bool.false_eq_true, if_false] at hj ⊢
    exact hj
   ·simp only [okP, okE, h1, h2, if_true, beq_self_eq_true, Bool.not_true, Bool.or_self, Bool.false_eq_true, if_false, show ¬ (8 : Int) = 0 by decide] at hj ⊢
    exact hj
  ·by_cases h2 : smallP r
   ·simp only [okP, okE, h1, h2, if_true, beq_self_eq_true, Bool.not_true, Bool.or_self, Bool.false_eq_true, if_false, show ¬ (8 : Int) = 0 by decide] at hj ⊢
    exact hj
   ·simp only [okP, okE, h1, h2, if_true, beq_self_eq_true, Bool.not_true, Bool.or_self, Bool.false_eq_true, if_false, show ¬ (8 : Int) = 0 by decide] at hj ⊢
    exact hj
 ·simp only [q, if_false, if_true, beq_self_eq_true, Bool.and_self]; exact Ev.some
theorem LineSpeeds_pure (n : Int) (hx : (Lit.int .i64 n).wf = true) (d : Int) (hy : (Lit.int .i64 d).wf = true) (z : Int) (_ : (Lit.int .i64 z).wf = true) (w : Int) (_ : (Lit.int .i64 w).wf = true) (b : Int) (_ : (Lit.int .i64 b).wf = true) :
  ∃ k, Lw_LineSpeeds.f k n d z w b = some true := (LineSpeeds_ev z w b (i64_in hx) (i64_in hy)).ex
end Go.Proofs.YtjnkphmcndaijaaDoor.P
